/- Each function of the program does what its Lean function computes (part 1). No conditions. -/
import Derived.Test.YtkejjbiabpdhjaaTopMeanOfMeansDen
import Derived.Test.YtkejjbiabpdhjaaProg
set_option linter.unusedVariables false
set_option maxRecDepth 100000
namespace Go.Den
open Go.Ab Go.Proofs
def AllN (p:Nat→Prop):Nat→Prop
 | 0=>True
 | n+1=>AllN p n∧p n
theorem allN {p:Nat→Prop}:{n:Nat}→AllN p n→∀ i,i < n→p i
 | 0,_,_,h=>absurd h (Nat.not_lt_zero _)
 | n+1,h,i,hi=>if e:i=n then e ▸ h.2 else allN h.1 i (Nat.lt_of_le_of_ne (Nat.le_of_lt_succ hi) e)
theorem rnK1 {P:Program} {E:Env} {fn:FuncId} {nt:Nat} {Post:Value→World→Prop} {k:List Item} {st:St} (n t:Nat) (hr:Runs P E fn nt Post (.code (cdX (hdC (nK n k))) :: tlK (nK n k)) st) (h0:chkA n k=true:=by kernel_rfl)
  (hx:hdC (nK n k)=.cond (.tmp t) (cdX (hdC (nK n k))) (cdY (hdC (nK n k))):=by kernel_rfl) (hc:evOpd st.tm (.tmp t)=.atom (.bool true):=by kernel_rfl):Runs P E fn nt Post k st :=
 Runs.nC n t (q:=true) (x:=()) (y:=()) rfl (fun _ _=>hr) (fun h=>by cases h) h0 hx hc
theorem rnK0 {P:Program} {E:Env} {fn:FuncId} {nt:Nat} {Post:Value→World→Prop} {k:List Item} {st:St} (n t:Nat) (hr:Runs P E fn nt Post (.code (cdY (hdC (nK n k))) :: tlK (nK n k)) st) (h0:chkA n k=true:=by kernel_rfl)
  (hx:hdC (nK n k)=.cond (.tmp t) (cdX (hdC (nK n k))) (cdY (hdC (nK n k))):=by kernel_rfl) (hc:evOpd st.tm (.tmp t)=.atom (.bool false):=by kernel_rfl):Runs P E fn nt Post k st :=
 Runs.nC n t (q:=false) (x:=()) (y:=()) rfl (fun h=>by cases h) (fun _ _=>hr) h0 hx hc
abbrev qzd0 (xq0:(List Int)):=!(((xq0.length:Nat):Int) != 1)
abbrev qzd1 (xq0:TRat×Int) (xq1:(List TRat)×Int):=!(cond (xq0.2 != 0) true (xq1.2 != 0))
abbrev qzd2 (xq0:Tkeelblocktop_Drift):=!(cond (cond (decide (xq0.f_D < 1)) true (decide (xq0.f_D > 1000))) true (decide (xq0.f_V < 1)))
abbrev qzd3 (xq0:Tkeelblocktop_Drift):=!(cond (decide (xq0.f_D < 1)) true (decide (xq0.f_D > 1000)))
abbrev qzd4 (xq0:Tkeelblocktop_Drift) (xq1:Int):=!(decide ((pickI [xq0.f_A.e0,xq0.f_A.e1,xq0.f_A.e2,xq0.f_A.e3,xq0.f_A.e4] ((xq1).toNat)) < (-20)))
abbrev qzd5 (xq0:List TRun) (xq1:Int):=!(decide ((w64 ((xq0.getD ((w64 (xq1 - 1)).toNat) TRun.d).f_Start+(xq0.getD ((w64 (xq1 - 1)).toNat) TRun.d).f_Seconds)) > (xq0.getD ((xq1).toNat) TRun.d).f_Start))
abbrev qzd6 (xq0:List Int) (xq1:Int):=xq0 ++ ([(IntKind.u16.wrap (xq1))]:List Int)
abbrev qzd7 (xq0:List TRun) (xq1:Int):=xq0.getD ((xq1).toNat) TRun.d
abbrev qzd186 (xq0:List Int) (xq1:Int):=IntKind.u32.wrap ((xq0.getD ((xq1).toNat) 0))
abbrev qzd177 (xq0:List Int) (xq1:Int) (xq2:Int) (xq3:Int):=IntKind.u16.wrap ((IntKind.u32.wrap ((IntKind.u32.wrap ((qzd186 xq0 xq1)+(shlI .u32 xq2 16))) - xq3)))
abbrev qzd8 (xq0:List Int) (xq1:Int) (xq2:List Int) (xq3:Int) (xq4:Int):=xq0.set ((xq1).toNat) (qzd177 xq2 xq1 xq3 xq4)
abbrev qzd178 (xq0:Int) (xq1:List Int) (xq2:Int) (xq3:Int):=IntKind.u16.wrap ((IntKind.u32.wrap ((orI .u32 (shlI .u32 xq0 16) (qzd186 xq1 xq2)).tdiv (IntKind.u32.wrap (xq3)))))
abbrev qzd9 (xq0:List Int) (xq1:Int) (xq2:Int) (xq3:List Int) (xq4:Int):=xq0.set ((xq1).toNat) (qzd178 xq2 xq3 xq1 xq4)
abbrev qzd179 (xq0:List Int) (xq1:Int) (xq2:Int):=IntKind.u16.wrap ((shrI .u32 (orI .u32 (qzd186 xq0 xq1) (shlI .u32 (IntKind.u32.wrap ((xq0.getD ((w64 (xq1+1)).toNat) 0))) 16)) xq2))
abbrev qzd10 (xq0:List Int) (xq1:Int) (xq2:List Int) (xq3:Int):=xq0.set ((xq1).toNat) (qzd179 xq2 xq1 xq3)
abbrev qzd187 (xq0:List Int) (xq1:Int) (xq2:Int):=shlI .u32 (IntKind.u32.wrap ((xq0.getD ((xq1).toNat) 0))) xq2
abbrev qzd173 (xq0:List Int) (xq1:Int) (xq2:List Int) (xq3:Int):=xq0.set ((xq1).toNat) (orI .u16 (xq0.getD ((xq1).toNat) 0) (IntKind.u16.wrap ((qzd187 xq2 xq1 xq3))))
abbrev qzd11 (xq0:List Int) (xq1:Int) (xq2:List Int) (xq3:Int):=qzd173 xq0 xq1 xq2 xq3
abbrev qzd176 (xq0:Int) (xq1:List Int) (xq2:Int) (xq3:List Int) (xq4:Int) (xq5:List Int):=IntKind.u16.wrap ((IntKind.u32.wrap (xq0+(IntKind.u32.wrap ((IntKind.u32.wrap ((qzd186 xq1 xq2) * (qzd186 xq3 xq4)))+(IntKind.u32.wrap ((xq5.getD ((w64 (xq2+xq4)).toNat) 0))))))))
abbrev qzd12 (xq0:List Int) (xq1:Int) (xq2:Int) (xq3:Int) (xq4:List Int) (xq5:List Int):=xq0.set ((w64 (xq1+xq2)).toNat) (qzd176 xq3 xq4 xq1 xq5 xq2 xq0)
abbrev qzd175 (xq0:List TRat):=(w64 (((xq0.length:Nat):Int) - 1)).toNat
abbrev qzd13 (xq0:List TRat):=xq0.take (qzd175 xq0)
abbrev qzd14 (xq0:List Int) (xq1:Int) (xq2:List Int) (xq3:Int):=(qzd173 xq0 xq1 xq2 xq3).set ((w64 (xq1+1)).toNat) (IntKind.u16.wrap ((shrI .u32 (qzd187 xq2 xq1 xq3) 16)))
abbrev qzd15:=(List Int)
abbrev qzd16:=(List TRat)×Int
abbrev qzd17 (xq0:List Int):=([]:List Int) ++ xq0
abbrev qzd18 (xq0:Int) (xq1:Int):=(decide (xq0 < 65536)) && ((decide (xq0 < 65536)) && (!(decide (xq1 > 65535))))
abbrev qzd19:=(fun zm=>if zm=1 then [(.sl 1 (fun zi=>([[(aI 2),(aI 2),(aI 0),(aB false),(aB false),.nil]]:List (List AV)).getD zi []))] else (fun zi=>([[.nil],[.nil],[.nil],[.nil]]:List (List AV)).getD zi []) zm)
abbrev qzd20:=(fun zm=>if zm=2 then [(.sl 1 (fun zi=>([[(aI 2),(aI 2),(aI 1),(aB false),(aB false),.nil]]:List (List AV)).getD zi []))] else (fun zi=>([[.nil],[(.sl 1 (fun zi=>([[(aI 2),(aI 2),(aI 0),(aB false),(aB false),.nil]]:List (List AV)).getD zi []))],[.nil],[.nil]]:List (List AV)).getD zi []) zm)
abbrev qzd174 (xq0:List Int):=((xq0.length:Nat):Int)
abbrev qzd21 (xq0:Int) (xq1:List Int):=(w64 (xq0+(qzd174 xq1))).toNat
abbrev qzd182 (xq0:List Int) (xq1:List Int):=w64 (((xq0.length:Nat):Int)+((xq1.length:Nat):Int))
abbrev qzd22 (xq0:List Int) (xq1:List Int):=(qzd182 xq0 xq1).toNat
abbrev qzd183 (xq0:List Int):=w64 (((xq0.length:Nat):Int)+1)
abbrev qzd23 (xq0:List Int):=(qzd183 xq0).toNat
abbrev qzd185 (xq0:List Int):=(((xq0.length - 0):Nat):Int)
abbrev qzd184 (xq0:(List Int)) (xq1:List Int):=w64 (((xq0.length:Nat):Int) - (qzd185 xq1))
abbrev qzd24 (xq0:(List Int)) (xq1:List Int):=(qzd184 xq0 xq1).toNat
abbrev qzd25 (xq0:List Int):=(w64 ((qzd174 xq0) - 1)).toNat
abbrev qzd26 (xq0:TInt):AV:=.agg (TInt.cells xq0)
abbrev qzd27 (xq0:TRat):AV:=.agg (TRat.cells xq0)
abbrev qzd28 (xq0:Int×(List Int)):AV:=.atom (.int .u16 xq0.1)
abbrev qzd29 (xq0:Int):AV:=.atom (.int .u16 (IntKind.u16.wrap (xq0)))
abbrev qzd30 (xq0:Int):AV:=.atom (.int .u32 xq0)
abbrev qzd31 (xq0:Int):AV:=.atom (.int .u64 xq0)
abbrev qzd32 (xq0:List Int):AV:=.os 0 0 xq0.length
abbrev qzd33 (xq0:List TRun) (xq1:Int):AV:=.sl 1 (fun zi=>(fun zi=>([[(aI ((xq0.getD ((xq1).toNat) TRun.d).f_Start))]]:List (List AV)).getD zi []) (addz 0 zi))
abbrev qzd34 (xq0:TRat×Int):AV:=.tup [(.agg (TRat.cells xq0.1)),(aI xq0.2)]
abbrev qzd35 (xq0:Int×Bool):AV:=.tup [(.atom (.int .u64 xq0.1)),(aB xq0.2)]
abbrev qzd36 (xq0:(List TRat)×Int):AV:=.tup [(.os 1 0 xq0.1.length),(aI xq0.2)]
abbrev qzd37 (xq0:(List Int)×Int):AV:=.tup [(encL (cU .u16) 0 xq0.1),(.atom (.int .u16 xq0.2))]
abbrev qzd38 (xq0:(List Int)×(List Int)):AV:=.tup [(encL (cU .u16) 0 xq0.1),(encL (cU .u16) 0 xq0.2)]
abbrev qzd39 (xq0:List TRun):=(0,aO 4 TRun.cells TRun.d xq0)
abbrev qzd40 (xq0:Tkeelblocktop_Drift):=(0,vO 7 (Tkeelblocktop_Drift.cells xq0))
abbrev qzd41 (xq0:(List TRat)×Int):=(1,aO 4 TRat.cells TRat.d xq0.1)
abbrev qzd42 (xq0:List Int):=(14,(aI (qzd174 xq0)))
abbrev qzd43 (xq0:List TRat):=(2,aO 4 TRat.cells TRat.d xq0)
abbrev qzd44 (xq0:List Int):=(5,(aI (qzd174 xq0)))
abbrev qzd45 (xq0:Int):=(7,(aI (w64 (2+((w64 (xq0)).tmod 5)))))
abbrev qzd46:=Int×(List Int)
abbrev qzd47 (xq0:Int):=IntKind.u16.wrap (xq0)
abbrev qzd48 (xq0:Int) (xq1:List Int) (xq2:Nat) (xq3:Int) (xq4:List Int):=IntKind.u16.wrap ((IntKind.u32.wrap (xq0+(IntKind.u32.wrap ((IntKind.u32.wrap ((xq1.getD (addz xq2 (xq3).toNat) 0)))+(qzd186 xq4 xq3))))))
abbrev qzd49 (xq0:Int) (xq1:List Int) (xq2:Int) (xq3:List Int) (xq4:Int) (xq5:List Int):=qzd176 xq0 xq1 xq2 xq3 xq4 xq5
abbrev qzd50 (xq0:List Int) (xq1:Int) (xq2:Int) (xq3:Int):=qzd177 xq0 xq1 xq2 xq3
abbrev qzd51 (xq0:Int) (xq1:List Int) (xq2:Int) (xq3:Int):=qzd178 xq0 xq1 xq2 xq3
abbrev qzd52 (xq0:List Int) (xq1:Int) (xq2:Int):=qzd179 xq0 xq1 xq2
abbrev qzd53 (xq0:List Int) (xq1:Int) (xq2:Int):=IntKind.u16.wrap ((shrI .u32 (qzd187 xq0 xq1 xq2) 16))
abbrev qzd54 (xq0:List Int) (xq1:Nat) (xq2:Int) (xq3:Int) (xq4:Int):=IntKind.u16.wrap ((w64 ((w64 ((w64 ((xq0.getD (addz xq1 (xq2).toNat) 0))) - (w64 ((andI .u64 xq3 65535)))))+xq4)))
abbrev qzd55:=List TRat
abbrev qzd56 (xq0:List Int):=(List.replicate xq0.length 0:List Int)
abbrev qzd57 (xq0:List Int) (xq1:List Int):=(List.replicate ((qzd182 xq0 xq1).toNat) 0:List Int)
abbrev qzd58 (xq0:List Int):=(List.replicate ((qzd183 xq0).toNat) 0:List Int)
abbrev qzd59 (xq0:(List Int)) (xq1:List Int):=(List.replicate ((qzd184 xq0 xq1).toNat) 0:List Int)
abbrev qzd60 (xq0:Int):=([(IntKind.u16.wrap (xq0))]:List Int)
abbrev qzd61 (xq0:Int):=([(IntKind.u16.wrap ((andI .u64 xq0 65535)))]:List Int)
abbrev qzd62 (xq0:Int) (xq1:Tkeelblocktop_Drift) (xq2:Int) (xq3:Bool):=([(⟨(w64 (2000 * xq0)),xq1.f_D,(w64 (xq1.f_V+xq2)),(!(xq3 == ((xq0.tmod 2) == 1)))⟩:TRun)]:List TRun)
abbrev qzd63 (xq0:List Int):=aI (qzd174 xq0)
abbrev qzd64:=aI 1000000000
abbrev qzd65:=aS (⟨#[97]⟩:ByteArray)
abbrev qzd66:=aS (⟨#[98]⟩:ByteArray)
abbrev qzd67 (xq0:List Int):=decide ((qzd174 xq0) > 0)
abbrev qzd68 (xq0:List Int):=encL (cU .u16) 0 xq0
abbrev qzd69 (xq0:(List Int)):=encL (cU .u16) 0 xq0
abbrev qzd70 (xq0:List TRun):=encL TRun.cells TRun.d xq0
abbrev qzd180:=fun zi=>([[(aI 0)]]:List (List AV)).getD zi []
abbrev qzd71:=qzd180
abbrev qzd181:=fun zi=>([[(aI 2)],[(aI 2)]]:List (List AV)).getD zi []
abbrev qzd72:=qzd181
abbrev qzd73:=fun zi=>([[(aI 3),(aI 3),(aI 0)]]:List (List AV)).getD zi []
abbrev qzd74:=fun zi=>([[(aI 3)],[(aI 3)]]:List (List AV)).getD zi []
abbrev qzd75:=fun zi=>([[(aI 4),(aI 2),(aI 0)]]:List (List AV)).getD zi []
abbrev qzd76:=fun zi=>([[(aI 4)],[(aI 2)]]:List (List AV)).getD zi []
abbrev qzd77:=fun zi=>([[(aS (⟨#[97]⟩:ByteArray)),(aI 2),(aI 2),(aB false)],[(aS (⟨#[98]⟩:ByteArray)),(aI 2),(aI 2),(aB false)]]:List (List AV)).getD zi []
abbrev qzd78:=fun zi=>qzd180 (addz 0 zi)
abbrev qzd79:=fun zi=>qzd181 (addz 0 zi)
abbrev qzd80 (xq0:List TRat):=fun zi=>TRat.cells ((xq0.take (qzd175 xq0)).getD zi TRat.d)
abbrev qzd81:=kp [0,1,2]
abbrev qzd82:=kp [0,1,4,5,6]
abbrev qzd83:=kp [0,1,4]
abbrev qzd84:=kp [0,1,5,6]
abbrev qzd85:=kp [0,1,5,7,10,11,12,84,85]
abbrev qzd86:=kp [0,1,5,7,14,126,127]
abbrev qzd87:=kp [0,1,5,7,8,16]
abbrev qzd88:=kp [0,1,5,7,8]
abbrev qzd89:=kp [0,1,5,7,9,10,84,85]
abbrev qzd90:=kp [0,1,5]
abbrev qzd91:=kp [0,1,6,7,8]
abbrev qzd92:=kp [0,1,7,8,9]
abbrev qzd93:=kp [0,1,7,8]
abbrev qzd94:=kp [0,14,15,16]
abbrev qzd95:=kp [0,2,3,4,6]
abbrev qzd96:=kp [0,20,21,22]
abbrev qzd97:=kp [0,20,21]
abbrev qzd98:=kp [0,4,5]
abbrev qzd99:=kp [0,4,6,16]
abbrev qzd100:=kp [0,4,6,23,24]
abbrev qzd101:=kp [1,2,3,7,8,9]
abbrev qzd102:=kp [1,2,7,22,23,24,25]
abbrev qzd103:=kp [1,2,7,22,23,24]
abbrev qzd104:=kp [1,2,7,9,22,23,24,28]
abbrev qzd105:=kp [1,2,7,9,22,23,24,33]
abbrev qzd106:=kp [1,2,7,9,22,23,24,38]
abbrev qzd107:=kp [1,2,7,9,22,23,24]
abbrev qzd108:=kp [1,5,13,14,15]
abbrev qzd109:=kp [1,5,17,18,19]
abbrev qzd110:=kp [1,5,6,13,14,15]
abbrev qzd111:=kp [1,5,6,20,21,22]
abbrev qzd112:=kp [1,5,6,7,8,17,18,19,24,25,26]
abbrev qzd113:=kp [1,5,6,7,8,9,13,14,15]
abbrev qzd114:=kp [1,5,7,8,9,13,14,15]
abbrev qzd115:=kp [2,3,4,5,6]
abbrev qzd116:=kp [2,3,4]
abbrev qzd117:=kp [2,3,5]
abbrev qzd118:=kp [2,3,7,8]
abbrev qzd119:=kp [2,3,7,9,10,11]
abbrev qzd120:=kp [2,3,7,9,10]
abbrev qzd121:=kp [2,4,6,28,29]
abbrev qzd122:=kp [2,50,51,52,53]
abbrev qzd123:=kp [2,50,51,52]
abbrev qzd124:=kp [3,7,14,16]
abbrev qzd125:=kp [3,9,10,11,12,24,25,26,42]
abbrev qzd126:=kp [3,9,10,11,12,24,25,26]
abbrev qzd127:=kp [3,9,10,13,14,16,18,55,56,81,82,83,92,93,94]
abbrev qzd128:=kp [3,9,10,13,14,16,55,56,81,82,83,92,93,94,95]
abbrev qzd129:=kp [3,9,10,13,14,16,55,56,81,82,83,92,93,94]
abbrev qzd130:=kp [3,9,10,13,14,16,55,56,81,82,83]
abbrev qzd131:=kp [3,9,10,13,14,55,56,68]
abbrev qzd132:=kp [3,9,10,13,14,55,56,77]
abbrev qzd133:=kp [3,9,10,13,14,55,56,81,82,83,84]
abbrev qzd134:=kp [3,9,10,13,14,55,56,81,82,83]
abbrev qzd135:=kp [3,9,10,13,14,55,56]
abbrev qzd136:=kp [3,9,10,13,55,56,62]
abbrev qzd137:=kp [3,9,10,13,55,56]
abbrev qzd138:=kp [3,9,10,24,25,26,27]
abbrev qzd139:=kp [3,9,10,24,25,26]
abbrev qzd140:=kp [3,9,10,55,56,57]
abbrev qzd141:=kp [3,9,10,55,56]
abbrev qzd142:=kp [4,5,8,9,81,82]
abbrev qzd143:=kp [4,8,9,10,11,12]
abbrev qzd144:=kp [5,13,14,15]
abbrev qzd145:=kp [6,7,8]
abbrev qzd146:=kq [0,1,2,3]
abbrev qzd147:=kq [0,1,2] ++ [(3,.arr 3 4 (fun zi=>([[.nil],[(.sl 1 (fun zi=>([[(aI 2),(aI 2),(aI 0),(aB false),(aB false),.nil]]:List (List AV)).getD zi []))],[(.sl 1 (fun zi=>([[(aI 2),(aI 2),(aI 1),(aB false),(aB false),.nil]]:List (List AV)).getD zi []))],[(.sl 1 (fun zi=>([[(aI 4),(aI 2),(aI 0),(aB false),(aB false),(.sl 2 (fun zi=>([[(aI 2),(aI 2),(aI 1),(aB false),(aB false),.nil],[(aI 2),(aI 2),(aI 0),(aB false),(aB false),.nil]]:List (List AV)).getD zi []))]]:List (List AV)).getD zi []))]]:List (List AV)).getD zi []))] ++ kq [4]
abbrev qzd148:=kq [0,1,2] ++ [(3,.arr 3 4 (fun zi=>([[.nil],[(.sl 1 (fun zi=>([[(aI 2),(aI 2),(aI 0),(aB false),(aB false),.nil]]:List (List AV)).getD zi []))],[(.sl 1 (fun zi=>([[(aI 2),(aI 2),(aI 1),(aB false),(aB false),.nil]]:List (List AV)).getD zi []))],[.nil]]:List (List AV)).getD zi []))] ++ kq [4]
abbrev qzd149:=kq [0,1,2] ++ [(3,.arr 3 4 (fun zi=>([[.nil],[(.sl 1 (fun zi=>([[(aI 2),(aI 2),(aI 0),(aB false),(aB false),.nil]]:List (List AV)).getD zi []))],[(.sl 1 (fun zi=>([[(aI 2),(aI 2),(aI 1),(aB false),(aB false),.nil]]:List (List AV)).getD zi []))],[.nil]]:List (List AV)).getD zi []))]
abbrev qzd150:=kq [0,1,2] ++ [(3,.arr 3 4 (fun zi=>([[.nil],[(.sl 1 (fun zi=>([[(aI 2),(aI 2),(aI 0),(aB false),(aB false),.nil]]:List (List AV)).getD zi []))],[.nil],[.nil]]:List (List AV)).getD zi []))] ++ kq [4]
abbrev qzd151:=kq [0,1,2] ++ [(3,.arr 3 4 (fun zi=>([[.nil],[(.sl 1 (fun zi=>([[(aI 2),(aI 2),(aI 0),(aB false),(aB false),.nil]]:List (List AV)).getD zi []))],[.nil],[.nil]]:List (List AV)).getD zi []))]
abbrev qzd152:=kq [0,1,2] ++ [(3,.arr 3 4 (fun zi=>([[.nil],[.nil],[.nil],[.nil]]:List (List AV)).getD zi []))] ++ kq [4]
abbrev qzd153:=kq [0,1,2]
abbrev qzd154:=kq [0,16,32]
abbrev qzd155:=kq [0,16] ++ [(96,.arr 96 4 (fun zi=>([[.nil],[(.sl 1 (fun zi=>([[(aI 2),(aI 2),(aI 0),(aB false),(aB false),.nil]]:List (List AV)).getD zi []))],[(.sl 1 (fun zi=>([[(aI 2),(aI 2),(aI 1),(aB false),(aB false),.nil]]:List (List AV)).getD zi []))],[(.sl 1 (fun zi=>([[(aI 4),(aI 2),(aI 0),(aB false),(aB false),(.sl 2 (fun zi=>([[(aI 2),(aI 2),(aI 1),(aB false),(aB false),.nil],[(aI 2),(aI 2),(aI 0),(aB false),(aB false),.nil]]:List (List AV)).getD zi []))]]:List (List AV)).getD zi []))]]:List (List AV)).getD zi []))] ++ kq [112,1840]
abbrev qzd156:=kq [0,16] ++ [(96,.arr 96 4 (fun zi=>([[.nil],[(.sl 1 (fun zi=>([[(aI 2),(aI 2),(aI 0),(aB false),(aB false),.nil]]:List (List AV)).getD zi []))],[(.sl 1 (fun zi=>([[(aI 2),(aI 2),(aI 1),(aB false),(aB false),.nil]]:List (List AV)).getD zi []))],[(.sl 1 (fun zi=>([[(aI 4),(aI 2),(aI 0),(aB false),(aB false),(.sl 2 (fun zi=>([[(aI 2),(aI 2),(aI 1),(aB false),(aB false),.nil],[(aI 2),(aI 2),(aI 0),(aB false),(aB false),.nil]]:List (List AV)).getD zi []))]]:List (List AV)).getD zi []))]]:List (List AV)).getD zi []))] ++ kq [112]
abbrev qzd157:=kq [0,16] ++ [(96,.arr 96 4 (fun zi=>([[.nil],[(.sl 1 (fun zi=>([[(aI 2),(aI 2),(aI 0),(aB false),(aB false),.nil]]:List (List AV)).getD zi []))],[(.sl 1 (fun zi=>([[(aI 2),(aI 2),(aI 1),(aB false),(aB false),.nil]]:List (List AV)).getD zi []))],[.nil]]:List (List AV)).getD zi []))] ++ kq [112,1840,2048]
abbrev qzd158:=kq [0,16] ++ [(96,.arr 96 4 (fun zi=>([[.nil],[(.sl 1 (fun zi=>([[(aI 2),(aI 2),(aI 0),(aB false),(aB false),.nil]]:List (List AV)).getD zi []))],[(.sl 1 (fun zi=>([[(aI 2),(aI 2),(aI 1),(aB false),(aB false),.nil]]:List (List AV)).getD zi []))],[.nil]]:List (List AV)).getD zi []))] ++ kq [112,1840]
abbrev qzd159:=kq [0,16] ++ [(96,.arr 96 4 (fun zi=>([[.nil],[(.sl 1 (fun zi=>([[(aI 2),(aI 2),(aI 0),(aB false),(aB false),.nil]]:List (List AV)).getD zi []))],[(.sl 1 (fun zi=>([[(aI 2),(aI 2),(aI 1),(aB false),(aB false),.nil]]:List (List AV)).getD zi []))],[.nil]]:List (List AV)).getD zi []))] ++ kq [112,624]
abbrev qzd160:=kq [0,16] ++ [(96,.arr 96 4 (fun zi=>([[.nil],[(.sl 1 (fun zi=>([[(aI 2),(aI 2),(aI 0),(aB false),(aB false),.nil]]:List (List AV)).getD zi []))],[(.sl 1 (fun zi=>([[(aI 2),(aI 2),(aI 1),(aB false),(aB false),.nil]]:List (List AV)).getD zi []))],[.nil]]:List (List AV)).getD zi []))] ++ kq [112]
abbrev qzd161:=kq [0,16] ++ [(96,.arr 96 4 (fun zi=>([[.nil],[(.sl 1 (fun zi=>([[(aI 2),(aI 2),(aI 0),(aB false),(aB false),.nil]]:List (List AV)).getD zi []))],[.nil],[.nil]]:List (List AV)).getD zi []))] ++ kq [112,288]
abbrev qzd162:=kq [0,16] ++ [(96,.arr 96 4 (fun zi=>([[.nil],[(.sl 1 (fun zi=>([[(aI 2),(aI 2),(aI 0),(aB false),(aB false),.nil]]:List (List AV)).getD zi []))],[.nil],[.nil]]:List (List AV)).getD zi []))] ++ kq [112,624]
abbrev qzd163:=kq [0,16] ++ [(96,.arr 96 4 (fun zi=>([[.nil],[(.sl 1 (fun zi=>([[(aI 2),(aI 2),(aI 0),(aB false),(aB false),.nil]]:List (List AV)).getD zi []))],[.nil],[.nil]]:List (List AV)).getD zi []))] ++ kq [112]
abbrev qzd164:=kq [0,16] ++ [(96,.arr 96 4 (fun zi=>([[.nil],[.nil],[.nil],[.nil]]:List (List AV)).getD zi []))] ++ kq [112,288]
abbrev qzd165:=kq [0,16] ++ [(96,.arr 96 4 (fun zi=>([[.nil],[.nil],[.nil],[.nil]]:List (List AV)).getD zi []))] ++ kq [112]
abbrev qzd166:=kq [0,16]
abbrev qzd167:=kq [0] ++ [(1,.keep 16),(2,.keep 32)]
abbrev qzd168:=kq [0] ++ [(1,.nil 4 (fun zi=>TRat.cells (([]:List TRat).getD zi TRat.d)))]
abbrev qzd169:=kq [144,272]
abbrev qzd170:=kq [144,736]
abbrev qzd171:=kq [64,448]
abbrev qzd172 (xq0:List Int) (xq1:Int) (xq2:List Int) (xq3:Int):=orI .u16 (xq0.getD ((xq1).toNat) 0) (IntKind.u16.wrap ((qzd187 xq2 xq1 xq3)))
theorem g_survey_letter_ok (N:Nat) (r:Unit) (h:g_survey_letter N=some r):Sound Try.prog 49 [(.atom (.int .u8 97))] [] 0 (aB true) []:=by
 refine sO Try.f49 17 fun E hE=>?_
 refine rnZ hE 1 (kp [0]) [] 16 ?_
 refine rnH hE 1 [(3,⟨[],true,.unk,[],1,false,none⟩),(4,⟨[],true,.unk,[],1,false,none⟩),(7,⟨[],true,(aB false),[],2,false,none⟩),(8,⟨[],true,(aB false),[],2,false,none⟩),(9,⟨[],true,(aB false),[],2,false,none⟩),(10,⟨[],true,(aB false),[],2,false,none⟩),(11,⟨[],true,(aB false),[],2,false,none⟩),(12,⟨[],true,(aB false),[],2,false,none⟩)] (kp [2]) [] 256 (pc (Eq.refl true) (pc (Eq.refl true) (pc (Eq.refl false) (pc (Eq.refl false) (pc (Eq.refl false) (pc (Eq.refl false) (pc (Eq.refl false) (pc (Eq.refl false) (pc (show (!true)=true→AllP [(!true)=true] from (fun hq=>absurd hq (by decide))) pn))))))))) ?_
 exact Runs.nT hE 0 Try.f49 [] (kp [2]) [] 256 pn [] pn
theorem g_survey_name_ok (N:Nat) (r:Unit) (h:g_survey_name N=some r):Sound Try.prog 31 [qzd65] [] 0 (aB true) []:=by
 refine sO Try.f31 43 fun E hE=>?_
 refine rnZ hE 1 (kp [0]) [] 16 ?_
 refine rnH hE 2 [(4,⟨[],true,.unk,[],1,false,none⟩),(5,⟨[],true,.unk,[],1,false,none⟩),(6,⟨[],true,.unk,[],1,false,none⟩),(9,⟨[],true,.unk,[],1,false,none⟩),(10,⟨[],true,.unk,[],1,false,none⟩),(11,⟨[],true,(aB true),[],1,false,none⟩),(12,⟨[],true,.unk,[],1,false,none⟩)] (kp [0,18]) [] 240 (pc (Eq.refl true) (pc (Eq.refl true) (pc (Eq.refl true) (pc (Eq.refl true) (pc (Eq.refl true) (pc (show 0≤(0:Int)∧(0:Int) < ((1:Nat):Int) by decide) (pc (Eq.refl true) (pc (g_survey_letter_ok N () rfl) (pc (Eq.refl true) pn))))))))) ?_
 refine rnK0 0 18 ?_
 refine rnZ hE 3 qzd97 [] 288 ?_
 refine rnZ hE 3 qzd96 [] 304 ?_
 refine rnK1 1 22 ?_
 refine rnZ hE 4 (kp [0,3,20,21]) [] 336 ?_
 refine rnP hE 1 (kp [0,4,20,21]) [] 400 (pc (show 0≤(0:Int)∧(0:Int) < ((1:Nat):Int) by decide) pn) ?_
 refine rnH hE 1 [(1,⟨[],true,(aB true),[],0,false,none⟩),(4,⟨[],true,(aB false),[],2,false,none⟩),(5,⟨[],true,(aB false),[],2,false,none⟩),(8,⟨[],true,(aB false),[],2,false,none⟩),(9,⟨[],true,(aB false),[],2,false,none⟩),(10,⟨[],true,(aB false),[],2,false,none⟩),(11,⟨[],true,(aB false),[],2,false,none⟩),(12,⟨[],true,(aB false),[],2,false,none⟩),(13,⟨[],true,(aB false),[],2,false,none⟩)] (kp [0,20,21,41]) [] 640 (pc (g_survey_letter_ok N () rfl) (pc (Eq.refl false) (pc (Eq.refl false) (pc (show false=true→AllP [false=true] from (fun hq=>absurd hq (by decide))) (pc (Eq.refl false) (pc (Eq.refl false) (pc (Eq.refl false) (pc (Eq.refl false) (pc (Eq.refl false) (pc (Eq.refl false) (pc (show false=true→AllP [false=true] from (fun hq=>absurd hq (by decide))) pn))))))))))) ?_
 refine rnK0 0 41 ?_
 refine rnZ hE 2 qzd97 [] 672 ?_
 refine rnZ hE 2 qzd96 [] 688 ?_
 refine rnK0 1 22 ?_
 refine rnZ hE 2 (kp [2]) [] 704 ?_
 exact Runs.nT hE 0 Try.f31 [] (kp [2]) [] 704 pn [] pn
theorem g_survey_inside_1_ok (N:Nat) (r:Unit) (h:g_survey_inside_1 N=some r):Sound Try.prog 51 [(aI 2),(.op 0 0 0),(.op 1 0 0)] [(0,vO 1 [(aI 1)]),(1,vO 1 [(aI 100000)])] 2 (aB false) [(0,vO 1 [(aI 1)]),(1,vO 1 [(aI 100000)])]:=by
 refine sO Try.f51 13 fun E hE=>?_
 refine rnZ hE 1 qzd81 (kq [0,1]) 18 ?_
 refine rnH hE 1 [(4,⟨[],true,.unk,[],1,false,none⟩),(5,⟨[],true,.unk,[],1,false,none⟩),(6,⟨[],true,.unk,[],1,false,none⟩)] (kp [4]) (kq [0,1]) 162 (pc o1 (pc (Eq.refl true) (pc (Eq.refl true) (pc o1 (pc (Eq.refl true) pn))))) ?_
 exact Runs.nT hE 0 Try.f51 [] (kp [4]) (kq [0,1]) 162 pn [] pn
theorem g_slices_IndexFunc_int_int_ok (N:Nat) (r:Unit) (h:g_slices_IndexFunc_int_int N=some r):Sound Try.prog 65 [(.sl 2 qzd72),(.fn (.func 51) [] [(.op 0 0 0),(.op 1 0 0)])] [(0,vO 1 [(aI 1)]),(1,vO 1 [(aI 100000)])] 2 (aI (-1)) [(0,vO 1 [(aI 1)]),(1,vO 1 [(aI 100000)])]:=by
 refine sO Try.f65 19 fun E hE=>?_
 refine rnZ hE 1 (kp [0,1]) (kq [0,1]) 18 ?_
 refine rnZ hE 2 qzd93 (kq [0,1]) 66 ?_
 refine rnZ hE 3 qzd92 (kq [0,1]) 82 ?_
 refine rnK1 1 9 ?_
 refine rnZ hE 4 qzd88 (kq [0,1]) 114 ?_
 refine rnH hE 1 [(5,⟨[0,1],true,(aB false),[],0,false,none⟩)] qzd87 (kq [0,1]) 210 (pc (show 0≤(0:Int)∧(0:Int) < ((2:Nat):Int) by decide) (pc (g_survey_inside_1_ok N () rfl) pn)) ?_
 refine rnK0 0 16 ?_
 refine rnZ hE 2 qzd93 (kq [0,1]) 242 ?_
 refine rnZ hE 2 qzd92 (kq [0,1]) 258 ?_
 refine rnK1 1 9 ?_
 refine rnZ hE 4 qzd88 (kq [0,1]) 290 ?_
 refine rnH hE 1 [(5,⟨[0,1],true,(aB false),[],0,false,none⟩)] qzd87 (kq [0,1]) 386 (pc (show 0≤(1:Int)∧(1:Int) < ((2:Nat):Int) by decide) (pc (g_survey_inside_1_ok N () rfl) pn)) ?_
 refine rnK0 0 16 ?_
 refine rnZ hE 2 qzd93 (kq [0,1]) 418 ?_
 refine rnZ hE 2 qzd92 (kq [0,1]) 434 ?_
 refine rnK0 1 9 ?_
 refine rnZ hE 2 (kp [4]) (kq [0,1]) 450 ?_
 exact Runs.nT hE 0 Try.f65 [] (kp [4]) (kq [0,1]) 450 pn [] pn
theorem g_slices_ContainsFunc_int_int_ok (N:Nat) (r:Unit) (h:g_slices_ContainsFunc_int_int N=some r):Sound Try.prog 50 [(.sl 2 qzd72),(.fn (.func 51) [] [(.op 0 0 0),(.op 1 0 0)])] [(0,vO 1 [(aI 1)]),(1,vO 1 [(aI 100000)])] 2 (aB false) [(0,vO 1 [(aI 1)]),(1,vO 1 [(aI 100000)])]:=by
 refine sO Try.f50 9 fun E hE=>?_
 refine rnZ hE 1 (kp [0,1]) (kq [0,1]) 18 ?_
 refine rnH hE 1 [(2,⟨[0,1],true,(aI (-1)),[],0,false,none⟩)] (kp [4]) (kq [0,1]) 98 (pc (g_slices_IndexFunc_int_int_ok N () rfl) pn) ?_
 exact Runs.nT hE 0 Try.f50 [] (kp [4]) (kq [0,1]) 98 pn [] pn
theorem g_survey_inside_ok (N:Nat) (r:Unit) (h:g_survey_inside N=some r):Sound Try.prog 32 [(aI 1),(aI 100000),(.sl 2 qzd72)] [] 0 (aB true) []:=by
 refine sO Try.f32 11 fun E hE=>?_
 refine rnZ hE 1 qzd116 qzd166 48 ?_
 refine rnH hE 1 [(2,⟨[0,16],true,(aB false),[],0,false,none⟩)] (kp [6]) [] 128 (pc (g_slices_ContainsFunc_int_int_ok N () rfl) pn) ?_
 exact Runs.nT hE 0 Try.f32 [] (kp [6]) [] 128 pn [] pn
theorem g_survey_letter_v2_ok (N:Nat) (r:Unit) (h:g_survey_letter_v2 N=some r):Sound Try.prog 49 [(.atom (.int .u8 98))] [] 0 (aB true) []:=by
 refine sO Try.f49 17 fun E hE=>?_
 refine rnZ hE 1 (kp [0]) [] 16 ?_
 refine rnH hE 1 [(3,⟨[],true,.unk,[],1,false,none⟩),(4,⟨[],true,.unk,[],1,false,none⟩),(7,⟨[],true,(aB false),[],2,false,none⟩),(8,⟨[],true,(aB false),[],2,false,none⟩),(9,⟨[],true,(aB false),[],2,false,none⟩),(10,⟨[],true,(aB false),[],2,false,none⟩),(11,⟨[],true,(aB false),[],2,false,none⟩),(12,⟨[],true,(aB false),[],2,false,none⟩)] (kp [2]) [] 256 (pc (Eq.refl true) (pc (Eq.refl true) (pc (Eq.refl false) (pc (Eq.refl false) (pc (Eq.refl false) (pc (Eq.refl false) (pc (Eq.refl false) (pc (Eq.refl false) (pc (show (!true)=true→AllP [(!true)=true] from (fun hq=>absurd hq (by decide))) pn))))))))) ?_
 exact Runs.nT hE 0 Try.f49 [] (kp [2]) [] 256 pn [] pn
theorem g_survey_name_v2_ok (N:Nat) (r:Unit) (h:g_survey_name_v2 N=some r):Sound Try.prog 31 [qzd66] [] 0 (aB true) []:=by
 refine sO Try.f31 43 fun E hE=>?_
 refine rnZ hE 1 (kp [0]) [] 16 ?_
 refine rnH hE 2 [(4,⟨[],true,.unk,[],1,false,none⟩),(5,⟨[],true,.unk,[],1,false,none⟩),(6,⟨[],true,.unk,[],1,false,none⟩),(9,⟨[],true,.unk,[],1,false,none⟩),(10,⟨[],true,.unk,[],1,false,none⟩),(11,⟨[],true,(aB true),[],1,false,none⟩),(12,⟨[],true,.unk,[],1,false,none⟩)] (kp [0,18]) [] 240 (pc (Eq.refl true) (pc (Eq.refl true) (pc (Eq.refl true) (pc (Eq.refl true) (pc (Eq.refl true) (pc (show 0≤(0:Int)∧(0:Int) < ((1:Nat):Int) by decide) (pc (Eq.refl true) (pc (g_survey_letter_v2_ok N () rfl) (pc (Eq.refl true) pn))))))))) ?_
 refine rnK0 0 18 ?_
 refine rnZ hE 3 qzd97 [] 288 ?_
 refine rnZ hE 3 qzd96 [] 304 ?_
 refine rnK1 1 22 ?_
 refine rnZ hE 4 (kp [0,3,20,21]) [] 336 ?_
 refine rnP hE 1 (kp [0,4,20,21]) [] 400 (pc (show 0≤(0:Int)∧(0:Int) < ((1:Nat):Int) by decide) pn) ?_
 refine rnH hE 1 [(1,⟨[],true,(aB true),[],0,false,none⟩),(4,⟨[],true,(aB false),[],2,false,none⟩),(5,⟨[],true,(aB false),[],2,false,none⟩),(8,⟨[],true,(aB false),[],2,false,none⟩),(9,⟨[],true,(aB false),[],2,false,none⟩),(10,⟨[],true,(aB false),[],2,false,none⟩),(11,⟨[],true,(aB false),[],2,false,none⟩),(12,⟨[],true,(aB false),[],2,false,none⟩),(13,⟨[],true,(aB false),[],2,false,none⟩)] (kp [0,20,21,41]) [] 640 (pc (g_survey_letter_v2_ok N () rfl) (pc (Eq.refl false) (pc (Eq.refl false) (pc (show false=true→AllP [false=true] from (fun hq=>absurd hq (by decide))) (pc (Eq.refl false) (pc (Eq.refl false) (pc (Eq.refl false) (pc (Eq.refl false) (pc (Eq.refl false) (pc (Eq.refl false) (pc (show false=true→AllP [false=true] from (fun hq=>absurd hq (by decide))) pn))))))))))) ?_
 refine rnK0 0 41 ?_
 refine rnZ hE 2 qzd97 [] 672 ?_
 refine rnZ hE 2 qzd96 [] 688 ?_
 refine rnK0 1 22 ?_
 refine rnZ hE 2 (kp [2]) [] 704 ?_
 exact Runs.nT hE 0 Try.f31 [] (kp [2]) [] 704 pn [] pn
theorem g_survey_inside_1_v2_ok (N:Nat) (r:Unit) (h:g_survey_inside_1_v2 N=some r):Sound Try.prog 51 [(aI 4),(.op 0 0 0),(.op 1 0 0)] [(0,vO 1 [(aI 1)]),(1,vO 1 [(aI 100000)])] 2 (aB false) [(0,vO 1 [(aI 1)]),(1,vO 1 [(aI 100000)])]:=by
 refine sO Try.f51 13 fun E hE=>?_
 refine rnZ hE 1 qzd81 (kq [0,1]) 18 ?_
 refine rnH hE 1 [(4,⟨[],true,.unk,[],1,false,none⟩),(5,⟨[],true,.unk,[],1,false,none⟩),(6,⟨[],true,.unk,[],1,false,none⟩)] (kp [4]) (kq [0,1]) 162 (pc o1 (pc (Eq.refl true) (pc (Eq.refl true) (pc o1 (pc (Eq.refl true) pn))))) ?_
 exact Runs.nT hE 0 Try.f51 [] (kp [4]) (kq [0,1]) 162 pn [] pn
theorem g_slices_IndexFunc_int_int_v2_ok (N:Nat) (r:Unit) (h:g_slices_IndexFunc_int_int_v2 N=some r):Sound Try.prog 65 [(.sl 2 qzd76),(.fn (.func 51) [] [(.op 0 0 0),(.op 1 0 0)])] [(0,vO 1 [(aI 1)]),(1,vO 1 [(aI 100000)])] 2 (aI (-1)) [(0,vO 1 [(aI 1)]),(1,vO 1 [(aI 100000)])]:=by
 refine sO Try.f65 19 fun E hE=>?_
 refine rnZ hE 1 (kp [0,1]) (kq [0,1]) 18 ?_
 refine rnZ hE 2 qzd93 (kq [0,1]) 66 ?_
 refine rnZ hE 3 qzd92 (kq [0,1]) 82 ?_
 refine rnK1 1 9 ?_
 refine rnZ hE 4 qzd88 (kq [0,1]) 114 ?_
 refine rnH hE 1 [(5,⟨[0,1],true,(aB false),[],0,false,none⟩)] qzd87 (kq [0,1]) 210 (pc (show 0≤(0:Int)∧(0:Int) < ((2:Nat):Int) by decide) (pc (g_survey_inside_1_v2_ok N () rfl) pn)) ?_
 refine rnK0 0 16 ?_
 refine rnZ hE 2 qzd93 (kq [0,1]) 242 ?_
 refine rnZ hE 2 qzd92 (kq [0,1]) 258 ?_
 refine rnK1 1 9 ?_
 refine rnZ hE 4 qzd88 (kq [0,1]) 290 ?_
 refine rnH hE 1 [(5,⟨[0,1],true,(aB false),[],0,false,none⟩)] qzd87 (kq [0,1]) 386 (pc (show 0≤(1:Int)∧(1:Int) < ((2:Nat):Int) by decide) (pc (g_survey_inside_1_ok N () rfl) pn)) ?_
 refine rnK0 0 16 ?_
 refine rnZ hE 2 qzd93 (kq [0,1]) 418 ?_
 refine rnZ hE 2 qzd92 (kq [0,1]) 434 ?_
 refine rnK0 1 9 ?_
 refine rnZ hE 2 (kp [4]) (kq [0,1]) 450 ?_
 exact Runs.nT hE 0 Try.f65 [] (kp [4]) (kq [0,1]) 450 pn [] pn
theorem g_slices_ContainsFunc_int_int_v2_ok (N:Nat) (r:Unit) (h:g_slices_ContainsFunc_int_int_v2 N=some r):Sound Try.prog 50 [(.sl 2 qzd76),(.fn (.func 51) [] [(.op 0 0 0),(.op 1 0 0)])] [(0,vO 1 [(aI 1)]),(1,vO 1 [(aI 100000)])] 2 (aB false) [(0,vO 1 [(aI 1)]),(1,vO 1 [(aI 100000)])]:=by
 refine sO Try.f50 9 fun E hE=>?_
 refine rnZ hE 1 (kp [0,1]) (kq [0,1]) 18 ?_
 refine rnH hE 1 [(2,⟨[0,1],true,(aI (-1)),[],0,false,none⟩)] (kp [4]) (kq [0,1]) 98 (pc (g_slices_IndexFunc_int_int_v2_ok N () rfl) pn) ?_
 exact Runs.nT hE 0 Try.f50 [] (kp [4]) (kq [0,1]) 98 pn [] pn
theorem g_survey_inside_v2_ok (N:Nat) (r:Unit) (h:g_survey_inside_v2 N=some r):Sound Try.prog 32 [(aI 1),(aI 100000),(.sl 2 qzd76)] [] 0 (aB true) []:=by
 refine sO Try.f32 11 fun E hE=>?_
 refine rnZ hE 1 qzd116 qzd166 48 ?_
 refine rnH hE 1 [(2,⟨[0,16],true,(aB false),[],0,false,none⟩)] (kp [6]) [] 128 (pc (g_slices_ContainsFunc_int_int_v2_ok N () rfl) pn) ?_
 exact Runs.nT hE 0 Try.f32 [] (kp [6]) [] 128 pn [] pn
theorem g_survey_inside_1_v3_ok (N:Nat) (r:Unit) (h:g_survey_inside_1_v3 N=some r):Sound Try.prog 51 [(aI 0),(.op 0 0 0),(.op 1 0 0)] [(0,vO 1 [(aI 0)]),(1,vO 1 [qzd64])] 2 (aB false) [(0,vO 1 [(aI 0)]),(1,vO 1 [qzd64])]:=by
 refine sO Try.f51 13 fun E hE=>?_
 refine rnZ hE 1 qzd81 (kq [0,1]) 18 ?_
 refine rnH hE 1 [(4,⟨[],true,.unk,[],1,false,none⟩),(5,⟨[],true,.unk,[],1,false,none⟩),(6,⟨[],true,.unk,[],1,false,none⟩)] (kp [4]) (kq [0,1]) 162 (pc o1 (pc (Eq.refl true) (pc (Eq.refl true) (pc o1 (pc (Eq.refl true) pn))))) ?_
 exact Runs.nT hE 0 Try.f51 [] (kp [4]) (kq [0,1]) 162 pn [] pn
theorem g_slices_IndexFunc_int_int_v3_ok (N:Nat) (r:Unit) (h:g_slices_IndexFunc_int_int_v3 N=some r):Sound Try.prog 65 [(.sl 1 qzd71),(.fn (.func 51) [] [(.op 0 0 0),(.op 1 0 0)])] [(0,vO 1 [(aI 0)]),(1,vO 1 [qzd64])] 2 (aI (-1)) [(0,vO 1 [(aI 0)]),(1,vO 1 [qzd64])]:=by
 refine sO Try.f65 19 fun E hE=>?_
 refine rnZ hE 1 (kp [0,1]) (kq [0,1]) 18 ?_
 refine rnZ hE 2 qzd93 (kq [0,1]) 66 ?_
 refine rnZ hE 3 qzd92 (kq [0,1]) 82 ?_
 refine rnK1 1 9 ?_
 refine rnZ hE 4 qzd88 (kq [0,1]) 114 ?_
 refine rnH hE 1 [(5,⟨[0,1],true,(aB false),[],0,false,none⟩)] qzd87 (kq [0,1]) 210 (pc (show 0≤(0:Int)∧(0:Int) < ((1:Nat):Int) by decide) (pc (g_survey_inside_1_v3_ok N () rfl) pn)) ?_
 refine rnK0 0 16 ?_
 refine rnZ hE 2 qzd93 (kq [0,1]) 242 ?_
 refine rnZ hE 2 qzd92 (kq [0,1]) 258 ?_
 refine rnK0 1 9 ?_
 refine rnZ hE 2 (kp [4]) (kq [0,1]) 274 ?_
 exact Runs.nT hE 0 Try.f65 [] (kp [4]) (kq [0,1]) 274 pn [] pn
theorem g_slices_ContainsFunc_int_int_v3_ok (N:Nat) (r:Unit) (h:g_slices_ContainsFunc_int_int_v3 N=some r):Sound Try.prog 50 [(.sl 1 qzd71),(.fn (.func 51) [] [(.op 0 0 0),(.op 1 0 0)])] [(0,vO 1 [(aI 0)]),(1,vO 1 [qzd64])] 2 (aB false) [(0,vO 1 [(aI 0)]),(1,vO 1 [qzd64])]:=by
 refine sO Try.f50 9 fun E hE=>?_
 refine rnZ hE 1 (kp [0,1]) (kq [0,1]) 18 ?_
 refine rnH hE 1 [(2,⟨[0,1],true,(aI (-1)),[],0,false,none⟩)] (kp [4]) (kq [0,1]) 98 (pc (g_slices_IndexFunc_int_int_v3_ok N () rfl) pn) ?_
 exact Runs.nT hE 0 Try.f50 [] (kp [4]) (kq [0,1]) 98 pn [] pn
theorem g_survey_inside_v3_ok (N:Nat) (r:Unit) (h:g_survey_inside_v3 N=some r):Sound Try.prog 32 [(aI 0),qzd64,(.sl 1 qzd71)] [] 0 (aB true) []:=by
 refine sO Try.f32 11 fun E hE=>?_
 refine rnZ hE 1 qzd116 qzd166 48 ?_
 refine rnH hE 1 [(2,⟨[0,16],true,(aB false),[],0,false,none⟩)] (kp [6]) [] 128 (pc (g_slices_ContainsFunc_int_int_v3_ok N () rfl) pn) ?_
 exact Runs.nT hE 0 Try.f32 [] (kp [6]) [] 128 pn [] pn
theorem g_survey_checkPlate_ok (N:Nat) (r:Unit) (h:g_survey_checkPlate N=some r):Sound Try.prog 33 [(.agg [(aI 4),(aI 2),(aI 0)])] [] 0 (aI 0) []:=by
 refine sO Try.f33 17 fun E hE=>?_
 refine rnZ hE 1 (kp [1]) (kq [0]) 32 ?_
 refine rnH hE 2 [(5,⟨[],true,(aB true),[],0,false,none⟩),(8,⟨[],true,.unk,[],1,false,none⟩),(9,⟨[],true,.unk,[],1,false,none⟩),(10,⟨[],true,.unk,[],1,false,none⟩),(11,⟨[],true,(aB true),[],1,false,none⟩),(12,⟨[],true,.unk,[],1,false,none⟩)] (kp [16]) [] 256 (pc o1 (pc o1 (pc (show Sound Try.prog 32 [(aI 1),(aI 100000),(.sl 2 (fun zi=>qzd76 (addz 0 zi)))] [] 0 (aB true) [] from (Sound.conv (g_survey_inside_v2_ok N () rfl) (.cons (Alike.refl _) (.cons (Alike.refl _) (.cons (Alike.sl rfl (allN (n:=2) ⟨⟨trivial,rfl⟩,rfl⟩)) .nil))))) (pc (show 0+2≤2 from (z1 2)) (pc (Eq.refl true) (pc (Eq.refl true) (pc o1 (pc (Eq.refl true) (pc (Eq.refl true) (pc (show Sound Try.prog 32 [(aI 0),qzd64,(.sl 1 qzd78)] [] 0 (aB true) [] from (Sound.conv (g_survey_inside_v3_ok N () rfl) (.cons (Alike.refl _) (.cons (Alike.refl _) (.cons (Alike.sl rfl (allN (n:=1) ⟨trivial,rfl⟩)) .nil))))) (pc (show 0+1≤1 from (z1 1)) (pc (Eq.refl true) pn)))))))))))) ?_
 refine rnK0 0 16 ?_
 refine rnZ hE 2 (kp [2]) [] 272 ?_
 exact Runs.nT hE 0 Try.f33 [] (kp [2]) [] 272 pn [] pn
theorem g_survey_inside_1_v4_ok (N:Nat) (r:Unit) (h:g_survey_inside_1_v4 N=some r):Sound Try.prog 51 [(aI 0),(.op 0 0 0),(.op 1 0 0)] [(0,vO 1 [(aI 0)]),(1,vO 1 [(aI 100)])] 2 (aB false) [(0,vO 1 [(aI 0)]),(1,vO 1 [(aI 100)])]:=by
 refine sO Try.f51 13 fun E hE=>?_
 refine rnZ hE 1 qzd81 (kq [0,1]) 18 ?_
 refine rnH hE 1 [(4,⟨[],true,.unk,[],1,false,none⟩),(5,⟨[],true,.unk,[],1,false,none⟩),(6,⟨[],true,.unk,[],1,false,none⟩)] (kp [4]) (kq [0,1]) 162 (pc o1 (pc (Eq.refl true) (pc (Eq.refl true) (pc o1 (pc (Eq.refl true) pn))))) ?_
 exact Runs.nT hE 0 Try.f51 [] (kp [4]) (kq [0,1]) 162 pn [] pn
theorem g_slices_IndexFunc_int_int_v4_ok (N:Nat) (r:Unit) (h:g_slices_IndexFunc_int_int_v4 N=some r):Sound Try.prog 65 [(.sl 1 qzd71),(.fn (.func 51) [] [(.op 0 0 0),(.op 1 0 0)])] [(0,vO 1 [(aI 0)]),(1,vO 1 [(aI 100)])] 2 (aI (-1)) [(0,vO 1 [(aI 0)]),(1,vO 1 [(aI 100)])]:=by
 refine sO Try.f65 19 fun E hE=>?_
 refine rnZ hE 1 (kp [0,1]) (kq [0,1]) 18 ?_
 refine rnZ hE 2 qzd93 (kq [0,1]) 66 ?_
 refine rnZ hE 3 qzd92 (kq [0,1]) 82 ?_
 refine rnK1 1 9 ?_
 refine rnZ hE 4 qzd88 (kq [0,1]) 114 ?_
 refine rnH hE 1 [(5,⟨[0,1],true,(aB false),[],0,false,none⟩)] qzd87 (kq [0,1]) 210 (pc (show 0≤(0:Int)∧(0:Int) < ((1:Nat):Int) by decide) (pc (g_survey_inside_1_v4_ok N () rfl) pn)) ?_
 refine rnK0 0 16 ?_
 refine rnZ hE 2 qzd93 (kq [0,1]) 242 ?_
 refine rnZ hE 2 qzd92 (kq [0,1]) 258 ?_
 refine rnK0 1 9 ?_
 refine rnZ hE 2 (kp [4]) (kq [0,1]) 274 ?_
 exact Runs.nT hE 0 Try.f65 [] (kp [4]) (kq [0,1]) 274 pn [] pn
theorem g_slices_ContainsFunc_int_int_v4_ok (N:Nat) (r:Unit) (h:g_slices_ContainsFunc_int_int_v4 N=some r):Sound Try.prog 50 [(.sl 1 qzd71),(.fn (.func 51) [] [(.op 0 0 0),(.op 1 0 0)])] [(0,vO 1 [(aI 0)]),(1,vO 1 [(aI 100)])] 2 (aB false) [(0,vO 1 [(aI 0)]),(1,vO 1 [(aI 100)])]:=by
 refine sO Try.f50 9 fun E hE=>?_
 refine rnZ hE 1 (kp [0,1]) (kq [0,1]) 18 ?_
 refine rnH hE 1 [(2,⟨[0,1],true,(aI (-1)),[],0,false,none⟩)] (kp [4]) (kq [0,1]) 98 (pc (g_slices_IndexFunc_int_int_v4_ok N () rfl) pn) ?_
 exact Runs.nT hE 0 Try.f50 [] (kp [4]) (kq [0,1]) 98 pn [] pn
theorem g_survey_inside_v4_ok (N:Nat) (r:Unit) (h:g_survey_inside_v4 N=some r):Sound Try.prog 32 [(aI 0),(aI 100),(.sl 1 qzd71)] [] 0 (aB true) []:=by
 refine sO Try.f32 11 fun E hE=>?_
 refine rnZ hE 1 qzd116 qzd166 48 ?_
 refine rnH hE 1 [(2,⟨[0,16],true,(aB false),[],0,false,none⟩)] (kp [6]) [] 128 (pc (g_slices_ContainsFunc_int_int_v4_ok N () rfl) pn) ?_
 exact Runs.nT hE 0 Try.f32 [] (kp [6]) [] 128 pn [] pn
theorem g_survey_checkStock_ok (N:Nat) (r:Unit) (h:g_survey_checkStock N=some r):Sound Try.prog 18 [(.sl 2 qzd77),(.sl 1 qzd75),(aI 0)] [] 0 (aI 0) []:=by
 refine sO Try.f18 66 fun E hE=>?_
 refine rnZ hE 1 qzd81 [] 16 ?_
 refine rnH hE 2 [(4,⟨[],true,.unk,[],1,false,none⟩),(5,⟨[],true,.unk,[],1,false,none⟩),(6,⟨[],true,.unk,[],1,false,none⟩)] (kp [0,1,2,20]) [] 144 (pc (Eq.refl true) (pc (Eq.refl true) (pc (Eq.refl true) pn))) ?_
 refine rnK0 0 20 ?_
 refine rnZ hE 2 (kp [0,1,2,7]) (kq [144]) 176 ?_
 refine rnZ hE 2 qzd103 (kq [144]) 224 ?_
 refine rnZ hE 3 qzd102 (kq [144]) 240 ?_
 refine rnK1 1 25 ?_
 refine rnP hE 4 qzd107 qzd169 304 (pc (show 0≤(0:Int)∧(0:Int) < ((2:Nat):Int) by decide) (pc o1 pn)) ?_
 refine rnH hE 3 [(2,⟨[],true,(aB true),[],0,false,none⟩)] qzd104 qzd169 384 (pc o1 (pc (g_survey_name_ok N () rfl) pn)) ?_
 refine rnK0 0 28 ?_
 refine rnH hE 1 [(3,⟨[],true,(aB false),[],0,false,none⟩)] qzd105 qzd169 464 (pc o1 (pc (show (Go.Ab.look Try.prog 9 [] (aS (⟨#[97]⟩:ByteArray))).map (fun zr=>zr.getD (ofConst (.bool false)))=some (aB false) by kernel_rfl) pn)) ?_
 refine rnK0 0 33 ?_
 refine rnH hE 1 [(5,⟨[],true,(aB true),[],0,false,none⟩)] qzd106 qzd169 592 (pc o1 (pc o1 (pc (show Sound Try.prog 32 [(aI 1),(aI 100000),(.sl 2 qzd79)] [] 0 (aB true) [] from (Sound.conv (g_survey_inside_ok N () rfl) (.cons (Alike.refl _) (.cons (Alike.refl _) (.cons (Alike.sl rfl (allN (n:=2) ⟨⟨trivial,rfl⟩,rfl⟩)) .nil))))) (pc (show 0+2≤2 from (z1 2)) pn)))) ?_
 refine rnK0 0 38 ?_
 refine rnH hE 2 [(3,⟨[],true,(.tup [qzd65,(aB true)]),[],0,false,none⟩)] qzd103 (kq [144]) 656 (pc o1 (pc (show Go.Ab.insA Try.prog 9 [] (aS (⟨#[97]⟩:ByteArray)) (aB true)=some [(aS (⟨#[97]⟩:ByteArray)),(aB true)] by kernel_rfl) pn)) ?_
 refine rnZ hE 1 qzd103 (kq [144]) 688 ?_
 refine rnZ hE 2 qzd102 (kq [144]) 704 ?_
 refine rnK1 1 25 ?_
 refine rnP hE 4 qzd107 qzd170 768 (pc (show 0≤(1:Int)∧(1:Int) < ((2:Nat):Int) by decide) (pc o1 pn)) ?_
 refine rnH hE 3 [(2,⟨[],true,(aB true),[],0,false,none⟩)] qzd104 qzd170 848 (pc o1 (pc (g_survey_name_v2_ok N () rfl) pn)) ?_
 refine rnK0 0 28 ?_
 refine rnH hE 1 [(3,⟨[],true,(aB false),[],0,false,none⟩)] qzd105 qzd170 928 (pc o1 (pc (show (Go.Ab.look Try.prog 9 [(aS (⟨#[97]⟩:ByteArray)),(aB true)] (aS (⟨#[98]⟩:ByteArray))).map (fun zr=>zr.getD (ofConst (.bool false)))=some (aB false) by kernel_rfl) pn)) ?_
 refine rnK0 0 33 ?_
 refine rnH hE 1 [(5,⟨[],true,(aB true),[],0,false,none⟩)] qzd106 qzd170 1056 (pc o1 (pc o1 (pc (show Sound Try.prog 32 [(aI 1),(aI 100000),(.sl 2 qzd79)] [] 0 (aB true) [] from (Sound.conv (g_survey_inside_ok N () rfl) (.cons (Alike.refl _) (.cons (Alike.refl _) (.cons (Alike.sl rfl (allN (n:=2) ⟨⟨trivial,rfl⟩,rfl⟩)) .nil))))) (pc (show 0+2≤2 from (z1 2)) pn)))) ?_
 refine rnK0 0 38 ?_
 refine rnH hE 2 [(3,⟨[],true,(.tup [qzd65,(aB true),qzd66,(aB true)]),[],0,false,none⟩)] qzd103 (kq [144]) 1120 (pc o1 (pc (show Go.Ab.insA Try.prog 9 [(aS (⟨#[97]⟩:ByteArray)),(aB true)] (aS (⟨#[98]⟩:ByteArray)) (aB true)=some [(aS (⟨#[97]⟩:ByteArray)),(aB true),(aS (⟨#[98]⟩:ByteArray)),(aB true)] by kernel_rfl) pn)) ?_
 refine rnZ hE 1 qzd103 (kq [144]) 1152 ?_
 refine rnZ hE 2 qzd102 (kq [144]) 1168 ?_
 refine rnK0 1 25 ?_
 refine rnZ hE 3 qzd123 [] 1216 ?_
 refine rnZ hE 3 qzd122 [] 1232 ?_
 refine rnK1 1 53 ?_
 refine rnP hE 4 (kp [2,11,50,51,52]) (kq [1264]) 1296 (pc (show 0≤(0:Int)∧(0:Int) < ((1:Nat):Int) by decide) (pc o1 pn)) ?_
 refine rnH hE 1 [(1,⟨[],true,(aI 0),[],0,false,none⟩)] (kp [2,12,50,51,52]) [] 1344 (pc o1 (pc (g_survey_checkPlate_ok N () rfl) pn)) ?_
 refine rnZ hE 1 (kp [2,12,50,51,52,59]) [] 1376 ?_
 refine rnK0 0 59 ?_
 refine rnZ hE 2 qzd123 [] 1408 ?_
 refine rnZ hE 2 qzd122 [] 1424 ?_
 refine rnK0 1 53 ?_
 refine rnH hE 3 [(2,⟨[],true,(aB true),[],0,false,none⟩)] (kp [65]) [] 1488 (pc (show Sound Try.prog 32 [(aI 0),(aI 100),(.sl 1 qzd78)] [] 0 (aB true) [] from (Sound.conv (g_survey_inside_v4_ok N () rfl) (.cons (Alike.refl _) (.cons (Alike.refl _) (.cons (Alike.sl rfl (allN (n:=1) ⟨trivial,rfl⟩)) .nil))))) (pc (show 0+1≤1 from (z1 1)) pn)) ?_
 refine rnK0 0 65 ?_
 refine rnZ hE 2 (kp [6]) [] 1504 ?_
 exact Runs.nT hE 0 Try.f18 [] (kp [6]) [] 1504 pn [] pn
theorem g_slices_IndexFunc_survey_shape_survey_shape_ok (N:Nat) (r:Unit) (h:g_slices_IndexFunc_survey_shape_survey_shape N=some r):Sound Try.prog 66 [.nil,(.fn (.func 53) [] [(.op 0 0 0)])] [(0,vO 6 [(aI 2),(aI 2),(aI 0),(aB false),(aB false),.nil])] 1 (aI (-1)) [(0,vO 6 [(aI 2),(aI 2),(aI 0),(aB false),(aB false),.nil])]:=by
 refine sO Try.f66 19 fun E hE=>?_
 refine rnZ hE 1 (kp [0,1]) (kq [0]) 17 ?_
 refine rnZ hE 2 qzd93 (kq [0]) 65 ?_
 refine rnZ hE 3 qzd92 (kq [0]) 81 ?_
 refine rnK0 1 9 ?_
 refine rnZ hE 2 (kp [4]) (kq [0]) 97 ?_
 exact Runs.nT hE 0 Try.f66 [] (kp [4]) (kq [0]) 97 pn [] pn
theorem g_slices_ContainsFunc_survey_shape_survey_shape_ok (N:Nat) (r:Unit) (h:g_slices_ContainsFunc_survey_shape_survey_shape N=some r):Sound Try.prog 52 [.nil,(.fn (.func 53) [] [(.op 0 0 0)])] [(0,vO 6 [(aI 2),(aI 2),(aI 0),(aB false),(aB false),.nil])] 1 (aB false) [(0,vO 6 [(aI 2),(aI 2),(aI 0),(aB false),(aB false),.nil])]:=by
 refine sO Try.f52 9 fun E hE=>?_
 refine rnZ hE 1 (kp [0,1]) (kq [0]) 17 ?_
 refine rnH hE 1 [(2,⟨[0],true,(aI (-1)),[],0,false,none⟩)] (kp [4]) (kq [0]) 97 (pc (g_slices_IndexFunc_survey_shape_survey_shape_ok N () rfl) pn) ?_
 exact Runs.nT hE 0 Try.f52 [] (kp [4]) (kq [0]) 97 pn [] pn
theorem g_slices_IndexFunc_survey_shape_survey_shape_v2_ok (N:Nat) (r:Unit) (h:g_slices_IndexFunc_survey_shape_survey_shape_v2 N=some r):Sound Try.prog 66 [.nil,(.fn (.func 55) [] [(.op 0 0 0)])] [(0,vO 6 [(aI 2),(aI 2),(aI 0),(aB false),(aB false),.nil])] 1 (aI (-1)) [(0,vO 6 [(aI 2),(aI 2),(aI 0),(aB false),(aB false),.nil])]:=by
 refine sO Try.f66 19 fun E hE=>?_
 refine rnZ hE 1 (kp [0,1]) (kq [0]) 17 ?_
 refine rnZ hE 2 qzd93 (kq [0]) 65 ?_
 refine rnZ hE 3 qzd92 (kq [0]) 81 ?_
 refine rnK0 1 9 ?_
 refine rnZ hE 2 (kp [4]) (kq [0]) 97 ?_
 exact Runs.nT hE 0 Try.f66 [] (kp [4]) (kq [0]) 97 pn [] pn
theorem g_slices_DeleteFunc_survey_shape_survey_shape_ok (N:Nat) (r:Unit) (h:g_slices_DeleteFunc_survey_shape_survey_shape N=some r):Sound Try.prog 54 [.nil,(.fn (.func 55) [] [(.op 0 0 0)])] [(0,vO 6 [(aI 2),(aI 2),(aI 0),(aB false),(aB false),.nil])] 1 .nil [(0,vO 6 [(aI 2),(aI 2),(aI 0),(aB false),(aB false),.nil])]:=by
 refine sO Try.f54 42 fun E hE=>?_
 refine rnZ hE 1 (kp [0,1]) (kq [0]) 17 ?_
 refine rnH hE 1 [(2,⟨[0],true,(aI (-1)),[],0,false,none⟩)] qzd90 (kq [0]) 81 (pc (g_slices_IndexFunc_survey_shape_survey_shape_v2_ok N () rfl) pn) ?_
 refine rnZ hE 2 (kp [0,1,5,12]) (kq [0]) 113 ?_
 refine rnK1 0 12 ?_
 refine rnZ hE 1 (kp [4]) (kq [0]) 145 ?_
 exact Runs.nT hE 0 Try.f54 [] (kp [4]) (kq [0]) 145 pn [] pn
theorem g_survey_kept_ok (N:Nat) (r:Unit) (h:g_survey_kept N=some r):Sound Try.prog 36 [.nil,(.agg [(aI 2),(aI 2),(aI 0),(aB false),(aB false),.nil])] [] 0 (.sl 1 (fun zi=>([[(aI 2),(aI 2),(aI 0),(aB false),(aB false),.nil]]:List (List AV)).getD zi [])) []:=by
 refine sO Try.f36 15 fun E hE=>?_
 refine rnZ hE 1 (kp [0,3]) (kq [0]) 32 ?_
 refine rnH hE 2 [(2,⟨[0],true,(aB false),[],0,false,none⟩)] (kp [0,3,7]) (kq [0]) 80 (pc (g_slices_ContainsFunc_survey_shape_survey_shape_ok N () rfl) pn) ?_
 refine rnK0 0 7 ?_
 refine rnH hE 2 [(2,⟨[0],true,.nil,[],0,false,none⟩)] (kp [4]) [(160,.arr 160 1 (fun zi=>([[(aI 2),(aI 2),(aI 0),(aB false),(aB false),.nil]]:List (List AV)).getD zi []))] 192 (pc (g_slices_DeleteFunc_survey_shape_survey_shape_ok N () rfl) (pc o1 (pc (show 1 * 56≤140737488355328 by decide) (pc (show 0+1≤1 from (z1 1)) (pc (oN [[(aI 2),(aI 2),(aI 0),(aB false),(aB false),.nil]]) (pc (Eq.refl 1) (pc (show ∀ zi,zi < 1→(fun zi=>([[(aI 2),(aI 2),(aI 0),(aB false),(aB false),.nil]]:List (List AV)).getD zi []) zi=(fun zi=>([[(aI 2),(aI 2),(aI 0),(aB false),(aB false),.nil]]:List (List AV)).getD zi []) zi from (allN (n:=1) ⟨trivial,rfl⟩)) pn))))))) ?_
 exact Runs.nT hE 0 Try.f36 [160] [(4,.sl 1 (fun zi=>([[(aI 2),(aI 2),(aI 0),(aB false),(aB false),.nil]]:List (List AV)).getD zi []))] [] 192 (pc (Eq.refl 1) (pc (show 0+1≤1 from (z1 1)) (pc (show ∀ zi,zi < 1→(fun zi=>([[(aI 2),(aI 2),(aI 0),(aB false),(aB false),.nil]]:List (List AV)).getD zi []) zi=(fun zi=>([[(aI 2),(aI 2),(aI 0),(aB false),(aB false),.nil]]:List (List AV)).getD zi []) (addz 0 zi) from (allN (n:=1) ⟨trivial,rfl⟩)) pn))) [] pn
theorem g_survey_shapes_1_ok (N:Nat) (r:Unit) (h:g_survey_shapes_1 N=some r):Sound Try.prog 35 [(aI 1),(.agg [(aI 2),(aI 2),(aI 0),(aB false),(aB false),.nil]),(.op 0 0 0),(.op 1 0 0),(.op 2 0 0)] [(0,vO 1 [(aI 4)]),(1,vO 1 [(aI 2)]),(2,vN 1 [(.os 3 0 4)]),(3,⟨false,1,4,true,fun zi=>([[.nil],[.nil],[.nil],[.nil]]:List (List AV)).getD zi []⟩)] 4 (.tup []) [(0,vO 1 [(aI 4)]),(1,vO 1 [(aI 2)]),(2,vN 1 [(.os 3 0 4)]),(3,⟨false,1,4,true,fun zi=>([[.nil],[(.sl 1 (fun zi=>([[(aI 2),(aI 2),(aI 0),(aB false),(aB false),.nil]]:List (List AV)).getD zi []))],[.nil],[.nil]]:List (List AV)).getD zi []⟩)]:=by
 refine sO Try.f35 26 fun E hE=>?_
 refine rnP hE 1 qzd95 qzd152 20 (pc (Eq.refl 4) (pc (show ∀ zi,zi < 4→(fun zi=>([[.nil],[.nil],[.nil],[.nil]]:List (List AV)).getD zi []) zi=(fun zi=>([[.nil],[.nil],[.nil],[.nil]]:List (List AV)).getD zi []) zi from (allN (n:=4) ⟨⟨⟨⟨trivial,rfl⟩,rfl⟩,rfl⟩,rfl⟩)) pn)) ?_
 refine rnH hE 1 [(5,⟨[],true,.unk,[],1,false,none⟩),(6,⟨[],true,.unk,[],1,false,none⟩),(7,⟨[],true,.unk,[],1,false,none⟩),(8,⟨[],true,.unk,[],1,false,none⟩)] qzd99 qzd152 180 (pc o1 (pc o1 (pc (Eq.refl true) (pc (Eq.refl true) (pc o1 (pc (Eq.refl true) (pc o1 (pc (Eq.refl true) (pc (Eq.refl 4) (pc (show ∀ zi,zi < 4→(fun zi=>([[.nil],[.nil],[.nil],[.nil]]:List (List AV)).getD zi []) zi=(fun zi=>([[.nil],[.nil],[.nil],[.nil]]:List (List AV)).getD zi []) zi from (allN (n:=4) ⟨⟨⟨⟨trivial,rfl⟩,rfl⟩,rfl⟩,rfl⟩)) pn)))))))))) ?_
 refine rnK1 0 16 ?_
 refine rnH hE 0 [(7,⟨[],true,(.sl 1 (fun zi=>([[(aI 2),(aI 2),(aI 0),(aB false),(aB false),.nil]]:List (List AV)).getD zi [])),[],0,false,none⟩)] [] qzd151 340 (pc o1 (pc o1 (pc (show 0≤(1:Int)∧(1:Int) < ((4:Nat):Int) by decide) (pc (show 1 < 4 by decide) (pc o1 (pc (g_survey_kept_ok N () rfl) (pc (show 0≤(1:Int)∧(1:Int) < ((4:Nat):Int) by decide) (pc (show 1 < 4 by decide) (pc (Eq.refl 4) (pc (show ∀ zi,zi < 4→(fun zi=>([[.nil],[(.sl 1 (fun zi=>([[(aI 2),(aI 2),(aI 0),(aB false),(aB false),.nil]]:List (List AV)).getD zi []))],[.nil],[.nil]]:List (List AV)).getD zi []) zi=qzd19 zi from (allN (n:=4) ⟨⟨⟨⟨trivial,rfl⟩,rfl⟩,rfl⟩,rfl⟩)) pn)))))))))) ?_
 exact Runs.nF hE 0 Try.f35 [] [] qzd146 340 pn [] pn
theorem g_slices_IndexFunc_survey_shape_survey_shape_v3_ok (N:Nat) (r:Unit) (h:g_slices_IndexFunc_survey_shape_survey_shape_v3 N=some r):Sound Try.prog 66 [.nil,(.fn (.func 53) [] [(.op 0 0 0)])] [(0,vO 6 [(aI 2),(aI 2),(aI 1),(aB false),(aB false),.nil])] 1 (aI (-1)) [(0,vO 6 [(aI 2),(aI 2),(aI 1),(aB false),(aB false),.nil])]:=by
 refine sO Try.f66 19 fun E hE=>?_
 refine rnZ hE 1 (kp [0,1]) (kq [0]) 17 ?_
 refine rnZ hE 2 qzd93 (kq [0]) 65 ?_
 refine rnZ hE 3 qzd92 (kq [0]) 81 ?_
 refine rnK0 1 9 ?_
 refine rnZ hE 2 (kp [4]) (kq [0]) 97 ?_
 exact Runs.nT hE 0 Try.f66 [] (kp [4]) (kq [0]) 97 pn [] pn
theorem g_slices_ContainsFunc_survey_shape_survey_shape_v2_ok (N:Nat) (r:Unit) (h:g_slices_ContainsFunc_survey_shape_survey_shape_v2 N=some r):Sound Try.prog 52 [.nil,(.fn (.func 53) [] [(.op 0 0 0)])] [(0,vO 6 [(aI 2),(aI 2),(aI 1),(aB false),(aB false),.nil])] 1 (aB false) [(0,vO 6 [(aI 2),(aI 2),(aI 1),(aB false),(aB false),.nil])]:=by
 refine sO Try.f52 9 fun E hE=>?_
 refine rnZ hE 1 (kp [0,1]) (kq [0]) 17 ?_
 refine rnH hE 1 [(2,⟨[0],true,(aI (-1)),[],0,false,none⟩)] (kp [4]) (kq [0]) 97 (pc (g_slices_IndexFunc_survey_shape_survey_shape_v3_ok N () rfl) pn) ?_
 exact Runs.nT hE 0 Try.f52 [] (kp [4]) (kq [0]) 97 pn [] pn
theorem g_slices_IndexFunc_survey_shape_survey_shape_v4_ok (N:Nat) (r:Unit) (h:g_slices_IndexFunc_survey_shape_survey_shape_v4 N=some r):Sound Try.prog 66 [.nil,(.fn (.func 55) [] [(.op 0 0 0)])] [(0,vO 6 [(aI 2),(aI 2),(aI 1),(aB false),(aB false),.nil])] 1 (aI (-1)) [(0,vO 6 [(aI 2),(aI 2),(aI 1),(aB false),(aB false),.nil])]:=by
 refine sO Try.f66 19 fun E hE=>?_
 refine rnZ hE 1 (kp [0,1]) (kq [0]) 17 ?_
 refine rnZ hE 2 qzd93 (kq [0]) 65 ?_
 refine rnZ hE 3 qzd92 (kq [0]) 81 ?_
 refine rnK0 1 9 ?_
 refine rnZ hE 2 (kp [4]) (kq [0]) 97 ?_
 exact Runs.nT hE 0 Try.f66 [] (kp [4]) (kq [0]) 97 pn [] pn
theorem g_slices_DeleteFunc_survey_shape_survey_shape_v2_ok (N:Nat) (r:Unit) (h:g_slices_DeleteFunc_survey_shape_survey_shape_v2 N=some r):Sound Try.prog 54 [.nil,(.fn (.func 55) [] [(.op 0 0 0)])] [(0,vO 6 [(aI 2),(aI 2),(aI 1),(aB false),(aB false),.nil])] 1 .nil [(0,vO 6 [(aI 2),(aI 2),(aI 1),(aB false),(aB false),.nil])]:=by
 refine sO Try.f54 42 fun E hE=>?_
 refine rnZ hE 1 (kp [0,1]) (kq [0]) 17 ?_
 refine rnH hE 1 [(2,⟨[0],true,(aI (-1)),[],0,false,none⟩)] qzd90 (kq [0]) 81 (pc (g_slices_IndexFunc_survey_shape_survey_shape_v4_ok N () rfl) pn) ?_
 refine rnZ hE 2 (kp [0,1,5,12]) (kq [0]) 113 ?_
 refine rnK1 0 12 ?_
 refine rnZ hE 1 (kp [4]) (kq [0]) 145 ?_
 exact Runs.nT hE 0 Try.f54 [] (kp [4]) (kq [0]) 145 pn [] pn
theorem g_survey_kept_v2_ok (N:Nat) (r:Unit) (h:g_survey_kept_v2 N=some r):Sound Try.prog 36 [.nil,(.agg [(aI 2),(aI 2),(aI 1),(aB false),(aB false),.nil])] [] 0 (.sl 1 (fun zi=>([[(aI 2),(aI 2),(aI 1),(aB false),(aB false),.nil]]:List (List AV)).getD zi [])) []:=by
 refine sO Try.f36 15 fun E hE=>?_
 refine rnZ hE 1 (kp [0,3]) (kq [0]) 32 ?_
 refine rnH hE 2 [(2,⟨[0],true,(aB false),[],0,false,none⟩)] (kp [0,3,7]) (kq [0]) 80 (pc (g_slices_ContainsFunc_survey_shape_survey_shape_v2_ok N () rfl) pn) ?_
 refine rnK0 0 7 ?_
 refine rnH hE 2 [(2,⟨[0],true,.nil,[],0,false,none⟩)] (kp [4]) [(160,.arr 160 1 (fun zi=>([[(aI 2),(aI 2),(aI 1),(aB false),(aB false),.nil]]:List (List AV)).getD zi []))] 192 (pc (g_slices_DeleteFunc_survey_shape_survey_shape_v2_ok N () rfl) (pc o1 (pc (show 1 * 56≤140737488355328 by decide) (pc (show 0+1≤1 from (z1 1)) (pc (oN [[(aI 2),(aI 2),(aI 1),(aB false),(aB false),.nil]]) (pc (Eq.refl 1) (pc (show ∀ zi,zi < 1→(fun zi=>([[(aI 2),(aI 2),(aI 1),(aB false),(aB false),.nil]]:List (List AV)).getD zi []) zi=(fun zi=>([[(aI 2),(aI 2),(aI 1),(aB false),(aB false),.nil]]:List (List AV)).getD zi []) zi from (allN (n:=1) ⟨trivial,rfl⟩)) pn))))))) ?_
 exact Runs.nT hE 0 Try.f36 [160] [(4,.sl 1 (fun zi=>([[(aI 2),(aI 2),(aI 1),(aB false),(aB false),.nil]]:List (List AV)).getD zi []))] [] 192 (pc (Eq.refl 1) (pc (show 0+1≤1 from (z1 1)) (pc (show ∀ zi,zi < 1→(fun zi=>([[(aI 2),(aI 2),(aI 1),(aB false),(aB false),.nil]]:List (List AV)).getD zi []) zi=(fun zi=>([[(aI 2),(aI 2),(aI 1),(aB false),(aB false),.nil]]:List (List AV)).getD zi []) (addz 0 zi) from (allN (n:=1) ⟨trivial,rfl⟩)) pn))) [] pn
theorem g_survey_shapes_1_v2_ok (N:Nat) (r:Unit) (h:g_survey_shapes_1_v2 N=some r):Sound Try.prog 35 [(aI 2),(.agg [(aI 2),(aI 2),(aI 1),(aB false),(aB false),.nil]),(.op 0 0 0),(.op 1 0 0),(.op 2 0 0)] [(0,vO 1 [(aI 4)]),(1,vO 1 [(aI 2)]),(2,vN 1 [(.os 3 0 4)]),(3,⟨false,1,4,true,fun zi=>([[.nil],[(.sl 1 (fun zi=>([[(aI 2),(aI 2),(aI 0),(aB false),(aB false),.nil]]:List (List AV)).getD zi []))],[.nil],[.nil]]:List (List AV)).getD zi []⟩)] 4 (.tup []) [(0,vO 1 [(aI 4)]),(1,vO 1 [(aI 2)]),(2,vN 1 [(.os 3 0 4)]),(3,⟨false,1,4,true,fun zi=>([[.nil],[(.sl 1 (fun zi=>([[(aI 2),(aI 2),(aI 0),(aB false),(aB false),.nil]]:List (List AV)).getD zi []))],[(.sl 1 (fun zi=>([[(aI 2),(aI 2),(aI 1),(aB false),(aB false),.nil]]:List (List AV)).getD zi []))],[.nil]]:List (List AV)).getD zi []⟩)]:=by
 refine sO Try.f35 26 fun E hE=>?_
 refine rnP hE 1 qzd95 qzd150 20 (pc (Eq.refl 4) (pc (show ∀ zi,zi < 4→(fun zi=>([[.nil],[(.sl 1 (fun zi=>([[(aI 2),(aI 2),(aI 0),(aB false),(aB false),.nil]]:List (List AV)).getD zi []))],[.nil],[.nil]]:List (List AV)).getD zi []) zi=(fun zi=>([[.nil],[(.sl 1 (fun zi=>([[(aI 2),(aI 2),(aI 0),(aB false),(aB false),.nil]]:List (List AV)).getD zi []))],[.nil],[.nil]]:List (List AV)).getD zi []) zi from (allN (n:=4) ⟨⟨⟨⟨trivial,rfl⟩,rfl⟩,rfl⟩,rfl⟩)) pn)) ?_
 refine rnH hE 1 [(5,⟨[],true,.unk,[],1,false,none⟩),(6,⟨[],true,.unk,[],1,false,none⟩),(7,⟨[],true,.unk,[],1,false,none⟩),(8,⟨[],true,.unk,[],1,false,none⟩)] qzd99 qzd150 180 (pc o1 (pc o1 (pc (Eq.refl true) (pc (Eq.refl true) (pc o1 (pc (Eq.refl true) (pc o1 (pc (Eq.refl true) (pc (Eq.refl 4) (pc (show ∀ zi,zi < 4→(fun zi=>([[.nil],[(.sl 1 (fun zi=>([[(aI 2),(aI 2),(aI 0),(aB false),(aB false),.nil]]:List (List AV)).getD zi []))],[.nil],[.nil]]:List (List AV)).getD zi []) zi=(fun zi=>([[.nil],[(.sl 1 (fun zi=>([[(aI 2),(aI 2),(aI 0),(aB false),(aB false),.nil]]:List (List AV)).getD zi []))],[.nil],[.nil]]:List (List AV)).getD zi []) zi from (allN (n:=4) ⟨⟨⟨⟨trivial,rfl⟩,rfl⟩,rfl⟩,rfl⟩)) pn)))))))))) ?_
 refine rnK1 0 16 ?_
 refine rnH hE 0 [(7,⟨[],true,(.sl 1 (fun zi=>([[(aI 2),(aI 2),(aI 1),(aB false),(aB false),.nil]]:List (List AV)).getD zi [])),[],0,false,none⟩)] [] qzd149 340 (pc o1 (pc o1 (pc (show 0≤(2:Int)∧(2:Int) < ((4:Nat):Int) by decide) (pc (show 2 < 4 by decide) (pc o1 (pc (g_survey_kept_v2_ok N () rfl) (pc (show 0≤(2:Int)∧(2:Int) < ((4:Nat):Int) by decide) (pc (show 2 < 4 by decide) (pc (Eq.refl 4) (pc (show ∀ zi,zi < 4→(fun zi=>([[.nil],[(.sl 1 (fun zi=>([[(aI 2),(aI 2),(aI 0),(aB false),(aB false),.nil]]:List (List AV)).getD zi []))],[(.sl 1 (fun zi=>([[(aI 2),(aI 2),(aI 1),(aB false),(aB false),.nil]]:List (List AV)).getD zi []))],[.nil]]:List (List AV)).getD zi []) zi=qzd20 zi from (allN (n:=4) ⟨⟨⟨⟨trivial,rfl⟩,rfl⟩,rfl⟩,rfl⟩)) pn)))))))))) ?_
 exact Runs.nF hE 0 Try.f35 [] [] qzd146 340 pn [] pn
theorem g_math_bits_OnesCount64_ok (N:Nat) (r:Unit) (h:g_math_bits_OnesCount64 N=some r):Sound Try.prog 57 [(.atom (.int .u64 0))] [] 0 (aI 0) []:=by
 refine sO Try.f57 35 fun E hE=>?_
 refine rnZ hE 1 (kp [0]) [] 16 ?_
 refine rnP hE 1 (kp [0]) [] 128 (pc (show (0:Int)≤1 by decide) pn) ?_
 refine rnP hE 1 (kp [0]) [] 240 (pc (show (0:Int)≤2 by decide) pn) ?_
 refine rnP hE 1 (kp [0]) [] 336 (pc (show (0:Int)≤4 by decide) pn) ?_
 refine rnP hE 1 (kp [0]) [] 416 (pc (show (0:Int)≤8 by decide) pn) ?_
 refine rnP hE 1 (kp [0]) [] 496 (pc (show (0:Int)≤16 by decide) pn) ?_
 refine rnP hE 1 (kp [0]) [] 576 (pc (show (0:Int)≤32 by decide) pn) ?_
 refine rnZ hE 1 (kp [2]) [] 640 ?_
 exact Runs.nT hE 0 Try.f57 [] (kp [2]) [] 640 pn [] pn
theorem g_math_bits_OnesCount_ok (N:Nat) (r:Unit) (h:g_math_bits_OnesCount N=some r):Sound Try.prog 37 [(.atom (.int .u64 0))] [] 0 (aI 0) []:=by
 refine sO Try.f37 8 fun E hE=>?_
 refine rnZ hE 1 (kp [0]) [] 16 ?_
 refine Runs.nQ0 1 ?_
 refine rnH hE 2 [(1,⟨[],true,(aI 0),[],0,false,none⟩)] (kp [2]) [] 64 (pc (g_math_bits_OnesCount64_ok N () rfl) pn) ?_
 exact Runs.nT hE 0 Try.f37 [] (kp [2]) [] 64 pn [] pn
theorem g_math_bits_OnesCount64_v2_ok (N:Nat) (r:Unit) (h:g_math_bits_OnesCount64_v2 N=some r):Sound Try.prog 57 [(.atom (.int .u64 1))] [] 0 (aI 1) []:=by
 refine sO Try.f57 35 fun E hE=>?_
 refine rnZ hE 1 (kp [0]) [] 16 ?_
 refine rnP hE 1 (kp [0]) [] 128 (pc (show (0:Int)≤1 by decide) pn) ?_
 refine rnP hE 1 (kp [0]) [] 240 (pc (show (0:Int)≤2 by decide) pn) ?_
 refine rnP hE 1 (kp [0]) [] 336 (pc (show (0:Int)≤4 by decide) pn) ?_
 refine rnP hE 1 (kp [0]) [] 416 (pc (show (0:Int)≤8 by decide) pn) ?_
 refine rnP hE 1 (kp [0]) [] 496 (pc (show (0:Int)≤16 by decide) pn) ?_
 refine rnP hE 1 (kp [0]) [] 576 (pc (show (0:Int)≤32 by decide) pn) ?_
 refine rnZ hE 1 (kp [2]) [] 640 ?_
 exact Runs.nT hE 0 Try.f57 [] (kp [2]) [] 640 pn [] pn
theorem g_math_bits_OnesCount_v2_ok (N:Nat) (r:Unit) (h:g_math_bits_OnesCount_v2 N=some r):Sound Try.prog 37 [(.atom (.int .u64 1))] [] 0 (aI 1) []:=by
 refine sO Try.f37 8 fun E hE=>?_
 refine rnZ hE 1 (kp [0]) [] 16 ?_
 refine Runs.nQ0 1 ?_
 refine rnH hE 2 [(1,⟨[],true,(aI 1),[],0,false,none⟩)] (kp [2]) [] 64 (pc (g_math_bits_OnesCount64_v2_ok N () rfl) pn) ?_
 exact Runs.nT hE 0 Try.f37 [] (kp [2]) [] 64 pn [] pn
theorem g_math_bits_OnesCount64_v3_ok (N:Nat) (r:Unit) (h:g_math_bits_OnesCount64_v3 N=some r):Sound Try.prog 57 [(.atom (.int .u64 2))] [] 0 (aI 1) []:=by
 refine sO Try.f57 35 fun E hE=>?_
 refine rnZ hE 1 (kp [0]) [] 16 ?_
 refine rnP hE 1 (kp [0]) [] 128 (pc (show (0:Int)≤1 by decide) pn) ?_
 refine rnP hE 1 (kp [0]) [] 240 (pc (show (0:Int)≤2 by decide) pn) ?_
 refine rnP hE 1 (kp [0]) [] 336 (pc (show (0:Int)≤4 by decide) pn) ?_
 refine rnP hE 1 (kp [0]) [] 416 (pc (show (0:Int)≤8 by decide) pn) ?_
 refine rnP hE 1 (kp [0]) [] 496 (pc (show (0:Int)≤16 by decide) pn) ?_
 refine rnP hE 1 (kp [0]) [] 576 (pc (show (0:Int)≤32 by decide) pn) ?_
 refine rnZ hE 1 (kp [2]) [] 640 ?_
 exact Runs.nT hE 0 Try.f57 [] (kp [2]) [] 640 pn [] pn
theorem g_math_bits_OnesCount_v3_ok (N:Nat) (r:Unit) (h:g_math_bits_OnesCount_v3 N=some r):Sound Try.prog 37 [(.atom (.int .u64 2))] [] 0 (aI 1) []:=by
 refine sO Try.f37 8 fun E hE=>?_
 refine rnZ hE 1 (kp [0]) [] 16 ?_
 refine Runs.nQ0 1 ?_
 refine rnH hE 2 [(1,⟨[],true,(aI 1),[],0,false,none⟩)] (kp [2]) [] 64 (pc (g_math_bits_OnesCount64_v3_ok N () rfl) pn) ?_
 exact Runs.nT hE 0 Try.f37 [] (kp [2]) [] 64 pn [] pn
theorem g_math_bits_OnesCount64_v4_ok (N:Nat) (r:Unit) (h:g_math_bits_OnesCount64_v4 N=some r):Sound Try.prog 57 [(.atom (.int .u64 3))] [] 0 (aI 2) []:=by
 refine sO Try.f57 35 fun E hE=>?_
 refine rnZ hE 1 (kp [0]) [] 16 ?_
 refine rnP hE 1 (kp [0]) [] 128 (pc (show (0:Int)≤1 by decide) pn) ?_
 refine rnP hE 1 (kp [0]) [] 240 (pc (show (0:Int)≤2 by decide) pn) ?_
 refine rnP hE 1 (kp [0]) [] 336 (pc (show (0:Int)≤4 by decide) pn) ?_
 refine rnP hE 1 (kp [0]) [] 416 (pc (show (0:Int)≤8 by decide) pn) ?_
 refine rnP hE 1 (kp [0]) [] 496 (pc (show (0:Int)≤16 by decide) pn) ?_
 refine rnP hE 1 (kp [0]) [] 576 (pc (show (0:Int)≤32 by decide) pn) ?_
 refine rnZ hE 1 (kp [2]) [] 640 ?_
 exact Runs.nT hE 0 Try.f57 [] (kp [2]) [] 640 pn [] pn
theorem g_math_bits_OnesCount_v4_ok (N:Nat) (r:Unit) (h:g_math_bits_OnesCount_v4 N=some r):Sound Try.prog 37 [(.atom (.int .u64 3))] [] 0 (aI 2) []:=by
 refine sO Try.f37 8 fun E hE=>?_
 refine rnZ hE 1 (kp [0]) [] 16 ?_
 refine Runs.nQ0 1 ?_
 refine rnH hE 2 [(1,⟨[],true,(aI 2),[],0,false,none⟩)] (kp [2]) [] 64 (pc (g_math_bits_OnesCount64_v4_ok N () rfl) pn) ?_
 exact Runs.nT hE 0 Try.f37 [] (kp [2]) [] 64 pn [] pn
theorem g_slices_IndexFunc_survey_shape_survey_shape_v5_ok (N:Nat) (r:Unit) (h:g_slices_IndexFunc_survey_shape_survey_shape_v5 N=some r):Sound Try.prog 66 [.nil,(.fn (.func 53) [] [(.op 0 0 0)])] [(0,vO 6 [(aI 4),(aI 2),(aI 0),(aB false),(aB false),(.sl 2 (fun zi=>([[(aI 2),(aI 2),(aI 1),(aB false),(aB false),.nil],[(aI 2),(aI 2),(aI 0),(aB false),(aB false),.nil]]:List (List AV)).getD zi []))])] 1 (aI (-1)) [(0,vO 6 [(aI 4),(aI 2),(aI 0),(aB false),(aB false),(.sl 2 (fun zi=>([[(aI 2),(aI 2),(aI 1),(aB false),(aB false),.nil],[(aI 2),(aI 2),(aI 0),(aB false),(aB false),.nil]]:List (List AV)).getD zi []))])]:=by
 refine sO Try.f66 19 fun E hE=>?_
 refine rnZ hE 1 (kp [0,1]) (kq [0]) 17 ?_
 refine rnZ hE 2 qzd93 (kq [0]) 65 ?_
 refine rnZ hE 3 qzd92 (kq [0]) 81 ?_
 refine rnK0 1 9 ?_
 refine rnZ hE 2 (kp [4]) (kq [0]) 97 ?_
 exact Runs.nT hE 0 Try.f66 [] (kp [4]) (kq [0]) 97 pn [] pn
theorem g_slices_ContainsFunc_survey_shape_survey_shape_v3_ok (N:Nat) (r:Unit) (h:g_slices_ContainsFunc_survey_shape_survey_shape_v3 N=some r):Sound Try.prog 52 [.nil,(.fn (.func 53) [] [(.op 0 0 0)])] [(0,vO 6 [(aI 4),(aI 2),(aI 0),(aB false),(aB false),(.sl 2 (fun zi=>([[(aI 2),(aI 2),(aI 1),(aB false),(aB false),.nil],[(aI 2),(aI 2),(aI 0),(aB false),(aB false),.nil]]:List (List AV)).getD zi []))])] 1 (aB false) [(0,vO 6 [(aI 4),(aI 2),(aI 0),(aB false),(aB false),(.sl 2 (fun zi=>([[(aI 2),(aI 2),(aI 1),(aB false),(aB false),.nil],[(aI 2),(aI 2),(aI 0),(aB false),(aB false),.nil]]:List (List AV)).getD zi []))])]:=by
 refine sO Try.f52 9 fun E hE=>?_
 refine rnZ hE 1 (kp [0,1]) (kq [0]) 17 ?_
 refine rnH hE 1 [(2,⟨[0],true,(aI (-1)),[],0,false,none⟩)] (kp [4]) (kq [0]) 97 (pc (g_slices_IndexFunc_survey_shape_survey_shape_v5_ok N () rfl) pn) ?_
 exact Runs.nT hE 0 Try.f52 [] (kp [4]) (kq [0]) 97 pn [] pn
theorem g_slices_IndexFunc_survey_shape_survey_shape_v6_ok (N:Nat) (r:Unit) (h:g_slices_IndexFunc_survey_shape_survey_shape_v6 N=some r):Sound Try.prog 66 [.nil,(.fn (.func 55) [] [(.op 0 0 0)])] [(0,vO 6 [(aI 4),(aI 2),(aI 0),(aB false),(aB false),(.sl 2 (fun zi=>([[(aI 2),(aI 2),(aI 1),(aB false),(aB false),.nil],[(aI 2),(aI 2),(aI 0),(aB false),(aB false),.nil]]:List (List AV)).getD zi []))])] 1 (aI (-1)) [(0,vO 6 [(aI 4),(aI 2),(aI 0),(aB false),(aB false),(.sl 2 (fun zi=>([[(aI 2),(aI 2),(aI 1),(aB false),(aB false),.nil],[(aI 2),(aI 2),(aI 0),(aB false),(aB false),.nil]]:List (List AV)).getD zi []))])]:=by
 refine sO Try.f66 19 fun E hE=>?_
 refine rnZ hE 1 (kp [0,1]) (kq [0]) 17 ?_
 refine rnZ hE 2 qzd93 (kq [0]) 65 ?_
 refine rnZ hE 3 qzd92 (kq [0]) 81 ?_
 refine rnK0 1 9 ?_
 refine rnZ hE 2 (kp [4]) (kq [0]) 97 ?_
 exact Runs.nT hE 0 Try.f66 [] (kp [4]) (kq [0]) 97 pn [] pn
theorem g_slices_DeleteFunc_survey_shape_survey_shape_v3_ok (N:Nat) (r:Unit) (h:g_slices_DeleteFunc_survey_shape_survey_shape_v3 N=some r):Sound Try.prog 54 [.nil,(.fn (.func 55) [] [(.op 0 0 0)])] [(0,vO 6 [(aI 4),(aI 2),(aI 0),(aB false),(aB false),(.sl 2 (fun zi=>([[(aI 2),(aI 2),(aI 1),(aB false),(aB false),.nil],[(aI 2),(aI 2),(aI 0),(aB false),(aB false),.nil]]:List (List AV)).getD zi []))])] 1 .nil [(0,vO 6 [(aI 4),(aI 2),(aI 0),(aB false),(aB false),(.sl 2 (fun zi=>([[(aI 2),(aI 2),(aI 1),(aB false),(aB false),.nil],[(aI 2),(aI 2),(aI 0),(aB false),(aB false),.nil]]:List (List AV)).getD zi []))])]:=by
 refine sO Try.f54 42 fun E hE=>?_
 refine rnZ hE 1 (kp [0,1]) (kq [0]) 17 ?_
 refine rnH hE 1 [(2,⟨[0],true,(aI (-1)),[],0,false,none⟩)] qzd90 (kq [0]) 81 (pc (g_slices_IndexFunc_survey_shape_survey_shape_v6_ok N () rfl) pn) ?_
 refine rnZ hE 2 (kp [0,1,5,12]) (kq [0]) 113 ?_
 refine rnK1 0 12 ?_
 refine rnZ hE 1 (kp [4]) (kq [0]) 145 ?_
 exact Runs.nT hE 0 Try.f54 [] (kp [4]) (kq [0]) 145 pn [] pn
theorem g_survey_kept_v3_ok (N:Nat) (r:Unit) (h:g_survey_kept_v3 N=some r):Sound Try.prog 36 [.nil,(.agg [(aI 4),(aI 2),(aI 0),(aB false),(aB false),(.sl 2 (fun zi=>([[(aI 2),(aI 2),(aI 1),(aB false),(aB false),.nil],[(aI 2),(aI 2),(aI 0),(aB false),(aB false),.nil]]:List (List AV)).getD zi []))])] [] 0 (.sl 1 (fun zi=>([[(aI 4),(aI 2),(aI 0),(aB false),(aB false),(.sl 2 (fun zi=>([[(aI 2),(aI 2),(aI 1),(aB false),(aB false),.nil],[(aI 2),(aI 2),(aI 0),(aB false),(aB false),.nil]]:List (List AV)).getD zi []))]]:List (List AV)).getD zi [])) []:=by
 refine sO Try.f36 15 fun E hE=>?_
 refine rnZ hE 1 (kp [0,3]) (kq [0]) 32 ?_
 refine rnH hE 2 [(2,⟨[0],true,(aB false),[],0,false,none⟩)] (kp [0,3,7]) (kq [0]) 80 (pc (g_slices_ContainsFunc_survey_shape_survey_shape_v3_ok N () rfl) pn) ?_
 refine rnK0 0 7 ?_
 refine rnH hE 2 [(2,⟨[0],true,.nil,[],0,false,none⟩)] (kp [4]) [(160,.arr 160 1 (fun zi=>([[(aI 4),(aI 2),(aI 0),(aB false),(aB false),(.sl 2 (fun zi=>([[(aI 2),(aI 2),(aI 1),(aB false),(aB false),.nil],[(aI 2),(aI 2),(aI 0),(aB false),(aB false),.nil]]:List (List AV)).getD zi []))]]:List (List AV)).getD zi []))] 192 (pc (g_slices_DeleteFunc_survey_shape_survey_shape_v3_ok N () rfl) (pc o1 (pc (show 1 * 56≤140737488355328 by decide) (pc (show 0+1≤1 from (z1 1)) (pc (oN [[(aI 4),(aI 2),(aI 0),(aB false),(aB false),(.sl 2 (fun zi=>([[(aI 2),(aI 2),(aI 1),(aB false),(aB false),.nil],[(aI 2),(aI 2),(aI 0),(aB false),(aB false),.nil]]:List (List AV)).getD zi []))]]) (pc (Eq.refl 1) (pc (show ∀ zi,zi < 1→(fun zi=>([[(aI 4),(aI 2),(aI 0),(aB false),(aB false),(.sl 2 (fun zi=>([[(aI 2),(aI 2),(aI 1),(aB false),(aB false),.nil],[(aI 2),(aI 2),(aI 0),(aB false),(aB false),.nil]]:List (List AV)).getD zi []))]]:List (List AV)).getD zi []) zi=(fun zi=>([[(aI 4),(aI 2),(aI 0),(aB false),(aB false),(.sl 2 (fun zi=>([[(aI 2),(aI 2),(aI 1),(aB false),(aB false),.nil],[(aI 2),(aI 2),(aI 0),(aB false),(aB false),.nil]]:List (List AV)).getD zi []))]]:List (List AV)).getD zi []) zi from (allN (n:=1) ⟨trivial,rfl⟩)) pn))))))) ?_
 exact Runs.nT hE 0 Try.f36 [160] [(4,.sl 1 (fun zi=>([[(aI 4),(aI 2),(aI 0),(aB false),(aB false),(.sl 2 (fun zi=>([[(aI 2),(aI 2),(aI 1),(aB false),(aB false),.nil],[(aI 2),(aI 2),(aI 0),(aB false),(aB false),.nil]]:List (List AV)).getD zi []))]]:List (List AV)).getD zi []))] [] 192 (pc (Eq.refl 1) (pc (show 0+1≤1 from (z1 1)) (pc (show ∀ zi,zi < 1→(fun zi=>([[(aI 4),(aI 2),(aI 0),(aB false),(aB false),(.sl 2 (fun zi=>([[(aI 2),(aI 2),(aI 1),(aB false),(aB false),.nil],[(aI 2),(aI 2),(aI 0),(aB false),(aB false),.nil]]:List (List AV)).getD zi []))]]:List (List AV)).getD zi []) zi=(fun zi=>([[(aI 4),(aI 2),(aI 0),(aB false),(aB false),(.sl 2 (fun zi=>([[(aI 2),(aI 2),(aI 1),(aB false),(aB false),.nil],[(aI 2),(aI 2),(aI 0),(aB false),(aB false),.nil]]:List (List AV)).getD zi []))]]:List (List AV)).getD zi []) (addz 0 zi) from (allN (n:=1) ⟨trivial,rfl⟩)) pn))) [] pn
theorem g_survey_shapes_1_v3_ok (N:Nat) (r:Unit) (h:g_survey_shapes_1_v3 N=some r):Sound Try.prog 35 [(aI 3),(.agg [(aI 4),(aI 2),(aI 0),(aB false),(aB false),(.sl 2 (fun zi=>([[(aI 2),(aI 2),(aI 1),(aB false),(aB false),.nil],[(aI 2),(aI 2),(aI 0),(aB false),(aB false),.nil]]:List (List AV)).getD zi []))]),(.op 0 0 0),(.op 1 0 0),(.op 2 0 0)] [(0,vO 1 [(aI 4)]),(1,vO 1 [(aI 2)]),(2,vN 1 [(.os 3 0 4)]),(3,⟨false,1,4,true,fun zi=>([[.nil],[(.sl 1 (fun zi=>([[(aI 2),(aI 2),(aI 0),(aB false),(aB false),.nil]]:List (List AV)).getD zi []))],[(.sl 1 (fun zi=>([[(aI 2),(aI 2),(aI 1),(aB false),(aB false),.nil]]:List (List AV)).getD zi []))],[.nil]]:List (List AV)).getD zi []⟩)] 4 (.tup []) [(0,vO 1 [(aI 4)]),(1,vO 1 [(aI 2)]),(2,vN 1 [(.os 3 0 4)]),(3,⟨false,1,4,true,fun zi=>([[.nil],[(.sl 1 (fun zi=>([[(aI 2),(aI 2),(aI 0),(aB false),(aB false),.nil]]:List (List AV)).getD zi []))],[(.sl 1 (fun zi=>([[(aI 2),(aI 2),(aI 1),(aB false),(aB false),.nil]]:List (List AV)).getD zi []))],[(.sl 1 (fun zi=>([[(aI 4),(aI 2),(aI 0),(aB false),(aB false),(.sl 2 (fun zi=>([[(aI 2),(aI 2),(aI 1),(aB false),(aB false),.nil],[(aI 2),(aI 2),(aI 0),(aB false),(aB false),.nil]]:List (List AV)).getD zi []))]]:List (List AV)).getD zi []))]]:List (List AV)).getD zi []⟩)]:=by
 refine sO Try.f35 26 fun E hE=>?_
 refine rnP hE 1 qzd95 qzd148 20 (pc (Eq.refl 4) (pc (show ∀ zi,zi < 4→(fun zi=>([[.nil],[(.sl 1 (fun zi=>([[(aI 2),(aI 2),(aI 0),(aB false),(aB false),.nil]]:List (List AV)).getD zi []))],[(.sl 1 (fun zi=>([[(aI 2),(aI 2),(aI 1),(aB false),(aB false),.nil]]:List (List AV)).getD zi []))],[.nil]]:List (List AV)).getD zi []) zi=(fun zi=>([[.nil],[(.sl 1 (fun zi=>([[(aI 2),(aI 2),(aI 0),(aB false),(aB false),.nil]]:List (List AV)).getD zi []))],[(.sl 1 (fun zi=>([[(aI 2),(aI 2),(aI 1),(aB false),(aB false),.nil]]:List (List AV)).getD zi []))],[.nil]]:List (List AV)).getD zi []) zi from (allN (n:=4) ⟨⟨⟨⟨trivial,rfl⟩,rfl⟩,rfl⟩,rfl⟩)) pn)) ?_
 refine rnH hE 1 [(5,⟨[],true,.unk,[],1,false,none⟩),(6,⟨[],true,.unk,[],1,false,none⟩),(7,⟨[],true,.unk,[],1,false,none⟩),(8,⟨[],true,.unk,[],1,false,none⟩)] qzd99 qzd148 180 (pc o1 (pc o1 (pc (Eq.refl true) (pc (Eq.refl true) (pc o1 (pc (Eq.refl true) (pc o1 (pc (Eq.refl true) (pc (Eq.refl 4) (pc (show ∀ zi,zi < 4→(fun zi=>([[.nil],[(.sl 1 (fun zi=>([[(aI 2),(aI 2),(aI 0),(aB false),(aB false),.nil]]:List (List AV)).getD zi []))],[(.sl 1 (fun zi=>([[(aI 2),(aI 2),(aI 1),(aB false),(aB false),.nil]]:List (List AV)).getD zi []))],[.nil]]:List (List AV)).getD zi []) zi=(fun zi=>([[.nil],[(.sl 1 (fun zi=>([[(aI 2),(aI 2),(aI 0),(aB false),(aB false),.nil]]:List (List AV)).getD zi []))],[(.sl 1 (fun zi=>([[(aI 2),(aI 2),(aI 1),(aB false),(aB false),.nil]]:List (List AV)).getD zi []))],[.nil]]:List (List AV)).getD zi []) zi from (allN (n:=4) ⟨⟨⟨⟨trivial,rfl⟩,rfl⟩,rfl⟩,rfl⟩)) pn)))))))))) ?_
 refine rnK1 0 16 ?_
 refine rnH hE 0 [(7,⟨[],true,(.sl 1 (fun zi=>([[(aI 4),(aI 2),(aI 0),(aB false),(aB false),(.sl 2 (fun zi=>([[(aI 2),(aI 2),(aI 1),(aB false),(aB false),.nil],[(aI 2),(aI 2),(aI 0),(aB false),(aB false),.nil]]:List (List AV)).getD zi []))]]:List (List AV)).getD zi [])),[],0,false,none⟩)] [] (kq [0,1,2] ++ [(3,.arr 3 4 (fun zi=>([[.nil],[(.sl 1 (fun zi=>([[(aI 2),(aI 2),(aI 0),(aB false),(aB false),.nil]]:List (List AV)).getD zi []))],[(.sl 1 (fun zi=>([[(aI 2),(aI 2),(aI 1),(aB false),(aB false),.nil]]:List (List AV)).getD zi []))],[(.sl 1 (fun zi=>([[(aI 4),(aI 2),(aI 0),(aB false),(aB false),(.sl 2 (fun zi=>([[(aI 2),(aI 2),(aI 1),(aB false),(aB false),.nil],[(aI 2),(aI 2),(aI 0),(aB false),(aB false),.nil]]:List (List AV)).getD zi []))]]:List (List AV)).getD zi []))]]:List (List AV)).getD zi []))]) 340 (pc o1 (pc o1 (pc (show 0≤(3:Int)∧(3:Int) < ((4:Nat):Int) by decide) (pc (show 3 < 4 by decide) (pc o1 (pc (g_survey_kept_v3_ok N () rfl) (pc (show 0≤(3:Int)∧(3:Int) < ((4:Nat):Int) by decide) (pc (show 3 < 4 by decide) (pc (Eq.refl 4) (pc (show ∀ zi,zi < 4→(fun zi=>([[.nil],[(.sl 1 (fun zi=>([[(aI 2),(aI 2),(aI 0),(aB false),(aB false),.nil]]:List (List AV)).getD zi []))],[(.sl 1 (fun zi=>([[(aI 2),(aI 2),(aI 1),(aB false),(aB false),.nil]]:List (List AV)).getD zi []))],[(.sl 1 (fun zi=>([[(aI 4),(aI 2),(aI 0),(aB false),(aB false),(.sl 2 (fun zi=>([[(aI 2),(aI 2),(aI 1),(aB false),(aB false),.nil],[(aI 2),(aI 2),(aI 0),(aB false),(aB false),.nil]]:List (List AV)).getD zi []))]]:List (List AV)).getD zi []))]]:List (List AV)).getD zi []) zi=((fun zm=>if zm=3 then [(.sl 1 (fun zi=>([[(aI 4),(aI 2),(aI 0),(aB false),(aB false),(.sl 2 (fun zi=>([[(aI 2),(aI 2),(aI 1),(aB false),(aB false),.nil],[(aI 2),(aI 2),(aI 0),(aB false),(aB false),.nil]]:List (List AV)).getD zi []))]]:List (List AV)).getD zi []))] else (fun zi=>([[.nil],[(.sl 1 (fun zi=>([[(aI 2),(aI 2),(aI 0),(aB false),(aB false),.nil]]:List (List AV)).getD zi []))],[(.sl 1 (fun zi=>([[(aI 2),(aI 2),(aI 1),(aB false),(aB false),.nil]]:List (List AV)).getD zi []))],[.nil]]:List (List AV)).getD zi []) zm)) zi from (allN (n:=4) ⟨⟨⟨⟨trivial,rfl⟩,rfl⟩,rfl⟩,rfl⟩)) pn)))))))))) ?_
 exact Runs.nF hE 0 Try.f35 [] [] qzd146 340 pn [] pn
theorem g_survey_shapes_1_v4_ok (N:Nat) (r:Unit) (h:g_survey_shapes_1_v4 N=some r):Sound Try.prog 35 [(aI 3),(.agg [(aI 2),(aI 4),(aI 0),(aB false),(aB true),(.sl 2 (fun zi=>([[(aI 2),(aI 2),(aI 1),(aB false),(aB false),.nil],[(aI 2),(aI 2),(aI 0),(aB false),(aB false),.nil]]:List (List AV)).getD zi []))]),(.op 0 0 0),(.op 1 0 0),(.op 2 0 0)] [(0,vO 1 [(aI 4)]),(1,vO 1 [(aI 2)]),(2,vN 1 [(.os 3 0 4)]),(3,⟨false,1,4,true,fun zi=>([[.nil],[(.sl 1 (fun zi=>([[(aI 2),(aI 2),(aI 0),(aB false),(aB false),.nil]]:List (List AV)).getD zi []))],[(.sl 1 (fun zi=>([[(aI 2),(aI 2),(aI 1),(aB false),(aB false),.nil]]:List (List AV)).getD zi []))],[(.sl 1 (fun zi=>([[(aI 4),(aI 2),(aI 0),(aB false),(aB false),(.sl 2 (fun zi=>([[(aI 2),(aI 2),(aI 1),(aB false),(aB false),.nil],[(aI 2),(aI 2),(aI 0),(aB false),(aB false),.nil]]:List (List AV)).getD zi []))]]:List (List AV)).getD zi []))]]:List (List AV)).getD zi []⟩)] 4 (.tup []) [(0,vO 1 [(aI 4)]),(1,vO 1 [(aI 2)]),(2,vN 1 [(.os 3 0 4)]),(3,⟨false,1,4,true,fun zi=>([[.nil],[(.sl 1 (fun zi=>([[(aI 2),(aI 2),(aI 0),(aB false),(aB false),.nil]]:List (List AV)).getD zi []))],[(.sl 1 (fun zi=>([[(aI 2),(aI 2),(aI 1),(aB false),(aB false),.nil]]:List (List AV)).getD zi []))],[(.sl 1 (fun zi=>([[(aI 4),(aI 2),(aI 0),(aB false),(aB false),(.sl 2 (fun zi=>([[(aI 2),(aI 2),(aI 1),(aB false),(aB false),.nil],[(aI 2),(aI 2),(aI 0),(aB false),(aB false),.nil]]:List (List AV)).getD zi []))]]:List (List AV)).getD zi []))]]:List (List AV)).getD zi []⟩)]:=by
 refine sO Try.f35 26 fun E hE=>?_
 refine rnP hE 1 qzd95 qzd147 20 (pc (Eq.refl 4) (pc (show ∀ zi,zi < 4→(fun zi=>([[.nil],[(.sl 1 (fun zi=>([[(aI 2),(aI 2),(aI 0),(aB false),(aB false),.nil]]:List (List AV)).getD zi []))],[(.sl 1 (fun zi=>([[(aI 2),(aI 2),(aI 1),(aB false),(aB false),.nil]]:List (List AV)).getD zi []))],[(.sl 1 (fun zi=>([[(aI 4),(aI 2),(aI 0),(aB false),(aB false),(.sl 2 (fun zi=>([[(aI 2),(aI 2),(aI 1),(aB false),(aB false),.nil],[(aI 2),(aI 2),(aI 0),(aB false),(aB false),.nil]]:List (List AV)).getD zi []))]]:List (List AV)).getD zi []))]]:List (List AV)).getD zi []) zi=(fun zi=>([[.nil],[(.sl 1 (fun zi=>([[(aI 2),(aI 2),(aI 0),(aB false),(aB false),.nil]]:List (List AV)).getD zi []))],[(.sl 1 (fun zi=>([[(aI 2),(aI 2),(aI 1),(aB false),(aB false),.nil]]:List (List AV)).getD zi []))],[(.sl 1 (fun zi=>([[(aI 4),(aI 2),(aI 0),(aB false),(aB false),(.sl 2 (fun zi=>([[(aI 2),(aI 2),(aI 1),(aB false),(aB false),.nil],[(aI 2),(aI 2),(aI 0),(aB false),(aB false),.nil]]:List (List AV)).getD zi []))]]:List (List AV)).getD zi []))]]:List (List AV)).getD zi []) zi from (allN (n:=4) ⟨⟨⟨⟨trivial,rfl⟩,rfl⟩,rfl⟩,rfl⟩)) pn)) ?_
 refine rnH hE 1 [(5,⟨[],true,.unk,[],1,false,none⟩),(6,⟨[],true,.unk,[],1,false,none⟩),(7,⟨[],true,.unk,[],1,false,none⟩),(8,⟨[],true,.unk,[],1,false,none⟩)] qzd99 qzd147 180 (pc o1 (pc o1 (pc (Eq.refl true) (pc (Eq.refl true) (pc o1 (pc (Eq.refl true) (pc o1 (pc (Eq.refl true) (pc (Eq.refl 4) (pc (show ∀ zi,zi < 4→(fun zi=>([[.nil],[(.sl 1 (fun zi=>([[(aI 2),(aI 2),(aI 0),(aB false),(aB false),.nil]]:List (List AV)).getD zi []))],[(.sl 1 (fun zi=>([[(aI 2),(aI 2),(aI 1),(aB false),(aB false),.nil]]:List (List AV)).getD zi []))],[(.sl 1 (fun zi=>([[(aI 4),(aI 2),(aI 0),(aB false),(aB false),(.sl 2 (fun zi=>([[(aI 2),(aI 2),(aI 1),(aB false),(aB false),.nil],[(aI 2),(aI 2),(aI 0),(aB false),(aB false),.nil]]:List (List AV)).getD zi []))]]:List (List AV)).getD zi []))]]:List (List AV)).getD zi []) zi=(fun zi=>([[.nil],[(.sl 1 (fun zi=>([[(aI 2),(aI 2),(aI 0),(aB false),(aB false),.nil]]:List (List AV)).getD zi []))],[(.sl 1 (fun zi=>([[(aI 2),(aI 2),(aI 1),(aB false),(aB false),.nil]]:List (List AV)).getD zi []))],[(.sl 1 (fun zi=>([[(aI 4),(aI 2),(aI 0),(aB false),(aB false),(.sl 2 (fun zi=>([[(aI 2),(aI 2),(aI 1),(aB false),(aB false),.nil],[(aI 2),(aI 2),(aI 0),(aB false),(aB false),.nil]]:List (List AV)).getD zi []))]]:List (List AV)).getD zi []))]]:List (List AV)).getD zi []) zi from (allN (n:=4) ⟨⟨⟨⟨trivial,rfl⟩,rfl⟩,rfl⟩,rfl⟩)) pn)))))))))) ?_
 refine rnK0 0 16 ?_
 exact Runs.nF hE 1 Try.f35 [] [] qzd146 180 pn [] pn
theorem g_survey_shapes_ok (N:Nat) (r:Unit) (h:g_survey_shapes N=some r):Sound Try.prog 20 [(.sl 2 qzd77),(aI 4),(aI 2),(aI 0)] [] 0 (.sl 4 (fun zi=>([[.nil],[(.sl 1 (fun zi=>([[(aI 2),(aI 2),(aI 0),(aB false),(aB false),.nil]]:List (List AV)).getD zi []))],[(.sl 1 (fun zi=>([[(aI 2),(aI 2),(aI 1),(aB false),(aB false),.nil]]:List (List AV)).getD zi []))],[(.sl 1 (fun zi=>([[(aI 4),(aI 2),(aI 0),(aB false),(aB false),(.sl 2 (fun zi=>([[(aI 2),(aI 2),(aI 1),(aB false),(aB false),.nil],[(aI 2),(aI 2),(aI 0),(aB false),(aB false),.nil]]:List (List AV)).getD zi []))]]:List (List AV)).getD zi []))]]:List (List AV)).getD zi [])) []:=by
 refine sO Try.f20 140 fun E hE=>?_
 refine rnZ hE 1 (kp [0,3,5,6]) qzd166 48 ?_
 refine rnP hE 1 (kp [0,3,5,6,9]) qzd165 144 (pc (show (0:Int)≤2 by decide) (pc (show 0≤(4:Int) by decide) (pc (show (4:Int)≤4 by decide) (pc (show (24:Int) * 4≤281474976710656 by decide) (pc (show (4:Int)≤9223372036854775807 by decide) (pc o1 (pc (Eq.refl 4) (pc (show ∀ zi,zi < 4→(fun zi=>([[.nil],[.nil],[.nil],[.nil]]:List (List AV)).getD zi []) zi=(fun _=>[.nil]) zi from (allN (n:=4) ⟨⟨⟨⟨trivial,rfl⟩,rfl⟩,rfl⟩,rfl⟩)) pn)))))))) ?_
 refine rnP hE 1 (kp [0,3,9,10]) qzd165 176 (pc (Eq.refl 4) (pc (show ∀ zi,zi < 4→(fun zi=>([[.nil],[.nil],[.nil],[.nil]]:List (List AV)).getD zi []) zi=(fun zi=>([[.nil],[.nil],[.nil],[.nil]]:List (List AV)).getD zi []) zi from (allN (n:=4) ⟨⟨⟨⟨trivial,rfl⟩,rfl⟩,rfl⟩,rfl⟩)) pn)) ?_
 refine rnP hE 2 qzd139 qzd165 224 (pc (Eq.refl 4) (pc (show ∀ zi,zi < 4→(fun zi=>([[.nil],[.nil],[.nil],[.nil]]:List (List AV)).getD zi []) zi=(fun zi=>([[.nil],[.nil],[.nil],[.nil]]:List (List AV)).getD zi []) zi from (allN (n:=4) ⟨⟨⟨⟨trivial,rfl⟩,rfl⟩,rfl⟩,rfl⟩)) pn)) ?_
 refine rnP hE 3 qzd138 qzd165 240 (pc (Eq.refl 4) (pc (show ∀ zi,zi < 4→(fun zi=>([[.nil],[.nil],[.nil],[.nil]]:List (List AV)).getD zi []) zi=(fun zi=>([[.nil],[.nil],[.nil],[.nil]]:List (List AV)).getD zi []) zi from (allN (n:=4) ⟨⟨⟨⟨trivial,rfl⟩,rfl⟩,rfl⟩,rfl⟩)) pn)) ?_
 refine rnK1 1 27 ?_
 refine rnP hE 4 qzd126 qzd164 336 (pc (show 0≤(0:Int)∧(0:Int) < ((2:Nat):Int) by decide) (pc o1 (pc (Eq.refl 4) (pc (show ∀ zi,zi < 4→(fun zi=>([[.nil],[.nil],[.nil],[.nil]]:List (List AV)).getD zi []) zi=(fun zi=>([[.nil],[.nil],[.nil],[.nil]]:List (List AV)).getD zi []) zi from (allN (n:=4) ⟨⟨⟨⟨trivial,rfl⟩,rfl⟩,rfl⟩,rfl⟩)) pn)))) ?_
 refine rnH hE 1 [(9,⟨[0,16,112,96],false,(.tup []),[(0,vO 1 [(aI 4)]),(1,vO 1 [(aI 2)]),(2,vN 1 [(.os 3 0 4)]),(3,⟨false,1,4,true,fun zi=>([[.nil],[(.sl 1 (fun zi=>([[(aI 2),(aI 2),(aI 0),(aB false),(aB false),.nil]]:List (List AV)).getD zi []))],[.nil],[.nil]]:List (List AV)).getD zi []⟩)],0,false,none⟩)] qzd126 qzd161 496 (pc (show (0:Int)≤0 by decide) (pc o1 (pc o1 (pc (g_survey_shapes_1_ok N () rfl) (pc (Eq.refl 4) (pc (show ∀ zi,zi < 4→(fun zi=>([[.nil],[(.sl 1 (fun zi=>([[(aI 2),(aI 2),(aI 0),(aB false),(aB false),.nil]]:List (List AV)).getD zi []))],[.nil],[.nil]]:List (List AV)).getD zi []) zi=(fun zi=>([[.nil],[(.sl 1 (fun zi=>([[(aI 2),(aI 2),(aI 0),(aB false),(aB false),.nil]]:List (List AV)).getD zi []))],[.nil],[.nil]]:List (List AV)).getD zi []) zi from (allN (n:=4) ⟨⟨⟨⟨trivial,rfl⟩,rfl⟩,rfl⟩,rfl⟩)) pn)))))) ?_
 refine rnP hE 1 qzd125 qzd161 528 (pc o1 (pc (Eq.refl 4) (pc (show ∀ zi,zi < 4→(fun zi=>([[.nil],[(.sl 1 (fun zi=>([[(aI 2),(aI 2),(aI 0),(aB false),(aB false),.nil]]:List (List AV)).getD zi []))],[.nil],[.nil]]:List (List AV)).getD zi []) zi=(fun zi=>([[.nil],[(.sl 1 (fun zi=>([[(aI 2),(aI 2),(aI 0),(aB false),(aB false),.nil]]:List (List AV)).getD zi []))],[.nil],[.nil]]:List (List AV)).getD zi []) zi from (allN (n:=4) ⟨⟨⟨⟨trivial,rfl⟩,rfl⟩,rfl⟩,rfl⟩)) pn))) ?_
 refine rnK0 0 42 ?_
 refine rnP hE 2 qzd139 qzd163 560 (pc (Eq.refl 4) (pc (show ∀ zi,zi < 4→(fun zi=>([[.nil],[(.sl 1 (fun zi=>([[(aI 2),(aI 2),(aI 0),(aB false),(aB false),.nil]]:List (List AV)).getD zi []))],[.nil],[.nil]]:List (List AV)).getD zi []) zi=(fun zi=>([[.nil],[(.sl 1 (fun zi=>([[(aI 2),(aI 2),(aI 0),(aB false),(aB false),.nil]]:List (List AV)).getD zi []))],[.nil],[.nil]]:List (List AV)).getD zi []) zi from (allN (n:=4) ⟨⟨⟨⟨trivial,rfl⟩,rfl⟩,rfl⟩,rfl⟩)) pn)) ?_
 refine rnP hE 2 qzd138 qzd163 576 (pc (Eq.refl 4) (pc (show ∀ zi,zi < 4→(fun zi=>([[.nil],[(.sl 1 (fun zi=>([[(aI 2),(aI 2),(aI 0),(aB false),(aB false),.nil]]:List (List AV)).getD zi []))],[.nil],[.nil]]:List (List AV)).getD zi []) zi=(fun zi=>([[.nil],[(.sl 1 (fun zi=>([[(aI 2),(aI 2),(aI 0),(aB false),(aB false),.nil]]:List (List AV)).getD zi []))],[.nil],[.nil]]:List (List AV)).getD zi []) zi from (allN (n:=4) ⟨⟨⟨⟨trivial,rfl⟩,rfl⟩,rfl⟩,rfl⟩)) pn)) ?_
 refine rnK1 1 27 ?_
 refine rnP hE 4 qzd126 qzd162 672 (pc (show 0≤(1:Int)∧(1:Int) < ((2:Nat):Int) by decide) (pc o1 (pc (Eq.refl 4) (pc (show ∀ zi,zi < 4→(fun zi=>([[.nil],[(.sl 1 (fun zi=>([[(aI 2),(aI 2),(aI 0),(aB false),(aB false),.nil]]:List (List AV)).getD zi []))],[.nil],[.nil]]:List (List AV)).getD zi []) zi=(fun zi=>([[.nil],[(.sl 1 (fun zi=>([[(aI 2),(aI 2),(aI 0),(aB false),(aB false),.nil]]:List (List AV)).getD zi []))],[.nil],[.nil]]:List (List AV)).getD zi []) zi from (allN (n:=4) ⟨⟨⟨⟨trivial,rfl⟩,rfl⟩,rfl⟩,rfl⟩)) pn)))) ?_
 refine rnH hE 1 [(9,⟨[0,16,112,96],false,(.tup []),[(0,vO 1 [(aI 4)]),(1,vO 1 [(aI 2)]),(2,vN 1 [(.os 3 0 4)]),(3,⟨false,1,4,true,fun zi=>([[.nil],[(.sl 1 (fun zi=>([[(aI 2),(aI 2),(aI 0),(aB false),(aB false),.nil]]:List (List AV)).getD zi []))],[(.sl 1 (fun zi=>([[(aI 2),(aI 2),(aI 1),(aB false),(aB false),.nil]]:List (List AV)).getD zi []))],[.nil]]:List (List AV)).getD zi []⟩)],0,false,none⟩)] qzd126 qzd159 832 (pc (show (0:Int)≤1 by decide) (pc o1 (pc o1 (pc (g_survey_shapes_1_v2_ok N () rfl) (pc (Eq.refl 4) (pc (show ∀ zi,zi < 4→(fun zi=>([[.nil],[(.sl 1 (fun zi=>([[(aI 2),(aI 2),(aI 0),(aB false),(aB false),.nil]]:List (List AV)).getD zi []))],[(.sl 1 (fun zi=>([[(aI 2),(aI 2),(aI 1),(aB false),(aB false),.nil]]:List (List AV)).getD zi []))],[.nil]]:List (List AV)).getD zi []) zi=(fun zi=>([[.nil],[(.sl 1 (fun zi=>([[(aI 2),(aI 2),(aI 0),(aB false),(aB false),.nil]]:List (List AV)).getD zi []))],[(.sl 1 (fun zi=>([[(aI 2),(aI 2),(aI 1),(aB false),(aB false),.nil]]:List (List AV)).getD zi []))],[.nil]]:List (List AV)).getD zi []) zi from (allN (n:=4) ⟨⟨⟨⟨trivial,rfl⟩,rfl⟩,rfl⟩,rfl⟩)) pn)))))) ?_
 refine rnP hE 1 qzd125 qzd159 864 (pc o1 (pc (Eq.refl 4) (pc (show ∀ zi,zi < 4→(fun zi=>([[.nil],[(.sl 1 (fun zi=>([[(aI 2),(aI 2),(aI 0),(aB false),(aB false),.nil]]:List (List AV)).getD zi []))],[(.sl 1 (fun zi=>([[(aI 2),(aI 2),(aI 1),(aB false),(aB false),.nil]]:List (List AV)).getD zi []))],[.nil]]:List (List AV)).getD zi []) zi=(fun zi=>([[.nil],[(.sl 1 (fun zi=>([[(aI 2),(aI 2),(aI 0),(aB false),(aB false),.nil]]:List (List AV)).getD zi []))],[(.sl 1 (fun zi=>([[(aI 2),(aI 2),(aI 1),(aB false),(aB false),.nil]]:List (List AV)).getD zi []))],[.nil]]:List (List AV)).getD zi []) zi from (allN (n:=4) ⟨⟨⟨⟨trivial,rfl⟩,rfl⟩,rfl⟩,rfl⟩)) pn))) ?_
 refine rnK0 0 42 ?_
 refine rnP hE 2 qzd139 qzd160 896 (pc (Eq.refl 4) (pc (show ∀ zi,zi < 4→(fun zi=>([[.nil],[(.sl 1 (fun zi=>([[(aI 2),(aI 2),(aI 0),(aB false),(aB false),.nil]]:List (List AV)).getD zi []))],[(.sl 1 (fun zi=>([[(aI 2),(aI 2),(aI 1),(aB false),(aB false),.nil]]:List (List AV)).getD zi []))],[.nil]]:List (List AV)).getD zi []) zi=(fun zi=>([[.nil],[(.sl 1 (fun zi=>([[(aI 2),(aI 2),(aI 0),(aB false),(aB false),.nil]]:List (List AV)).getD zi []))],[(.sl 1 (fun zi=>([[(aI 2),(aI 2),(aI 1),(aB false),(aB false),.nil]]:List (List AV)).getD zi []))],[.nil]]:List (List AV)).getD zi []) zi from (allN (n:=4) ⟨⟨⟨⟨trivial,rfl⟩,rfl⟩,rfl⟩,rfl⟩)) pn)) ?_
 refine rnP hE 2 qzd138 qzd160 912 (pc (Eq.refl 4) (pc (show ∀ zi,zi < 4→(fun zi=>([[.nil],[(.sl 1 (fun zi=>([[(aI 2),(aI 2),(aI 0),(aB false),(aB false),.nil]]:List (List AV)).getD zi []))],[(.sl 1 (fun zi=>([[(aI 2),(aI 2),(aI 1),(aB false),(aB false),.nil]]:List (List AV)).getD zi []))],[.nil]]:List (List AV)).getD zi []) zi=(fun zi=>([[.nil],[(.sl 1 (fun zi=>([[(aI 2),(aI 2),(aI 0),(aB false),(aB false),.nil]]:List (List AV)).getD zi []))],[(.sl 1 (fun zi=>([[(aI 2),(aI 2),(aI 1),(aB false),(aB false),.nil]]:List (List AV)).getD zi []))],[.nil]]:List (List AV)).getD zi []) zi from (allN (n:=4) ⟨⟨⟨⟨trivial,rfl⟩,rfl⟩,rfl⟩,rfl⟩)) pn)) ?_
 refine rnK0 1 27 ?_
 refine rnP hE 3 qzd141 qzd160 960 (pc o1 (pc (Eq.refl 4) (pc (show ∀ zi,zi < 4→(fun zi=>([[.nil],[(.sl 1 (fun zi=>([[(aI 2),(aI 2),(aI 0),(aB false),(aB false),.nil]]:List (List AV)).getD zi []))],[(.sl 1 (fun zi=>([[(aI 2),(aI 2),(aI 1),(aB false),(aB false),.nil]]:List (List AV)).getD zi []))],[.nil]]:List (List AV)).getD zi []) zi=(fun zi=>([[.nil],[(.sl 1 (fun zi=>([[(aI 2),(aI 2),(aI 0),(aB false),(aB false),.nil]]:List (List AV)).getD zi []))],[(.sl 1 (fun zi=>([[(aI 2),(aI 2),(aI 1),(aB false),(aB false),.nil]]:List (List AV)).getD zi []))],[.nil]]:List (List AV)).getD zi []) zi from (allN (n:=4) ⟨⟨⟨⟨trivial,rfl⟩,rfl⟩,rfl⟩,rfl⟩)) pn))) ?_
 refine rnP hE 3 qzd140 qzd160 976 (pc (Eq.refl 4) (pc (show ∀ zi,zi < 4→(fun zi=>([[.nil],[(.sl 1 (fun zi=>([[(aI 2),(aI 2),(aI 0),(aB false),(aB false),.nil]]:List (List AV)).getD zi []))],[(.sl 1 (fun zi=>([[(aI 2),(aI 2),(aI 1),(aB false),(aB false),.nil]]:List (List AV)).getD zi []))],[.nil]]:List (List AV)).getD zi []) zi=(fun zi=>([[.nil],[(.sl 1 (fun zi=>([[(aI 2),(aI 2),(aI 0),(aB false),(aB false),.nil]]:List (List AV)).getD zi []))],[(.sl 1 (fun zi=>([[(aI 2),(aI 2),(aI 1),(aB false),(aB false),.nil]]:List (List AV)).getD zi []))],[.nil]]:List (List AV)).getD zi []) zi from (allN (n:=4) ⟨⟨⟨⟨trivial,rfl⟩,rfl⟩,rfl⟩,rfl⟩)) pn)) ?_
 refine rnK1 1 57 ?_
 refine rnP hE 4 qzd137 qzd160 1008 (pc (Eq.refl 4) (pc (show ∀ zi,zi < 4→(fun zi=>([[.nil],[(.sl 1 (fun zi=>([[(aI 2),(aI 2),(aI 0),(aB false),(aB false),.nil]]:List (List AV)).getD zi []))],[(.sl 1 (fun zi=>([[(aI 2),(aI 2),(aI 1),(aB false),(aB false),.nil]]:List (List AV)).getD zi []))],[.nil]]:List (List AV)).getD zi []) zi=(fun zi=>([[.nil],[(.sl 1 (fun zi=>([[(aI 2),(aI 2),(aI 0),(aB false),(aB false),.nil]]:List (List AV)).getD zi []))],[(.sl 1 (fun zi=>([[(aI 2),(aI 2),(aI 1),(aB false),(aB false),.nil]]:List (List AV)).getD zi []))],[.nil]]:List (List AV)).getD zi []) zi from (allN (n:=4) ⟨⟨⟨⟨trivial,rfl⟩,rfl⟩,rfl⟩,rfl⟩)) pn)) ?_
 refine rnH hE 2 [(2,⟨[],true,(aI 0),[],0,false,none⟩)] qzd136 qzd160 1072 (pc (g_math_bits_OnesCount_ok N () rfl) (pc (Eq.refl 4) (pc (show ∀ zi,zi < 4→(fun zi=>([[.nil],[(.sl 1 (fun zi=>([[(aI 2),(aI 2),(aI 0),(aB false),(aB false),.nil]]:List (List AV)).getD zi []))],[(.sl 1 (fun zi=>([[(aI 2),(aI 2),(aI 1),(aB false),(aB false),.nil]]:List (List AV)).getD zi []))],[.nil]]:List (List AV)).getD zi []) zi=(fun zi=>([[.nil],[(.sl 1 (fun zi=>([[(aI 2),(aI 2),(aI 0),(aB false),(aB false),.nil]]:List (List AV)).getD zi []))],[(.sl 1 (fun zi=>([[(aI 2),(aI 2),(aI 1),(aB false),(aB false),.nil]]:List (List AV)).getD zi []))],[.nil]]:List (List AV)).getD zi []) zi from (allN (n:=4) ⟨⟨⟨⟨trivial,rfl⟩,rfl⟩,rfl⟩,rfl⟩)) pn))) ?_
 refine rnK1 0 62 ?_
 refine rnP hE 1 qzd141 qzd160 1104 (pc (Eq.refl 4) (pc (show ∀ zi,zi < 4→(fun zi=>([[.nil],[(.sl 1 (fun zi=>([[(aI 2),(aI 2),(aI 0),(aB false),(aB false),.nil]]:List (List AV)).getD zi []))],[(.sl 1 (fun zi=>([[(aI 2),(aI 2),(aI 1),(aB false),(aB false),.nil]]:List (List AV)).getD zi []))],[.nil]]:List (List AV)).getD zi []) zi=(fun zi=>([[.nil],[(.sl 1 (fun zi=>([[(aI 2),(aI 2),(aI 0),(aB false),(aB false),.nil]]:List (List AV)).getD zi []))],[(.sl 1 (fun zi=>([[(aI 2),(aI 2),(aI 1),(aB false),(aB false),.nil]]:List (List AV)).getD zi []))],[.nil]]:List (List AV)).getD zi []) zi from (allN (n:=4) ⟨⟨⟨⟨trivial,rfl⟩,rfl⟩,rfl⟩,rfl⟩)) pn)) ?_
 refine rnP hE 2 qzd140 qzd160 1120 (pc (Eq.refl 4) (pc (show ∀ zi,zi < 4→(fun zi=>([[.nil],[(.sl 1 (fun zi=>([[(aI 2),(aI 2),(aI 0),(aB false),(aB false),.nil]]:List (List AV)).getD zi []))],[(.sl 1 (fun zi=>([[(aI 2),(aI 2),(aI 1),(aB false),(aB false),.nil]]:List (List AV)).getD zi []))],[.nil]]:List (List AV)).getD zi []) zi=(fun zi=>([[.nil],[(.sl 1 (fun zi=>([[(aI 2),(aI 2),(aI 0),(aB false),(aB false),.nil]]:List (List AV)).getD zi []))],[(.sl 1 (fun zi=>([[(aI 2),(aI 2),(aI 1),(aB false),(aB false),.nil]]:List (List AV)).getD zi []))],[.nil]]:List (List AV)).getD zi []) zi from (allN (n:=4) ⟨⟨⟨⟨trivial,rfl⟩,rfl⟩,rfl⟩,rfl⟩)) pn)) ?_
 refine rnK1 1 57 ?_
 refine rnP hE 4 qzd137 qzd160 1152 (pc (Eq.refl 4) (pc (show ∀ zi,zi < 4→(fun zi=>([[.nil],[(.sl 1 (fun zi=>([[(aI 2),(aI 2),(aI 0),(aB false),(aB false),.nil]]:List (List AV)).getD zi []))],[(.sl 1 (fun zi=>([[(aI 2),(aI 2),(aI 1),(aB false),(aB false),.nil]]:List (List AV)).getD zi []))],[.nil]]:List (List AV)).getD zi []) zi=(fun zi=>([[.nil],[(.sl 1 (fun zi=>([[(aI 2),(aI 2),(aI 0),(aB false),(aB false),.nil]]:List (List AV)).getD zi []))],[(.sl 1 (fun zi=>([[(aI 2),(aI 2),(aI 1),(aB false),(aB false),.nil]]:List (List AV)).getD zi []))],[.nil]]:List (List AV)).getD zi []) zi from (allN (n:=4) ⟨⟨⟨⟨trivial,rfl⟩,rfl⟩,rfl⟩,rfl⟩)) pn)) ?_
 refine rnH hE 2 [(2,⟨[],true,(aI 1),[],0,false,none⟩)] qzd136 qzd160 1216 (pc (g_math_bits_OnesCount_v2_ok N () rfl) (pc (Eq.refl 4) (pc (show ∀ zi,zi < 4→(fun zi=>([[.nil],[(.sl 1 (fun zi=>([[(aI 2),(aI 2),(aI 0),(aB false),(aB false),.nil]]:List (List AV)).getD zi []))],[(.sl 1 (fun zi=>([[(aI 2),(aI 2),(aI 1),(aB false),(aB false),.nil]]:List (List AV)).getD zi []))],[.nil]]:List (List AV)).getD zi []) zi=(fun zi=>([[.nil],[(.sl 1 (fun zi=>([[(aI 2),(aI 2),(aI 0),(aB false),(aB false),.nil]]:List (List AV)).getD zi []))],[(.sl 1 (fun zi=>([[(aI 2),(aI 2),(aI 1),(aB false),(aB false),.nil]]:List (List AV)).getD zi []))],[.nil]]:List (List AV)).getD zi []) zi from (allN (n:=4) ⟨⟨⟨⟨trivial,rfl⟩,rfl⟩,rfl⟩,rfl⟩)) pn))) ?_
 refine rnK1 0 62 ?_
 refine rnP hE 1 qzd141 qzd160 1248 (pc (Eq.refl 4) (pc (show ∀ zi,zi < 4→(fun zi=>([[.nil],[(.sl 1 (fun zi=>([[(aI 2),(aI 2),(aI 0),(aB false),(aB false),.nil]]:List (List AV)).getD zi []))],[(.sl 1 (fun zi=>([[(aI 2),(aI 2),(aI 1),(aB false),(aB false),.nil]]:List (List AV)).getD zi []))],[.nil]]:List (List AV)).getD zi []) zi=(fun zi=>([[.nil],[(.sl 1 (fun zi=>([[(aI 2),(aI 2),(aI 0),(aB false),(aB false),.nil]]:List (List AV)).getD zi []))],[(.sl 1 (fun zi=>([[(aI 2),(aI 2),(aI 1),(aB false),(aB false),.nil]]:List (List AV)).getD zi []))],[.nil]]:List (List AV)).getD zi []) zi from (allN (n:=4) ⟨⟨⟨⟨trivial,rfl⟩,rfl⟩,rfl⟩,rfl⟩)) pn)) ?_
 refine rnP hE 2 qzd140 qzd160 1264 (pc (Eq.refl 4) (pc (show ∀ zi,zi < 4→(fun zi=>([[.nil],[(.sl 1 (fun zi=>([[(aI 2),(aI 2),(aI 0),(aB false),(aB false),.nil]]:List (List AV)).getD zi []))],[(.sl 1 (fun zi=>([[(aI 2),(aI 2),(aI 1),(aB false),(aB false),.nil]]:List (List AV)).getD zi []))],[.nil]]:List (List AV)).getD zi []) zi=(fun zi=>([[.nil],[(.sl 1 (fun zi=>([[(aI 2),(aI 2),(aI 0),(aB false),(aB false),.nil]]:List (List AV)).getD zi []))],[(.sl 1 (fun zi=>([[(aI 2),(aI 2),(aI 1),(aB false),(aB false),.nil]]:List (List AV)).getD zi []))],[.nil]]:List (List AV)).getD zi []) zi from (allN (n:=4) ⟨⟨⟨⟨trivial,rfl⟩,rfl⟩,rfl⟩,rfl⟩)) pn)) ?_
 refine rnK1 1 57 ?_
 refine rnP hE 4 qzd137 qzd160 1296 (pc (Eq.refl 4) (pc (show ∀ zi,zi < 4→(fun zi=>([[.nil],[(.sl 1 (fun zi=>([[(aI 2),(aI 2),(aI 0),(aB false),(aB false),.nil]]:List (List AV)).getD zi []))],[(.sl 1 (fun zi=>([[(aI 2),(aI 2),(aI 1),(aB false),(aB false),.nil]]:List (List AV)).getD zi []))],[.nil]]:List (List AV)).getD zi []) zi=(fun zi=>([[.nil],[(.sl 1 (fun zi=>([[(aI 2),(aI 2),(aI 0),(aB false),(aB false),.nil]]:List (List AV)).getD zi []))],[(.sl 1 (fun zi=>([[(aI 2),(aI 2),(aI 1),(aB false),(aB false),.nil]]:List (List AV)).getD zi []))],[.nil]]:List (List AV)).getD zi []) zi from (allN (n:=4) ⟨⟨⟨⟨trivial,rfl⟩,rfl⟩,rfl⟩,rfl⟩)) pn)) ?_
 refine rnH hE 2 [(2,⟨[],true,(aI 1),[],0,false,none⟩)] qzd136 qzd160 1360 (pc (g_math_bits_OnesCount_v3_ok N () rfl) (pc (Eq.refl 4) (pc (show ∀ zi,zi < 4→(fun zi=>([[.nil],[(.sl 1 (fun zi=>([[(aI 2),(aI 2),(aI 0),(aB false),(aB false),.nil]]:List (List AV)).getD zi []))],[(.sl 1 (fun zi=>([[(aI 2),(aI 2),(aI 1),(aB false),(aB false),.nil]]:List (List AV)).getD zi []))],[.nil]]:List (List AV)).getD zi []) zi=(fun zi=>([[.nil],[(.sl 1 (fun zi=>([[(aI 2),(aI 2),(aI 0),(aB false),(aB false),.nil]]:List (List AV)).getD zi []))],[(.sl 1 (fun zi=>([[(aI 2),(aI 2),(aI 1),(aB false),(aB false),.nil]]:List (List AV)).getD zi []))],[.nil]]:List (List AV)).getD zi []) zi from (allN (n:=4) ⟨⟨⟨⟨trivial,rfl⟩,rfl⟩,rfl⟩,rfl⟩)) pn))) ?_
 refine rnK1 0 62 ?_
 refine rnP hE 1 qzd141 qzd160 1392 (pc (Eq.refl 4) (pc (show ∀ zi,zi < 4→(fun zi=>([[.nil],[(.sl 1 (fun zi=>([[(aI 2),(aI 2),(aI 0),(aB false),(aB false),.nil]]:List (List AV)).getD zi []))],[(.sl 1 (fun zi=>([[(aI 2),(aI 2),(aI 1),(aB false),(aB false),.nil]]:List (List AV)).getD zi []))],[.nil]]:List (List AV)).getD zi []) zi=(fun zi=>([[.nil],[(.sl 1 (fun zi=>([[(aI 2),(aI 2),(aI 0),(aB false),(aB false),.nil]]:List (List AV)).getD zi []))],[(.sl 1 (fun zi=>([[(aI 2),(aI 2),(aI 1),(aB false),(aB false),.nil]]:List (List AV)).getD zi []))],[.nil]]:List (List AV)).getD zi []) zi from (allN (n:=4) ⟨⟨⟨⟨trivial,rfl⟩,rfl⟩,rfl⟩,rfl⟩)) pn)) ?_
 refine rnP hE 2 qzd140 qzd160 1408 (pc (Eq.refl 4) (pc (show ∀ zi,zi < 4→(fun zi=>([[.nil],[(.sl 1 (fun zi=>([[(aI 2),(aI 2),(aI 0),(aB false),(aB false),.nil]]:List (List AV)).getD zi []))],[(.sl 1 (fun zi=>([[(aI 2),(aI 2),(aI 1),(aB false),(aB false),.nil]]:List (List AV)).getD zi []))],[.nil]]:List (List AV)).getD zi []) zi=(fun zi=>([[.nil],[(.sl 1 (fun zi=>([[(aI 2),(aI 2),(aI 0),(aB false),(aB false),.nil]]:List (List AV)).getD zi []))],[(.sl 1 (fun zi=>([[(aI 2),(aI 2),(aI 1),(aB false),(aB false),.nil]]:List (List AV)).getD zi []))],[.nil]]:List (List AV)).getD zi []) zi from (allN (n:=4) ⟨⟨⟨⟨trivial,rfl⟩,rfl⟩,rfl⟩,rfl⟩)) pn)) ?_
 refine rnK1 1 57 ?_
 refine rnP hE 4 qzd137 qzd160 1440 (pc (Eq.refl 4) (pc (show ∀ zi,zi < 4→(fun zi=>([[.nil],[(.sl 1 (fun zi=>([[(aI 2),(aI 2),(aI 0),(aB false),(aB false),.nil]]:List (List AV)).getD zi []))],[(.sl 1 (fun zi=>([[(aI 2),(aI 2),(aI 1),(aB false),(aB false),.nil]]:List (List AV)).getD zi []))],[.nil]]:List (List AV)).getD zi []) zi=(fun zi=>([[.nil],[(.sl 1 (fun zi=>([[(aI 2),(aI 2),(aI 0),(aB false),(aB false),.nil]]:List (List AV)).getD zi []))],[(.sl 1 (fun zi=>([[(aI 2),(aI 2),(aI 1),(aB false),(aB false),.nil]]:List (List AV)).getD zi []))],[.nil]]:List (List AV)).getD zi []) zi from (allN (n:=4) ⟨⟨⟨⟨trivial,rfl⟩,rfl⟩,rfl⟩,rfl⟩)) pn)) ?_
 refine rnH hE 2 [(2,⟨[],true,(aI 2),[],0,false,none⟩)] qzd136 qzd160 1504 (pc (g_math_bits_OnesCount_v4_ok N () rfl) (pc (Eq.refl 4) (pc (show ∀ zi,zi < 4→(fun zi=>([[.nil],[(.sl 1 (fun zi=>([[(aI 2),(aI 2),(aI 0),(aB false),(aB false),.nil]]:List (List AV)).getD zi []))],[(.sl 1 (fun zi=>([[(aI 2),(aI 2),(aI 1),(aB false),(aB false),.nil]]:List (List AV)).getD zi []))],[.nil]]:List (List AV)).getD zi []) zi=(fun zi=>([[.nil],[(.sl 1 (fun zi=>([[(aI 2),(aI 2),(aI 0),(aB false),(aB false),.nil]]:List (List AV)).getD zi []))],[(.sl 1 (fun zi=>([[(aI 2),(aI 2),(aI 1),(aB false),(aB false),.nil]]:List (List AV)).getD zi []))],[.nil]]:List (List AV)).getD zi []) zi from (allN (n:=4) ⟨⟨⟨⟨trivial,rfl⟩,rfl⟩,rfl⟩,rfl⟩)) pn))) ?_
 refine rnK0 0 62 ?_
 refine rnP hE 2 qzd135 qzd160 1584 (pc (Eq.refl 4) (pc (show ∀ zi,zi < 4→(fun zi=>([[.nil],[(.sl 1 (fun zi=>([[(aI 2),(aI 2),(aI 0),(aB false),(aB false),.nil]]:List (List AV)).getD zi []))],[(.sl 1 (fun zi=>([[(aI 2),(aI 2),(aI 1),(aB false),(aB false),.nil]]:List (List AV)).getD zi []))],[.nil]]:List (List AV)).getD zi []) zi=(fun zi=>([[.nil],[(.sl 1 (fun zi=>([[(aI 2),(aI 2),(aI 0),(aB false),(aB false),.nil]]:List (List AV)).getD zi []))],[(.sl 1 (fun zi=>([[(aI 2),(aI 2),(aI 1),(aB false),(aB false),.nil]]:List (List AV)).getD zi []))],[.nil]]:List (List AV)).getD zi []) zi from (allN (n:=4) ⟨⟨⟨⟨trivial,rfl⟩,rfl⟩,rfl⟩,rfl⟩)) pn)) ?_
 refine rnP hE 4 qzd131 qzd160 1616 (pc (Eq.refl 4) (pc (show ∀ zi,zi < 4→(fun zi=>([[.nil],[(.sl 1 (fun zi=>([[(aI 2),(aI 2),(aI 0),(aB false),(aB false),.nil]]:List (List AV)).getD zi []))],[(.sl 1 (fun zi=>([[(aI 2),(aI 2),(aI 1),(aB false),(aB false),.nil]]:List (List AV)).getD zi []))],[.nil]]:List (List AV)).getD zi []) zi=(fun zi=>([[.nil],[(.sl 1 (fun zi=>([[(aI 2),(aI 2),(aI 0),(aB false),(aB false),.nil]]:List (List AV)).getD zi []))],[(.sl 1 (fun zi=>([[(aI 2),(aI 2),(aI 1),(aB false),(aB false),.nil]]:List (List AV)).getD zi []))],[.nil]]:List (List AV)).getD zi []) zi from (allN (n:=4) ⟨⟨⟨⟨trivial,rfl⟩,rfl⟩,rfl⟩,rfl⟩)) pn)) ?_
 refine rnK1 0 68 ?_
 refine rnP hE 5 qzd132 qzd160 1696 (pc (Eq.refl 4) (pc (show ∀ zi,zi < 4→(fun zi=>([[.nil],[(.sl 1 (fun zi=>([[(aI 2),(aI 2),(aI 0),(aB false),(aB false),.nil]]:List (List AV)).getD zi []))],[(.sl 1 (fun zi=>([[(aI 2),(aI 2),(aI 1),(aB false),(aB false),.nil]]:List (List AV)).getD zi []))],[.nil]]:List (List AV)).getD zi []) zi=(fun zi=>([[.nil],[(.sl 1 (fun zi=>([[(aI 2),(aI 2),(aI 0),(aB false),(aB false),.nil]]:List (List AV)).getD zi []))],[(.sl 1 (fun zi=>([[(aI 2),(aI 2),(aI 1),(aB false),(aB false),.nil]]:List (List AV)).getD zi []))],[.nil]]:List (List AV)).getD zi []) zi from (allN (n:=4) ⟨⟨⟨⟨trivial,rfl⟩,rfl⟩,rfl⟩,rfl⟩)) pn)) ?_
 refine rnK0 0 77 ?_
 refine rnP hE 2 qzd134 qzd160 1792 (pc o1 (pc (show 0≤(2:Int)∧(2:Int) < ((4:Nat):Int) by decide) (pc (show 2 < 4 by decide) (pc (Eq.refl 4) (pc (show ∀ zi,zi < 4→(fun zi=>([[.nil],[(.sl 1 (fun zi=>([[(aI 2),(aI 2),(aI 0),(aB false),(aB false),.nil]]:List (List AV)).getD zi []))],[(.sl 1 (fun zi=>([[(aI 2),(aI 2),(aI 1),(aB false),(aB false),.nil]]:List (List AV)).getD zi []))],[.nil]]:List (List AV)).getD zi []) zi=(fun zi=>([[.nil],[(.sl 1 (fun zi=>([[(aI 2),(aI 2),(aI 0),(aB false),(aB false),.nil]]:List (List AV)).getD zi []))],[(.sl 1 (fun zi=>([[(aI 2),(aI 2),(aI 1),(aB false),(aB false),.nil]]:List (List AV)).getD zi []))],[.nil]]:List (List AV)).getD zi []) zi from (allN (n:=4) ⟨⟨⟨⟨trivial,rfl⟩,rfl⟩,rfl⟩,rfl⟩)) pn))))) ?_
 refine rnP hE 3 qzd133 qzd160 1808 (pc (Eq.refl 4) (pc (show ∀ zi,zi < 4→(fun zi=>([[.nil],[(.sl 1 (fun zi=>([[(aI 2),(aI 2),(aI 0),(aB false),(aB false),.nil]]:List (List AV)).getD zi []))],[(.sl 1 (fun zi=>([[(aI 2),(aI 2),(aI 1),(aB false),(aB false),.nil]]:List (List AV)).getD zi []))],[.nil]]:List (List AV)).getD zi []) zi=(fun zi=>([[.nil],[(.sl 1 (fun zi=>([[(aI 2),(aI 2),(aI 0),(aB false),(aB false),.nil]]:List (List AV)).getD zi []))],[(.sl 1 (fun zi=>([[(aI 2),(aI 2),(aI 1),(aB false),(aB false),.nil]]:List (List AV)).getD zi []))],[.nil]]:List (List AV)).getD zi []) zi from (allN (n:=4) ⟨⟨⟨⟨trivial,rfl⟩,rfl⟩,rfl⟩,rfl⟩)) pn)) ?_
 refine rnK1 1 84 ?_
 refine rnP hE 4 qzd130 qzd158 1872 (pc (show 0≤(0:Int)∧(0:Int) < ((1:Nat):Int) by decide) (pc o1 (pc (Eq.refl 4) (pc (show ∀ zi,zi < 4→(fun zi=>([[.nil],[(.sl 1 (fun zi=>([[(aI 2),(aI 2),(aI 0),(aB false),(aB false),.nil]]:List (List AV)).getD zi []))],[(.sl 1 (fun zi=>([[(aI 2),(aI 2),(aI 1),(aB false),(aB false),.nil]]:List (List AV)).getD zi []))],[.nil]]:List (List AV)).getD zi []) zi=(fun zi=>([[.nil],[(.sl 1 (fun zi=>([[(aI 2),(aI 2),(aI 0),(aB false),(aB false),.nil]]:List (List AV)).getD zi []))],[(.sl 1 (fun zi=>([[(aI 2),(aI 2),(aI 1),(aB false),(aB false),.nil]]:List (List AV)).getD zi []))],[.nil]]:List (List AV)).getD zi []) zi from (allN (n:=4) ⟨⟨⟨⟨trivial,rfl⟩,rfl⟩,rfl⟩,rfl⟩)) pn)))) ?_
 refine rnP hE 1 qzd129 qzd158 2000 (pc o1 (pc (show 0≤(1:Int)∧(1:Int) < ((4:Nat):Int) by decide) (pc (show 1 < 4 by decide) (pc (Eq.refl 4) (pc (show ∀ zi,zi < 4→(fun zi=>([[.nil],[(.sl 1 (fun zi=>([[(aI 2),(aI 2),(aI 0),(aB false),(aB false),.nil]]:List (List AV)).getD zi []))],[(.sl 1 (fun zi=>([[(aI 2),(aI 2),(aI 1),(aB false),(aB false),.nil]]:List (List AV)).getD zi []))],[.nil]]:List (List AV)).getD zi []) zi=(fun zi=>([[.nil],[(.sl 1 (fun zi=>([[(aI 2),(aI 2),(aI 0),(aB false),(aB false),.nil]]:List (List AV)).getD zi []))],[(.sl 1 (fun zi=>([[(aI 2),(aI 2),(aI 1),(aB false),(aB false),.nil]]:List (List AV)).getD zi []))],[.nil]]:List (List AV)).getD zi []) zi from (allN (n:=4) ⟨⟨⟨⟨trivial,rfl⟩,rfl⟩,rfl⟩,rfl⟩)) pn))))) ?_
 refine rnP hE 3 qzd128 qzd158 2016 (pc (Eq.refl 4) (pc (show ∀ zi,zi < 4→(fun zi=>([[.nil],[(.sl 1 (fun zi=>([[(aI 2),(aI 2),(aI 0),(aB false),(aB false),.nil]]:List (List AV)).getD zi []))],[(.sl 1 (fun zi=>([[(aI 2),(aI 2),(aI 1),(aB false),(aB false),.nil]]:List (List AV)).getD zi []))],[.nil]]:List (List AV)).getD zi []) zi=(fun zi=>([[.nil],[(.sl 1 (fun zi=>([[(aI 2),(aI 2),(aI 0),(aB false),(aB false),.nil]]:List (List AV)).getD zi []))],[(.sl 1 (fun zi=>([[(aI 2),(aI 2),(aI 1),(aB false),(aB false),.nil]]:List (List AV)).getD zi []))],[.nil]]:List (List AV)).getD zi []) zi from (allN (n:=4) ⟨⟨⟨⟨trivial,rfl⟩,rfl⟩,rfl⟩,rfl⟩)) pn)) ?_
 refine rnK1 1 95 ?_
 refine rnP hE 4 qzd127 qzd157 2080 (pc (show 0≤(0:Int)∧(0:Int) < ((1:Nat):Int) by decide) (pc o1 (pc (Eq.refl 4) (pc (show ∀ zi,zi < 4→(fun zi=>([[.nil],[(.sl 1 (fun zi=>([[(aI 2),(aI 2),(aI 0),(aB false),(aB false),.nil]]:List (List AV)).getD zi []))],[(.sl 1 (fun zi=>([[(aI 2),(aI 2),(aI 1),(aB false),(aB false),.nil]]:List (List AV)).getD zi []))],[.nil]]:List (List AV)).getD zi []) zi=(fun zi=>([[.nil],[(.sl 1 (fun zi=>([[(aI 2),(aI 2),(aI 0),(aB false),(aB false),.nil]]:List (List AV)).getD zi []))],[(.sl 1 (fun zi=>([[(aI 2),(aI 2),(aI 1),(aB false),(aB false),.nil]]:List (List AV)).getD zi []))],[.nil]]:List (List AV)).getD zi []) zi from (allN (n:=4) ⟨⟨⟨⟨trivial,rfl⟩,rfl⟩,rfl⟩,rfl⟩)) pn)))) ?_
 refine rnH hE 1 [(18,⟨[0,16,112,96],false,(.tup []),[(0,vO 1 [(aI 4)]),(1,vO 1 [(aI 2)]),(2,vN 1 [(.os 3 0 4)]),(3,⟨false,1,4,true,fun zi=>([[.nil],[(.sl 1 (fun zi=>([[(aI 2),(aI 2),(aI 0),(aB false),(aB false),.nil]]:List (List AV)).getD zi []))],[(.sl 1 (fun zi=>([[(aI 2),(aI 2),(aI 1),(aB false),(aB false),.nil]]:List (List AV)).getD zi []))],[(.sl 1 (fun zi=>([[(aI 4),(aI 2),(aI 0),(aB false),(aB false),(.sl 2 (fun zi=>([[(aI 2),(aI 2),(aI 1),(aB false),(aB false),.nil],[(aI 2),(aI 2),(aI 0),(aB false),(aB false),.nil]]:List (List AV)).getD zi []))]]:List (List AV)).getD zi []))]]:List (List AV)).getD zi []⟩)],0,true,none⟩)] qzd127 (kq [0,16] ++ [(96,.arr 96 4 (fun zi=>([[.nil],[(.sl 1 (fun zi=>([[(aI 2),(aI 2),(aI 0),(aB false),(aB false),.nil]]:List (List AV)).getD zi []))],[(.sl 1 (fun zi=>([[(aI 2),(aI 2),(aI 1),(aB false),(aB false),.nil]]:List (List AV)).getD zi []))],[(.sl 1 (fun zi=>([[(aI 4),(aI 2),(aI 0),(aB false),(aB false),(.sl 2 (fun zi=>([[(aI 2),(aI 2),(aI 1),(aB false),(aB false),.nil],[(aI 2),(aI 2),(aI 0),(aB false),(aB false),.nil]]:List (List AV)).getD zi []))]]:List (List AV)).getD zi []))]]:List (List AV)).getD zi []))] ++ kq [112,1840,2048]) 2384 (pc o1 (pc o1 (pc o1 (pc o1 (pc o1 (pc o1 (pc (show Sound Try.prog 35 [(aI 3),(.agg [(aI 4),(aI 2),(aI 0),(aB false),(aB false),(.sl 2 (fun zi=>(fun zi=>([[(aI 2),(aI 2),(aI 1),(aB false),(aB false),.nil],[(aI 2),(aI 2),(aI 0),(aB false),(aB false),.nil]]:List (List AV)).getD zi []) (addz 0 zi)))]),(.op 0 0 0),(.op 1 0 0),(.op 2 0 0)] [(0,vO 1 [(aI 4)]),(1,vO 1 [(aI 2)]),(2,vN 1 [(.os 3 0 4)]),(3,⟨false,1,4,true,fun zi=>([[.nil],[(.sl 1 (fun zi=>([[(aI 2),(aI 2),(aI 0),(aB false),(aB false),.nil]]:List (List AV)).getD zi []))],[(.sl 1 (fun zi=>([[(aI 2),(aI 2),(aI 1),(aB false),(aB false),.nil]]:List (List AV)).getD zi []))],[.nil]]:List (List AV)).getD zi []⟩)] 4 (.tup []) [(0,vO 1 [(aI 4)]),(1,vO 1 [(aI 2)]),(2,vN 1 [(.os 3 0 4)]),(3,⟨false,1,4,true,fun zi=>([[.nil],[(.sl 1 (fun zi=>([[(aI 2),(aI 2),(aI 0),(aB false),(aB false),.nil]]:List (List AV)).getD zi []))],[(.sl 1 (fun zi=>([[(aI 2),(aI 2),(aI 1),(aB false),(aB false),.nil]]:List (List AV)).getD zi []))],[(.sl 1 (fun zi=>([[(aI 4),(aI 2),(aI 0),(aB false),(aB false),(.sl 2 (fun zi=>([[(aI 2),(aI 2),(aI 1),(aB false),(aB false),.nil],[(aI 2),(aI 2),(aI 0),(aB false),(aB false),.nil]]:List (List AV)).getD zi []))]]:List (List AV)).getD zi []))]]:List (List AV)).getD zi []⟩)] from (Sound.conv (g_survey_shapes_1_v3_ok N () rfl) (.cons (Alike.refl _) (.cons (Alike.agg (.cons (Alike.refl _) (.cons (Alike.refl _) (.cons (Alike.refl _) (.cons (Alike.refl _) (.cons (Alike.refl _) (.cons (Alike.sl rfl (allN (n:=2) ⟨⟨trivial,rfl⟩,rfl⟩)) .nil))))))) (.cons (Alike.refl _) (.cons (Alike.refl _) (.cons (Alike.refl _) .nil))))))) (pc (show 0+2≤2 from (z1 2)) (pc (Eq.refl 4) (pc (show ∀ zi,zi < 4→(fun zi=>([[.nil],[(.sl 1 (fun zi=>([[(aI 2),(aI 2),(aI 0),(aB false),(aB false),.nil]]:List (List AV)).getD zi []))],[(.sl 1 (fun zi=>([[(aI 2),(aI 2),(aI 1),(aB false),(aB false),.nil]]:List (List AV)).getD zi []))],[(.sl 1 (fun zi=>([[(aI 4),(aI 2),(aI 0),(aB false),(aB false),(.sl 2 (fun zi=>([[(aI 2),(aI 2),(aI 1),(aB false),(aB false),.nil],[(aI 2),(aI 2),(aI 0),(aB false),(aB false),.nil]]:List (List AV)).getD zi []))]]:List (List AV)).getD zi []))]]:List (List AV)).getD zi []) zi=(fun zi=>([[.nil],[(.sl 1 (fun zi=>([[(aI 2),(aI 2),(aI 0),(aB false),(aB false),.nil]]:List (List AV)).getD zi []))],[(.sl 1 (fun zi=>([[(aI 2),(aI 2),(aI 1),(aB false),(aB false),.nil]]:List (List AV)).getD zi []))],[(.sl 1 (fun zi=>([[(aI 4),(aI 2),(aI 0),(aB false),(aB false),(.sl 2 (fun zi=>([[(aI 2),(aI 2),(aI 1),(aB false),(aB false),.nil],[(aI 2),(aI 2),(aI 0),(aB false),(aB false),.nil]]:List (List AV)).getD zi []))]]:List (List AV)).getD zi []))]]:List (List AV)).getD zi []) zi from (allN (n:=4) ⟨⟨⟨⟨trivial,rfl⟩,rfl⟩,rfl⟩,rfl⟩)) pn)))))))))) ?_
 refine rnH hE 0 [(18,⟨[0,16,112,96],true,(.tup []),[],0,true,none⟩)] qzd129 qzd155 2688 (pc o1 (pc o1 (pc o1 (pc o1 (pc o1 (pc o1 (pc (show Sound Try.prog 35 [(aI 3),(.agg [(aI 2),(aI 4),(aI 0),(aB false),(aB true),(.sl 2 (fun zi=>(fun zi=>([[(aI 2),(aI 2),(aI 1),(aB false),(aB false),.nil],[(aI 2),(aI 2),(aI 0),(aB false),(aB false),.nil]]:List (List AV)).getD zi []) (addz 0 zi)))]),(.op 0 0 0),(.op 1 0 0),(.op 2 0 0)] [(0,vO 1 [(aI 4)]),(1,vO 1 [(aI 2)]),(2,vN 1 [(.os 3 0 4)]),(3,⟨false,1,4,true,fun zi=>([[.nil],[(.sl 1 (fun zi=>([[(aI 2),(aI 2),(aI 0),(aB false),(aB false),.nil]]:List (List AV)).getD zi []))],[(.sl 1 (fun zi=>([[(aI 2),(aI 2),(aI 1),(aB false),(aB false),.nil]]:List (List AV)).getD zi []))],[(.sl 1 (fun zi=>([[(aI 4),(aI 2),(aI 0),(aB false),(aB false),(.sl 2 (fun zi=>([[(aI 2),(aI 2),(aI 1),(aB false),(aB false),.nil],[(aI 2),(aI 2),(aI 0),(aB false),(aB false),.nil]]:List (List AV)).getD zi []))]]:List (List AV)).getD zi []))]]:List (List AV)).getD zi []⟩)] 4 (.tup []) [(0,vO 1 [(aI 4)]),(1,vO 1 [(aI 2)]),(2,vN 1 [(.os 3 0 4)]),(3,⟨false,1,4,true,fun zi=>([[.nil],[(.sl 1 (fun zi=>([[(aI 2),(aI 2),(aI 0),(aB false),(aB false),.nil]]:List (List AV)).getD zi []))],[(.sl 1 (fun zi=>([[(aI 2),(aI 2),(aI 1),(aB false),(aB false),.nil]]:List (List AV)).getD zi []))],[(.sl 1 (fun zi=>([[(aI 4),(aI 2),(aI 0),(aB false),(aB false),(.sl 2 (fun zi=>([[(aI 2),(aI 2),(aI 1),(aB false),(aB false),.nil],[(aI 2),(aI 2),(aI 0),(aB false),(aB false),.nil]]:List (List AV)).getD zi []))]]:List (List AV)).getD zi []))]]:List (List AV)).getD zi []⟩)] from (Sound.conv (g_survey_shapes_1_v4_ok N () rfl) (.cons (Alike.refl _) (.cons (Alike.agg (.cons (Alike.refl _) (.cons (Alike.refl _) (.cons (Alike.refl _) (.cons (Alike.refl _) (.cons (Alike.refl _) (.cons (Alike.sl rfl (allN (n:=2) ⟨⟨trivial,rfl⟩,rfl⟩)) .nil))))))) (.cons (Alike.refl _) (.cons (Alike.refl _) (.cons (Alike.refl _) .nil))))))) (pc (show 0+2≤2 from (z1 2)) (pc (Eq.refl 4) (pc (show ∀ zi,zi < 4→(fun zi=>([[.nil],[(.sl 1 (fun zi=>([[(aI 2),(aI 2),(aI 0),(aB false),(aB false),.nil]]:List (List AV)).getD zi []))],[(.sl 1 (fun zi=>([[(aI 2),(aI 2),(aI 1),(aB false),(aB false),.nil]]:List (List AV)).getD zi []))],[(.sl 1 (fun zi=>([[(aI 4),(aI 2),(aI 0),(aB false),(aB false),(.sl 2 (fun zi=>([[(aI 2),(aI 2),(aI 1),(aB false),(aB false),.nil],[(aI 2),(aI 2),(aI 0),(aB false),(aB false),.nil]]:List (List AV)).getD zi []))]]:List (List AV)).getD zi []))]]:List (List AV)).getD zi []) zi=(fun zi=>([[.nil],[(.sl 1 (fun zi=>([[(aI 2),(aI 2),(aI 0),(aB false),(aB false),.nil]]:List (List AV)).getD zi []))],[(.sl 1 (fun zi=>([[(aI 2),(aI 2),(aI 1),(aB false),(aB false),.nil]]:List (List AV)).getD zi []))],[(.sl 1 (fun zi=>([[(aI 4),(aI 2),(aI 0),(aB false),(aB false),(.sl 2 (fun zi=>([[(aI 2),(aI 2),(aI 1),(aB false),(aB false),.nil],[(aI 2),(aI 2),(aI 0),(aB false),(aB false),.nil]]:List (List AV)).getD zi []))]]:List (List AV)).getD zi []))]]:List (List AV)).getD zi []) zi from (allN (n:=4) ⟨⟨⟨⟨trivial,rfl⟩,rfl⟩,rfl⟩,rfl⟩)) pn)))))))))) ?_
 refine rnP hE 1 qzd129 qzd155 2720 (pc (Eq.refl 4) (pc (show ∀ zi,zi < 4→(fun zi=>([[.nil],[(.sl 1 (fun zi=>([[(aI 2),(aI 2),(aI 0),(aB false),(aB false),.nil]]:List (List AV)).getD zi []))],[(.sl 1 (fun zi=>([[(aI 2),(aI 2),(aI 1),(aB false),(aB false),.nil]]:List (List AV)).getD zi []))],[(.sl 1 (fun zi=>([[(aI 4),(aI 2),(aI 0),(aB false),(aB false),(.sl 2 (fun zi=>([[(aI 2),(aI 2),(aI 1),(aB false),(aB false),.nil],[(aI 2),(aI 2),(aI 0),(aB false),(aB false),.nil]]:List (List AV)).getD zi []))]]:List (List AV)).getD zi []))]]:List (List AV)).getD zi []) zi=(fun zi=>([[.nil],[(.sl 1 (fun zi=>([[(aI 2),(aI 2),(aI 0),(aB false),(aB false),.nil]]:List (List AV)).getD zi []))],[(.sl 1 (fun zi=>([[(aI 2),(aI 2),(aI 1),(aB false),(aB false),.nil]]:List (List AV)).getD zi []))],[(.sl 1 (fun zi=>([[(aI 4),(aI 2),(aI 0),(aB false),(aB false),(.sl 2 (fun zi=>([[(aI 2),(aI 2),(aI 1),(aB false),(aB false),.nil],[(aI 2),(aI 2),(aI 0),(aB false),(aB false),.nil]]:List (List AV)).getD zi []))]]:List (List AV)).getD zi []))]]:List (List AV)).getD zi []) zi from (allN (n:=4) ⟨⟨⟨⟨trivial,rfl⟩,rfl⟩,rfl⟩,rfl⟩)) pn)) ?_
 refine rnP hE 2 qzd128 qzd155 2736 (pc (Eq.refl 4) (pc (show ∀ zi,zi < 4→(fun zi=>([[.nil],[(.sl 1 (fun zi=>([[(aI 2),(aI 2),(aI 0),(aB false),(aB false),.nil]]:List (List AV)).getD zi []))],[(.sl 1 (fun zi=>([[(aI 2),(aI 2),(aI 1),(aB false),(aB false),.nil]]:List (List AV)).getD zi []))],[(.sl 1 (fun zi=>([[(aI 4),(aI 2),(aI 0),(aB false),(aB false),(.sl 2 (fun zi=>([[(aI 2),(aI 2),(aI 1),(aB false),(aB false),.nil],[(aI 2),(aI 2),(aI 0),(aB false),(aB false),.nil]]:List (List AV)).getD zi []))]]:List (List AV)).getD zi []))]]:List (List AV)).getD zi []) zi=(fun zi=>([[.nil],[(.sl 1 (fun zi=>([[(aI 2),(aI 2),(aI 0),(aB false),(aB false),.nil]]:List (List AV)).getD zi []))],[(.sl 1 (fun zi=>([[(aI 2),(aI 2),(aI 1),(aB false),(aB false),.nil]]:List (List AV)).getD zi []))],[(.sl 1 (fun zi=>([[(aI 4),(aI 2),(aI 0),(aB false),(aB false),(.sl 2 (fun zi=>([[(aI 2),(aI 2),(aI 1),(aB false),(aB false),.nil],[(aI 2),(aI 2),(aI 0),(aB false),(aB false),.nil]]:List (List AV)).getD zi []))]]:List (List AV)).getD zi []))]]:List (List AV)).getD zi []) zi from (allN (n:=4) ⟨⟨⟨⟨trivial,rfl⟩,rfl⟩,rfl⟩,rfl⟩)) pn)) ?_
 refine rnK0 1 95 ?_
 refine rnP hE 2 qzd134 qzd156 2768 (pc (Eq.refl 4) (pc (show ∀ zi,zi < 4→(fun zi=>([[.nil],[(.sl 1 (fun zi=>([[(aI 2),(aI 2),(aI 0),(aB false),(aB false),.nil]]:List (List AV)).getD zi []))],[(.sl 1 (fun zi=>([[(aI 2),(aI 2),(aI 1),(aB false),(aB false),.nil]]:List (List AV)).getD zi []))],[(.sl 1 (fun zi=>([[(aI 4),(aI 2),(aI 0),(aB false),(aB false),(.sl 2 (fun zi=>([[(aI 2),(aI 2),(aI 1),(aB false),(aB false),.nil],[(aI 2),(aI 2),(aI 0),(aB false),(aB false),.nil]]:List (List AV)).getD zi []))]]:List (List AV)).getD zi []))]]:List (List AV)).getD zi []) zi=(fun zi=>([[.nil],[(.sl 1 (fun zi=>([[(aI 2),(aI 2),(aI 0),(aB false),(aB false),.nil]]:List (List AV)).getD zi []))],[(.sl 1 (fun zi=>([[(aI 2),(aI 2),(aI 1),(aB false),(aB false),.nil]]:List (List AV)).getD zi []))],[(.sl 1 (fun zi=>([[(aI 4),(aI 2),(aI 0),(aB false),(aB false),(.sl 2 (fun zi=>([[(aI 2),(aI 2),(aI 1),(aB false),(aB false),.nil],[(aI 2),(aI 2),(aI 0),(aB false),(aB false),.nil]]:List (List AV)).getD zi []))]]:List (List AV)).getD zi []))]]:List (List AV)).getD zi []) zi from (allN (n:=4) ⟨⟨⟨⟨trivial,rfl⟩,rfl⟩,rfl⟩,rfl⟩)) pn)) ?_
 refine rnP hE 2 qzd133 qzd156 2784 (pc (Eq.refl 4) (pc (show ∀ zi,zi < 4→(fun zi=>([[.nil],[(.sl 1 (fun zi=>([[(aI 2),(aI 2),(aI 0),(aB false),(aB false),.nil]]:List (List AV)).getD zi []))],[(.sl 1 (fun zi=>([[(aI 2),(aI 2),(aI 1),(aB false),(aB false),.nil]]:List (List AV)).getD zi []))],[(.sl 1 (fun zi=>([[(aI 4),(aI 2),(aI 0),(aB false),(aB false),(.sl 2 (fun zi=>([[(aI 2),(aI 2),(aI 1),(aB false),(aB false),.nil],[(aI 2),(aI 2),(aI 0),(aB false),(aB false),.nil]]:List (List AV)).getD zi []))]]:List (List AV)).getD zi []))]]:List (List AV)).getD zi []) zi=(fun zi=>([[.nil],[(.sl 1 (fun zi=>([[(aI 2),(aI 2),(aI 0),(aB false),(aB false),.nil]]:List (List AV)).getD zi []))],[(.sl 1 (fun zi=>([[(aI 2),(aI 2),(aI 1),(aB false),(aB false),.nil]]:List (List AV)).getD zi []))],[(.sl 1 (fun zi=>([[(aI 4),(aI 2),(aI 0),(aB false),(aB false),(.sl 2 (fun zi=>([[(aI 2),(aI 2),(aI 1),(aB false),(aB false),.nil],[(aI 2),(aI 2),(aI 0),(aB false),(aB false),.nil]]:List (List AV)).getD zi []))]]:List (List AV)).getD zi []))]]:List (List AV)).getD zi []) zi from (allN (n:=4) ⟨⟨⟨⟨trivial,rfl⟩,rfl⟩,rfl⟩,rfl⟩)) pn)) ?_
 refine rnK0 1 84 ?_
 refine rnP hE 2 qzd135 qzd156 2864 (pc (Eq.refl 4) (pc (show ∀ zi,zi < 4→(fun zi=>([[.nil],[(.sl 1 (fun zi=>([[(aI 2),(aI 2),(aI 0),(aB false),(aB false),.nil]]:List (List AV)).getD zi []))],[(.sl 1 (fun zi=>([[(aI 2),(aI 2),(aI 1),(aB false),(aB false),.nil]]:List (List AV)).getD zi []))],[(.sl 1 (fun zi=>([[(aI 4),(aI 2),(aI 0),(aB false),(aB false),(.sl 2 (fun zi=>([[(aI 2),(aI 2),(aI 1),(aB false),(aB false),.nil],[(aI 2),(aI 2),(aI 0),(aB false),(aB false),.nil]]:List (List AV)).getD zi []))]]:List (List AV)).getD zi []))]]:List (List AV)).getD zi []) zi=(fun zi=>([[.nil],[(.sl 1 (fun zi=>([[(aI 2),(aI 2),(aI 0),(aB false),(aB false),.nil]]:List (List AV)).getD zi []))],[(.sl 1 (fun zi=>([[(aI 2),(aI 2),(aI 1),(aB false),(aB false),.nil]]:List (List AV)).getD zi []))],[(.sl 1 (fun zi=>([[(aI 4),(aI 2),(aI 0),(aB false),(aB false),(.sl 2 (fun zi=>([[(aI 2),(aI 2),(aI 1),(aB false),(aB false),.nil],[(aI 2),(aI 2),(aI 0),(aB false),(aB false),.nil]]:List (List AV)).getD zi []))]]:List (List AV)).getD zi []))]]:List (List AV)).getD zi []) zi from (allN (n:=4) ⟨⟨⟨⟨trivial,rfl⟩,rfl⟩,rfl⟩,rfl⟩)) pn)) ?_
 refine rnP hE 3 qzd131 qzd156 2896 (pc (Eq.refl 4) (pc (show ∀ zi,zi < 4→(fun zi=>([[.nil],[(.sl 1 (fun zi=>([[(aI 2),(aI 2),(aI 0),(aB false),(aB false),.nil]]:List (List AV)).getD zi []))],[(.sl 1 (fun zi=>([[(aI 2),(aI 2),(aI 1),(aB false),(aB false),.nil]]:List (List AV)).getD zi []))],[(.sl 1 (fun zi=>([[(aI 4),(aI 2),(aI 0),(aB false),(aB false),(.sl 2 (fun zi=>([[(aI 2),(aI 2),(aI 1),(aB false),(aB false),.nil],[(aI 2),(aI 2),(aI 0),(aB false),(aB false),.nil]]:List (List AV)).getD zi []))]]:List (List AV)).getD zi []))]]:List (List AV)).getD zi []) zi=(fun zi=>([[.nil],[(.sl 1 (fun zi=>([[(aI 2),(aI 2),(aI 0),(aB false),(aB false),.nil]]:List (List AV)).getD zi []))],[(.sl 1 (fun zi=>([[(aI 2),(aI 2),(aI 1),(aB false),(aB false),.nil]]:List (List AV)).getD zi []))],[(.sl 1 (fun zi=>([[(aI 4),(aI 2),(aI 0),(aB false),(aB false),(.sl 2 (fun zi=>([[(aI 2),(aI 2),(aI 1),(aB false),(aB false),.nil],[(aI 2),(aI 2),(aI 0),(aB false),(aB false),.nil]]:List (List AV)).getD zi []))]]:List (List AV)).getD zi []))]]:List (List AV)).getD zi []) zi from (allN (n:=4) ⟨⟨⟨⟨trivial,rfl⟩,rfl⟩,rfl⟩,rfl⟩)) pn)) ?_
 refine rnK1 0 68 ?_
 refine rnP hE 5 qzd132 qzd156 2976 (pc (Eq.refl 4) (pc (show ∀ zi,zi < 4→(fun zi=>([[.nil],[(.sl 1 (fun zi=>([[(aI 2),(aI 2),(aI 0),(aB false),(aB false),.nil]]:List (List AV)).getD zi []))],[(.sl 1 (fun zi=>([[(aI 2),(aI 2),(aI 1),(aB false),(aB false),.nil]]:List (List AV)).getD zi []))],[(.sl 1 (fun zi=>([[(aI 4),(aI 2),(aI 0),(aB false),(aB false),(.sl 2 (fun zi=>([[(aI 2),(aI 2),(aI 1),(aB false),(aB false),.nil],[(aI 2),(aI 2),(aI 0),(aB false),(aB false),.nil]]:List (List AV)).getD zi []))]]:List (List AV)).getD zi []))]]:List (List AV)).getD zi []) zi=(fun zi=>([[.nil],[(.sl 1 (fun zi=>([[(aI 2),(aI 2),(aI 0),(aB false),(aB false),.nil]]:List (List AV)).getD zi []))],[(.sl 1 (fun zi=>([[(aI 2),(aI 2),(aI 1),(aB false),(aB false),.nil]]:List (List AV)).getD zi []))],[(.sl 1 (fun zi=>([[(aI 4),(aI 2),(aI 0),(aB false),(aB false),(.sl 2 (fun zi=>([[(aI 2),(aI 2),(aI 1),(aB false),(aB false),.nil],[(aI 2),(aI 2),(aI 0),(aB false),(aB false),.nil]]:List (List AV)).getD zi []))]]:List (List AV)).getD zi []))]]:List (List AV)).getD zi []) zi from (allN (n:=4) ⟨⟨⟨⟨trivial,rfl⟩,rfl⟩,rfl⟩,rfl⟩)) pn)) ?_
 refine rnK1 0 77 ?_
 refine rnP hE 1 qzd135 qzd156 3056 (pc (Eq.refl 4) (pc (show ∀ zi,zi < 4→(fun zi=>([[.nil],[(.sl 1 (fun zi=>([[(aI 2),(aI 2),(aI 0),(aB false),(aB false),.nil]]:List (List AV)).getD zi []))],[(.sl 1 (fun zi=>([[(aI 2),(aI 2),(aI 1),(aB false),(aB false),.nil]]:List (List AV)).getD zi []))],[(.sl 1 (fun zi=>([[(aI 4),(aI 2),(aI 0),(aB false),(aB false),(.sl 2 (fun zi=>([[(aI 2),(aI 2),(aI 1),(aB false),(aB false),.nil],[(aI 2),(aI 2),(aI 0),(aB false),(aB false),.nil]]:List (List AV)).getD zi []))]]:List (List AV)).getD zi []))]]:List (List AV)).getD zi []) zi=(fun zi=>([[.nil],[(.sl 1 (fun zi=>([[(aI 2),(aI 2),(aI 0),(aB false),(aB false),.nil]]:List (List AV)).getD zi []))],[(.sl 1 (fun zi=>([[(aI 2),(aI 2),(aI 1),(aB false),(aB false),.nil]]:List (List AV)).getD zi []))],[(.sl 1 (fun zi=>([[(aI 4),(aI 2),(aI 0),(aB false),(aB false),(.sl 2 (fun zi=>([[(aI 2),(aI 2),(aI 1),(aB false),(aB false),.nil],[(aI 2),(aI 2),(aI 0),(aB false),(aB false),.nil]]:List (List AV)).getD zi []))]]:List (List AV)).getD zi []))]]:List (List AV)).getD zi []) zi from (allN (n:=4) ⟨⟨⟨⟨trivial,rfl⟩,rfl⟩,rfl⟩,rfl⟩)) pn)) ?_
 refine rnP hE 3 qzd131 qzd156 3088 (pc (Eq.refl 4) (pc (show ∀ zi,zi < 4→(fun zi=>([[.nil],[(.sl 1 (fun zi=>([[(aI 2),(aI 2),(aI 0),(aB false),(aB false),.nil]]:List (List AV)).getD zi []))],[(.sl 1 (fun zi=>([[(aI 2),(aI 2),(aI 1),(aB false),(aB false),.nil]]:List (List AV)).getD zi []))],[(.sl 1 (fun zi=>([[(aI 4),(aI 2),(aI 0),(aB false),(aB false),(.sl 2 (fun zi=>([[(aI 2),(aI 2),(aI 1),(aB false),(aB false),.nil],[(aI 2),(aI 2),(aI 0),(aB false),(aB false),.nil]]:List (List AV)).getD zi []))]]:List (List AV)).getD zi []))]]:List (List AV)).getD zi []) zi=(fun zi=>([[.nil],[(.sl 1 (fun zi=>([[(aI 2),(aI 2),(aI 0),(aB false),(aB false),.nil]]:List (List AV)).getD zi []))],[(.sl 1 (fun zi=>([[(aI 2),(aI 2),(aI 1),(aB false),(aB false),.nil]]:List (List AV)).getD zi []))],[(.sl 1 (fun zi=>([[(aI 4),(aI 2),(aI 0),(aB false),(aB false),(.sl 2 (fun zi=>([[(aI 2),(aI 2),(aI 1),(aB false),(aB false),.nil],[(aI 2),(aI 2),(aI 0),(aB false),(aB false),.nil]]:List (List AV)).getD zi []))]]:List (List AV)).getD zi []))]]:List (List AV)).getD zi []) zi from (allN (n:=4) ⟨⟨⟨⟨trivial,rfl⟩,rfl⟩,rfl⟩,rfl⟩)) pn)) ?_
 refine rnK0 0 68 ?_
 refine rnP hE 2 qzd141 qzd156 3120 (pc (Eq.refl 4) (pc (show ∀ zi,zi < 4→(fun zi=>([[.nil],[(.sl 1 (fun zi=>([[(aI 2),(aI 2),(aI 0),(aB false),(aB false),.nil]]:List (List AV)).getD zi []))],[(.sl 1 (fun zi=>([[(aI 2),(aI 2),(aI 1),(aB false),(aB false),.nil]]:List (List AV)).getD zi []))],[(.sl 1 (fun zi=>([[(aI 4),(aI 2),(aI 0),(aB false),(aB false),(.sl 2 (fun zi=>([[(aI 2),(aI 2),(aI 1),(aB false),(aB false),.nil],[(aI 2),(aI 2),(aI 0),(aB false),(aB false),.nil]]:List (List AV)).getD zi []))]]:List (List AV)).getD zi []))]]:List (List AV)).getD zi []) zi=(fun zi=>([[.nil],[(.sl 1 (fun zi=>([[(aI 2),(aI 2),(aI 0),(aB false),(aB false),.nil]]:List (List AV)).getD zi []))],[(.sl 1 (fun zi=>([[(aI 2),(aI 2),(aI 1),(aB false),(aB false),.nil]]:List (List AV)).getD zi []))],[(.sl 1 (fun zi=>([[(aI 4),(aI 2),(aI 0),(aB false),(aB false),(.sl 2 (fun zi=>([[(aI 2),(aI 2),(aI 1),(aB false),(aB false),.nil],[(aI 2),(aI 2),(aI 0),(aB false),(aB false),.nil]]:List (List AV)).getD zi []))]]:List (List AV)).getD zi []))]]:List (List AV)).getD zi []) zi from (allN (n:=4) ⟨⟨⟨⟨trivial,rfl⟩,rfl⟩,rfl⟩,rfl⟩)) pn)) ?_
 refine rnP hE 2 qzd140 qzd156 3136 (pc (Eq.refl 4) (pc (show ∀ zi,zi < 4→(fun zi=>([[.nil],[(.sl 1 (fun zi=>([[(aI 2),(aI 2),(aI 0),(aB false),(aB false),.nil]]:List (List AV)).getD zi []))],[(.sl 1 (fun zi=>([[(aI 2),(aI 2),(aI 1),(aB false),(aB false),.nil]]:List (List AV)).getD zi []))],[(.sl 1 (fun zi=>([[(aI 4),(aI 2),(aI 0),(aB false),(aB false),(.sl 2 (fun zi=>([[(aI 2),(aI 2),(aI 1),(aB false),(aB false),.nil],[(aI 2),(aI 2),(aI 0),(aB false),(aB false),.nil]]:List (List AV)).getD zi []))]]:List (List AV)).getD zi []))]]:List (List AV)).getD zi []) zi=(fun zi=>([[.nil],[(.sl 1 (fun zi=>([[(aI 2),(aI 2),(aI 0),(aB false),(aB false),.nil]]:List (List AV)).getD zi []))],[(.sl 1 (fun zi=>([[(aI 2),(aI 2),(aI 1),(aB false),(aB false),.nil]]:List (List AV)).getD zi []))],[(.sl 1 (fun zi=>([[(aI 4),(aI 2),(aI 0),(aB false),(aB false),(.sl 2 (fun zi=>([[(aI 2),(aI 2),(aI 1),(aB false),(aB false),.nil],[(aI 2),(aI 2),(aI 0),(aB false),(aB false),.nil]]:List (List AV)).getD zi []))]]:List (List AV)).getD zi []))]]:List (List AV)).getD zi []) zi from (allN (n:=4) ⟨⟨⟨⟨trivial,rfl⟩,rfl⟩,rfl⟩,rfl⟩)) pn)) ?_
 refine rnK0 1 57 ?_
 refine rnP hE 2 (kp [8]) [(96,.arr 96 4 (fun zi=>([[.nil],[(.sl 1 (fun zi=>([[(aI 2),(aI 2),(aI 0),(aB false),(aB false),.nil]]:List (List AV)).getD zi []))],[(.sl 1 (fun zi=>([[(aI 2),(aI 2),(aI 1),(aB false),(aB false),.nil]]:List (List AV)).getD zi []))],[(.sl 1 (fun zi=>([[(aI 4),(aI 2),(aI 0),(aB false),(aB false),(.sl 2 (fun zi=>([[(aI 2),(aI 2),(aI 1),(aB false),(aB false),.nil],[(aI 2),(aI 2),(aI 0),(aB false),(aB false),.nil]]:List (List AV)).getD zi []))]]:List (List AV)).getD zi []))]]:List (List AV)).getD zi []))] 3168 (pc o1 (pc (Eq.refl 4) (pc (show ∀ zi,zi < 4→(fun zi=>([[.nil],[(.sl 1 (fun zi=>([[(aI 2),(aI 2),(aI 0),(aB false),(aB false),.nil]]:List (List AV)).getD zi []))],[(.sl 1 (fun zi=>([[(aI 2),(aI 2),(aI 1),(aB false),(aB false),.nil]]:List (List AV)).getD zi []))],[(.sl 1 (fun zi=>([[(aI 4),(aI 2),(aI 0),(aB false),(aB false),(.sl 2 (fun zi=>([[(aI 2),(aI 2),(aI 1),(aB false),(aB false),.nil],[(aI 2),(aI 2),(aI 0),(aB false),(aB false),.nil]]:List (List AV)).getD zi []))]]:List (List AV)).getD zi []))]]:List (List AV)).getD zi []) zi=(fun zi=>([[.nil],[(.sl 1 (fun zi=>([[(aI 2),(aI 2),(aI 0),(aB false),(aB false),.nil]]:List (List AV)).getD zi []))],[(.sl 1 (fun zi=>([[(aI 2),(aI 2),(aI 1),(aB false),(aB false),.nil]]:List (List AV)).getD zi []))],[(.sl 1 (fun zi=>([[(aI 4),(aI 2),(aI 0),(aB false),(aB false),(.sl 2 (fun zi=>([[(aI 2),(aI 2),(aI 1),(aB false),(aB false),.nil],[(aI 2),(aI 2),(aI 0),(aB false),(aB false),.nil]]:List (List AV)).getD zi []))]]:List (List AV)).getD zi []))]]:List (List AV)).getD zi []) zi from (allN (n:=4) ⟨⟨⟨⟨trivial,rfl⟩,rfl⟩,rfl⟩,rfl⟩)) pn))) ?_
 exact Runs.nT hE 0 Try.f20 [96] [(8,.sl 4 (fun zi=>([[.nil],[(.sl 1 (fun zi=>([[(aI 2),(aI 2),(aI 0),(aB false),(aB false),.nil]]:List (List AV)).getD zi []))],[(.sl 1 (fun zi=>([[(aI 2),(aI 2),(aI 1),(aB false),(aB false),.nil]]:List (List AV)).getD zi []))],[(.sl 1 (fun zi=>([[(aI 4),(aI 2),(aI 0),(aB false),(aB false),(.sl 2 (fun zi=>([[(aI 2),(aI 2),(aI 1),(aB false),(aB false),.nil],[(aI 2),(aI 2),(aI 0),(aB false),(aB false),.nil]]:List (List AV)).getD zi []))]]:List (List AV)).getD zi []))]]:List (List AV)).getD zi []))] [] 3168 (pc (Eq.refl 4) (pc (show 0+4≤4 from (z1 4)) (pc (show ∀ zi,zi < 4→(fun zi=>([[.nil],[(.sl 1 (fun zi=>([[(aI 2),(aI 2),(aI 0),(aB false),(aB false),.nil]]:List (List AV)).getD zi []))],[(.sl 1 (fun zi=>([[(aI 2),(aI 2),(aI 1),(aB false),(aB false),.nil]]:List (List AV)).getD zi []))],[(.sl 1 (fun zi=>([[(aI 4),(aI 2),(aI 0),(aB false),(aB false),(.sl 2 (fun zi=>([[(aI 2),(aI 2),(aI 1),(aB false),(aB false),.nil],[(aI 2),(aI 2),(aI 0),(aB false),(aB false),.nil]]:List (List AV)).getD zi []))]]:List (List AV)).getD zi []))]]:List (List AV)).getD zi []) zi=(fun zi=>([[.nil],[(.sl 1 (fun zi=>([[(aI 2),(aI 2),(aI 0),(aB false),(aB false),.nil]]:List (List AV)).getD zi []))],[(.sl 1 (fun zi=>([[(aI 2),(aI 2),(aI 1),(aB false),(aB false),.nil]]:List (List AV)).getD zi []))],[(.sl 1 (fun zi=>([[(aI 4),(aI 2),(aI 0),(aB false),(aB false),(.sl 2 (fun zi=>([[(aI 2),(aI 2),(aI 1),(aB false),(aB false),.nil],[(aI 2),(aI 2),(aI 0),(aB false),(aB false),.nil]]:List (List AV)).getD zi []))]]:List (List AV)).getD zi []))]]:List (List AV)).getD zi []) (addz 0 zi) from (allN (n:=4) ⟨⟨⟨⟨trivial,rfl⟩,rfl⟩,rfl⟩,rfl⟩)) pn))) [] pn
theorem g_survey_shape_cut_v2_ok (N:Nat) (r:Unit) (h:g_survey_shape_cut_v2 N=some r):Sound Try.prog 34 [(.agg [(aI 2),(aI 2),(aI 1),(aB false),(aB false),.nil])] [] 0 (.agg [(aI 1),(aB false),(aB false),(aI 0),.nil,.nil]) []:=by
 refine sO Try.f34 41 fun E hE=>?_
 refine rnZ hE 1 (kp [1,2]) qzd166 32 ?_
 refine rnP hE 2 (kp [1,2,7]) qzd166 96 (pc o1 pn) ?_
 refine rnK1 0 7 ?_
 refine rnP hE 1 (kp [2]) (kq [16]) 192 (pc o1 (pc o1 (pc o1 pn))) ?_
 exact Runs.nT hE 0 Try.f34 [] (kp [2]) (kq [16]) 192 pn [16] (pc o1 pn)
theorem g_survey_shape_cut_v3_ok (N:Nat) (r:Unit) (h:g_survey_shape_cut_v3 N=some r):Sound Try.prog 34 [(.agg [(aI 2),(aI 2),(aI 0),(aB false),(aB false),.nil])] [] 0 (.agg [(aI 0),(aB false),(aB false),(aI 0),.nil,.nil]) []:=by
 refine sO Try.f34 41 fun E hE=>?_
 refine rnZ hE 1 (kp [1,2]) qzd166 32 ?_
 refine rnP hE 2 (kp [1,2,7]) qzd166 96 (pc o1 pn) ?_
 refine rnK1 0 7 ?_
 refine rnP hE 1 (kp [2]) (kq [16]) 192 (pc o1 (pc o1 (pc o1 pn))) ?_
 exact Runs.nT hE 0 Try.f34 [] (kp [2]) (kq [16]) 192 pn [16] (pc o1 pn)
theorem g_survey_shape_cut_ok (N:Nat) (r:Unit) (h:g_survey_shape_cut N=some r):Sound Try.prog 34 [(.agg [(aI 4),(aI 2),(aI 0),(aB false),(aB false),(.sl 2 (fun zi=>([[(aI 2),(aI 2),(aI 1),(aB false),(aB false),.nil],[(aI 2),(aI 2),(aI 0),(aB false),(aB false),.nil]]:List (List AV)).getD zi []))])] [] 0 (.agg [(aI (-1)),(aB false),(aB false),(aI 2),(.sl 1 (fun zi=>([[(aI 1),(aB false),(aB false),(aI 0),.nil,.nil]]:List (List AV)).getD zi [])),(.sl 1 (fun zi=>([[(aI 0),(aB false),(aB false),(aI 0),.nil,.nil]]:List (List AV)).getD zi []))]) []:=by
 refine sO Try.f34 41 fun E hE=>?_
 refine rnZ hE 1 (kp [1,2]) qzd166 32 ?_
 refine rnP hE 2 (kp [1,2,7]) qzd166 96 (pc o1 pn) ?_
 refine rnK0 0 7 ?_
 refine rnP hE 2 (kp [1,2,3]) qzd166 192 (pc o1 (pc (show 0≤(0:Int)∧(0:Int) < ((2:Nat):Int) by decide) pn)) ?_
 refine rnP hE 2 (kp [1,2,3,19]) qzd166 224 (pc o1 pn) ?_
 refine rnK0 0 19 ?_
 refine Runs.nR hE 2 [(7,⟨[],true,(.agg [(aI 1),(aB false),(aB false),(aI 0),.nil,.nil]),[],0,false,none⟩),(13,⟨[],true,(.agg [(aI 0),(aB false),(aB false),(aI 0),.nil,.nil]),[],0,false,none⟩)] [352,448] (kp [2]) [(16,.var 16 [.keep,.keep,.keep,.keep,.sl 1 (fun zi=>([[(aI 1),(aB false),(aB false),(aI 0),.nil,.nil]]:List (List AV)).getD zi []),.sl 1 (fun zi=>([[(aI 0),(aB false),(aB false),(aI 0),.nil,.nil]]:List (List AV)).getD zi [])])] 496 (pc o1 (pc o1 (pc (show 0≤(0:Int)∧(0:Int) < ((2:Nat):Int) by decide) (pc (g_survey_shape_cut_v2_ok N () rfl) (pc o1 (pc (show 0≤(1:Int)∧(1:Int) < ((2:Nat):Int) by decide) (pc (g_survey_shape_cut_v3_ok N () rfl) (pc o1 (pc (Eq.refl 1) (pc (show 0+1≤1 from (z1 1)) (pc (show ∀ zi,zi < 1→(fun zi=>([[(aI 1),(aB false),(aB false),(aI 0),.nil,.nil]]:List (List AV)).getD zi []) zi=(fun zi=>([[(aI 1),(aB false),(aB false),(aI 0),.nil,.nil]]:List (List AV)).getD zi []) (addz 0 zi) from (allN (n:=1) ⟨trivial,rfl⟩)) (pc (Eq.refl 1) (pc (show 0+1≤1 from (z1 1)) (pc (show ∀ zi,zi < 1→(fun zi=>([[(aI 0),(aB false),(aB false),(aI 0),.nil,.nil]]:List (List AV)).getD zi []) zi=(fun zi=>([[(aI 0),(aB false),(aB false),(aI 0),.nil,.nil]]:List (List AV)).getD zi []) (addz 0 zi) from (allN (n:=1) ⟨trivial,rfl⟩)) pn)))))))))))))) ?_
 exact Runs.nT hE 0 Try.f34 [] (kp [2]) (kq [16]) 496 pn [16] (pc o1 pn)
theorem g_survey_whole_ok (N:Nat) (r:Unit) (h:g_survey_whole N=some r):Sound Try.prog 19 [(.sl 4 (fun zi=>([[.nil],[(.sl 1 (fun zi=>([[(aI 2),(aI 2),(aI 0),(aB false),(aB false),.nil]]:List (List AV)).getD zi []))],[(.sl 1 (fun zi=>([[(aI 2),(aI 2),(aI 1),(aB false),(aB false),.nil]]:List (List AV)).getD zi []))],[(.sl 1 (fun zi=>([[(aI 4),(aI 2),(aI 0),(aB false),(aB false),(.sl 2 (fun zi=>([[(aI 2),(aI 2),(aI 1),(aB false),(aB false),.nil],[(aI 2),(aI 2),(aI 0),(aB false),(aB false),.nil]]:List (List AV)).getD zi []))]]:List (List AV)).getD zi []))]]:List (List AV)).getD zi [])),(aI 3)] [] 0 (.tup [(.agg [(aI (-1)),(aB false),(aB false),(aI 2),(.sl 1 (fun zi=>([[(aI 1),(aB false),(aB false),(aI 0),.nil,.nil]]:List (List AV)).getD zi [])),(.sl 1 (fun zi=>([[(aI 0),(aB false),(aB false),(aI 0),.nil,.nil]]:List (List AV)).getD zi []))]),(aB true)]) []:=by
 refine sO Try.f19 23 fun E hE=>?_
 refine rnZ hE 1 qzd83 (kq [0]) 32 ?_
 refine rnZ hE 2 (kp [0,1,4,7]) (kq [0]) 64 ?_
 refine rnK0 0 7 ?_
 refine rnP hE 3 (kp [0,1,4,14]) (kq [0]) 160 (pc (show 0≤(3:Int)∧(3:Int) < ((4:Nat):Int) by decide) pn) ?_
 refine rnK0 0 14 ?_
 refine rnH hE 2 [(6,⟨[],true,(.agg [(aI (-1)),(aB false),(aB false),(aI 2),(.sl 1 (fun zi=>([[(aI 1),(aB false),(aB false),(aI 0),.nil,.nil]]:List (List AV)).getD zi [])),(.sl 1 (fun zi=>([[(aI 0),(aB false),(aB false),(aI 0),.nil,.nil]]:List (List AV)).getD zi []))]),[],0,false,none⟩)] (kp [4,5]) (kq [0]) 304 (pc (show 0≤(3:Int)∧(3:Int) < ((4:Nat):Int) by decide) (pc (show 0≤(0:Int)∧(0:Int) < ((1:Nat):Int) by decide) (pc (g_survey_shape_cut_ok N () rfl) (pc o1 pn)))) ?_
 exact Runs.nT hE 0 Try.f19 [] (kp [4,5]) [(16,.keep 0)] 304 pn [16] (pc o1 pn)
theorem g_survey_Fit_ok (N:Nat) (r:Unit) (h:g_survey_Fit N=some r):Sound Try.prog 10 [(.sl 2 qzd77),(.agg [(aI 4),(aI 2),(aI 0)]),(aI 0)] [] 0 (.tup [(.agg [(aI (-1)),(aB false),(aB false),(aI 2),(.sl 1 (fun zi=>([[(aI 1),(aB false),(aB false),(aI 0),.nil,.nil]]:List (List AV)).getD zi [])),(.sl 1 (fun zi=>([[(aI 0),(aB false),(aB false),(aI 0),.nil,.nil]]:List (List AV)).getD zi []))]),(aB true),(aI 0)]) []:=by
 refine sO Try.f10 38 fun E hE=>?_
 refine rnZ hE 1 (kp [0,2,4,6]) qzd166 64 ?_
 refine rnH hE 2 [(4,⟨[],true,(aI 0),[],0,false,none⟩)] (kp [0,2,4,6,9]) qzd166 160 (pc o1 (pc (show Sound Try.prog 18 [(.sl 2 qzd77),(.sl 1 (fun zi=>qzd75 (addz 0 zi))),(aI 0)] [] 0 (aI 0) [] from (Sound.conv (g_survey_checkStock_ok N () rfl) (.cons (Alike.refl _) (.cons (Alike.sl rfl (allN (n:=1) ⟨trivial,rfl⟩)) (.cons (Alike.refl _) .nil))))) (pc (show 0+1≤1 from (z1 1)) pn))) ?_
 refine rnZ hE 1 (kp [0,2,4,6,9,18]) qzd166 192 ?_
 refine rnK0 0 18 ?_
 refine rnH hE 2 [(6,⟨[],true,(.sl 4 (fun zi=>([[.nil],[(.sl 1 (fun zi=>([[(aI 2),(aI 2),(aI 0),(aB false),(aB false),.nil]]:List (List AV)).getD zi []))],[(.sl 1 (fun zi=>([[(aI 2),(aI 2),(aI 1),(aB false),(aB false),.nil]]:List (List AV)).getD zi []))],[(.sl 1 (fun zi=>([[(aI 4),(aI 2),(aI 0),(aB false),(aB false),(.sl 2 (fun zi=>([[(aI 2),(aI 2),(aI 1),(aB false),(aB false),.nil],[(aI 2),(aI 2),(aI 0),(aB false),(aB false),.nil]]:List (List AV)).getD zi []))]]:List (List AV)).getD zi []))]]:List (List AV)).getD zi [])),[],0,false,none⟩),(11,⟨[],true,(.tup [(.agg [(aI (-1)),(aB false),(aB false),(aI 2),(.sl 1 (fun zi=>([[(aI 1),(aB false),(aB false),(aI 0),.nil,.nil]]:List (List AV)).getD zi [])),(.sl 1 (fun zi=>([[(aI 0),(aB false),(aB false),(aI 0),.nil,.nil]]:List (List AV)).getD zi []))]),(aB true)]),[],0,false,none⟩)] (kp [6,10,11]) (kq [16,432]) 480 (pc o1 (pc o1 (pc (g_survey_shapes_ok N () rfl) (pc (show (0:Int)≤2 by decide) (pc (g_survey_whole_ok N () rfl) (pc o1 pn)))))) ?_
 refine rnP hE 1 qzd145 (kq [16]) 560 (pc o1 (pc o1 pn)) ?_
 exact Runs.nT hE 0 Try.f10 [] qzd145 (kq [16]) 560 pn [16] (pc o1 pn)
theorem g_survey_inside_1_v5_ok (N:Nat) (r:Unit) (h:g_survey_inside_1_v5 N=some r):Sound Try.prog 51 [(aI 3),(.op 0 0 0),(.op 1 0 0)] [(0,vO 1 [(aI 1)]),(1,vO 1 [(aI 100000)])] 2 (aB false) [(0,vO 1 [(aI 1)]),(1,vO 1 [(aI 100000)])]:=by
 refine sO Try.f51 13 fun E hE=>?_
 refine rnZ hE 1 qzd81 (kq [0,1]) 18 ?_
 refine rnH hE 1 [(4,⟨[],true,.unk,[],1,false,none⟩),(5,⟨[],true,.unk,[],1,false,none⟩),(6,⟨[],true,.unk,[],1,false,none⟩)] (kp [4]) (kq [0,1]) 162 (pc o1 (pc (Eq.refl true) (pc (Eq.refl true) (pc o1 (pc (Eq.refl true) pn))))) ?_
 exact Runs.nT hE 0 Try.f51 [] (kp [4]) (kq [0,1]) 162 pn [] pn
theorem g_slices_IndexFunc_int_int_v5_ok (N:Nat) (r:Unit) (h:g_slices_IndexFunc_int_int_v5 N=some r):Sound Try.prog 65 [(.sl 2 qzd74),(.fn (.func 51) [] [(.op 0 0 0),(.op 1 0 0)])] [(0,vO 1 [(aI 1)]),(1,vO 1 [(aI 100000)])] 2 (aI (-1)) [(0,vO 1 [(aI 1)]),(1,vO 1 [(aI 100000)])]:=by
 refine sO Try.f65 19 fun E hE=>?_
 refine rnZ hE 1 (kp [0,1]) (kq [0,1]) 18 ?_
 refine rnZ hE 2 qzd93 (kq [0,1]) 66 ?_
 refine rnZ hE 3 qzd92 (kq [0,1]) 82 ?_
 refine rnK1 1 9 ?_
 refine rnZ hE 4 qzd88 (kq [0,1]) 114 ?_
 refine rnH hE 1 [(5,⟨[0,1],true,(aB false),[],0,false,none⟩)] qzd87 (kq [0,1]) 210 (pc (show 0≤(0:Int)∧(0:Int) < ((2:Nat):Int) by decide) (pc (g_survey_inside_1_v5_ok N () rfl) pn)) ?_
 refine rnK0 0 16 ?_
 refine rnZ hE 2 qzd93 (kq [0,1]) 242 ?_
 refine rnZ hE 2 qzd92 (kq [0,1]) 258 ?_
 refine rnK1 1 9 ?_
 refine rnZ hE 4 qzd88 (kq [0,1]) 290 ?_
 refine rnH hE 1 [(5,⟨[0,1],true,(aB false),[],0,false,none⟩)] qzd87 (kq [0,1]) 386 (pc (show 0≤(1:Int)∧(1:Int) < ((2:Nat):Int) by decide) (pc (g_survey_inside_1_v5_ok N () rfl) pn)) ?_
 refine rnK0 0 16 ?_
 refine rnZ hE 2 qzd93 (kq [0,1]) 418 ?_
 refine rnZ hE 2 qzd92 (kq [0,1]) 434 ?_
 refine rnK0 1 9 ?_
 refine rnZ hE 2 (kp [4]) (kq [0,1]) 450 ?_
 exact Runs.nT hE 0 Try.f65 [] (kp [4]) (kq [0,1]) 450 pn [] pn
theorem g_slices_ContainsFunc_int_int_v5_ok (N:Nat) (r:Unit) (h:g_slices_ContainsFunc_int_int_v5 N=some r):Sound Try.prog 50 [(.sl 2 qzd74),(.fn (.func 51) [] [(.op 0 0 0),(.op 1 0 0)])] [(0,vO 1 [(aI 1)]),(1,vO 1 [(aI 100000)])] 2 (aB false) [(0,vO 1 [(aI 1)]),(1,vO 1 [(aI 100000)])]:=by
 refine sO Try.f50 9 fun E hE=>?_
 refine rnZ hE 1 (kp [0,1]) (kq [0,1]) 18 ?_
 refine rnH hE 1 [(2,⟨[0,1],true,(aI (-1)),[],0,false,none⟩)] (kp [4]) (kq [0,1]) 98 (pc (g_slices_IndexFunc_int_int_v5_ok N () rfl) pn) ?_
 exact Runs.nT hE 0 Try.f50 [] (kp [4]) (kq [0,1]) 98 pn [] pn
theorem g_survey_inside_v5_ok (N:Nat) (r:Unit) (h:g_survey_inside_v5 N=some r):Sound Try.prog 32 [(aI 1),(aI 100000),(.sl 2 qzd74)] [] 0 (aB true) []:=by
 refine sO Try.f32 11 fun E hE=>?_
 refine rnZ hE 1 qzd116 qzd166 48 ?_
 refine rnH hE 1 [(2,⟨[0,16],true,(aB false),[],0,false,none⟩)] (kp [6]) [] 128 (pc (g_slices_ContainsFunc_int_int_v5_ok N () rfl) pn) ?_
 exact Runs.nT hE 0 Try.f32 [] (kp [6]) [] 128 pn [] pn
theorem g_survey_checkPlate_v2_ok (N:Nat) (r:Unit) (h:g_survey_checkPlate_v2 N=some r):Sound Try.prog 33 [(.agg [(aI 3),(aI 3),(aI 0)])] [] 0 (aI 0) []:=by
 refine sO Try.f33 17 fun E hE=>?_
 refine rnZ hE 1 (kp [1]) (kq [0]) 32 ?_
 refine rnH hE 2 [(5,⟨[],true,(aB true),[],0,false,none⟩),(8,⟨[],true,.unk,[],1,false,none⟩),(9,⟨[],true,.unk,[],1,false,none⟩),(10,⟨[],true,.unk,[],1,false,none⟩),(11,⟨[],true,(aB true),[],1,false,none⟩),(12,⟨[],true,.unk,[],1,false,none⟩)] (kp [16]) [] 256 (pc o1 (pc o1 (pc (show Sound Try.prog 32 [(aI 1),(aI 100000),(.sl 2 (fun zi=>qzd74 (addz 0 zi)))] [] 0 (aB true) [] from (Sound.conv (g_survey_inside_v5_ok N () rfl) (.cons (Alike.refl _) (.cons (Alike.refl _) (.cons (Alike.sl rfl (allN (n:=2) ⟨⟨trivial,rfl⟩,rfl⟩)) .nil))))) (pc (show 0+2≤2 from (z1 2)) (pc (Eq.refl true) (pc (Eq.refl true) (pc o1 (pc (Eq.refl true) (pc (Eq.refl true) (pc (show Sound Try.prog 32 [(aI 0),qzd64,(.sl 1 qzd78)] [] 0 (aB true) [] from (Sound.conv (g_survey_inside_v3_ok N () rfl) (.cons (Alike.refl _) (.cons (Alike.refl _) (.cons (Alike.sl rfl (allN (n:=1) ⟨trivial,rfl⟩)) .nil))))) (pc (show 0+1≤1 from (z1 1)) (pc (Eq.refl true) pn)))))))))))) ?_
 refine rnK0 0 16 ?_
 refine rnZ hE 2 (kp [2]) [] 272 ?_
 exact Runs.nT hE 0 Try.f33 [] (kp [2]) [] 272 pn [] pn
theorem g_survey_checkStock_v2_ok (N:Nat) (r:Unit) (h:g_survey_checkStock_v2 N=some r):Sound Try.prog 18 [(.sl 2 qzd77),(.sl 1 qzd73),(aI 0)] [] 0 (aI 0) []:=by
 refine sO Try.f18 66 fun E hE=>?_
 refine rnZ hE 1 qzd81 [] 16 ?_
 refine rnH hE 2 [(4,⟨[],true,.unk,[],1,false,none⟩),(5,⟨[],true,.unk,[],1,false,none⟩),(6,⟨[],true,.unk,[],1,false,none⟩)] (kp [0,1,2,20]) [] 144 (pc (Eq.refl true) (pc (Eq.refl true) (pc (Eq.refl true) pn))) ?_
 refine rnK0 0 20 ?_
 refine rnZ hE 2 (kp [0,1,2,7]) (kq [144]) 176 ?_
 refine rnZ hE 2 qzd103 (kq [144]) 224 ?_
 refine rnZ hE 3 qzd102 (kq [144]) 240 ?_
 refine rnK1 1 25 ?_
 refine rnP hE 4 qzd107 qzd169 304 (pc (show 0≤(0:Int)∧(0:Int) < ((2:Nat):Int) by decide) (pc o1 pn)) ?_
 refine rnH hE 3 [(2,⟨[],true,(aB true),[],0,false,none⟩)] qzd104 qzd169 384 (pc o1 (pc (g_survey_name_ok N () rfl) pn)) ?_
 refine rnK0 0 28 ?_
 refine rnH hE 1 [(3,⟨[],true,(aB false),[],0,false,none⟩)] qzd105 qzd169 464 (pc o1 (pc (show (Go.Ab.look Try.prog 9 [] (aS (⟨#[97]⟩:ByteArray))).map (fun zr=>zr.getD (ofConst (.bool false)))=some (aB false) by kernel_rfl) pn)) ?_
 refine rnK0 0 33 ?_
 refine rnH hE 1 [(5,⟨[],true,(aB true),[],0,false,none⟩)] qzd106 qzd169 592 (pc o1 (pc o1 (pc (show Sound Try.prog 32 [(aI 1),(aI 100000),(.sl 2 qzd79)] [] 0 (aB true) [] from (Sound.conv (g_survey_inside_ok N () rfl) (.cons (Alike.refl _) (.cons (Alike.refl _) (.cons (Alike.sl rfl (allN (n:=2) ⟨⟨trivial,rfl⟩,rfl⟩)) .nil))))) (pc (show 0+2≤2 from (z1 2)) pn)))) ?_
 refine rnK0 0 38 ?_
 refine rnH hE 2 [(3,⟨[],true,(.tup [qzd65,(aB true)]),[],0,false,none⟩)] qzd103 (kq [144]) 656 (pc o1 (pc (show Go.Ab.insA Try.prog 9 [] (aS (⟨#[97]⟩:ByteArray)) (aB true)=some [(aS (⟨#[97]⟩:ByteArray)),(aB true)] by kernel_rfl) pn)) ?_
 refine rnZ hE 1 qzd103 (kq [144]) 688 ?_
 refine rnZ hE 2 qzd102 (kq [144]) 704 ?_
 refine rnK1 1 25 ?_
 refine rnP hE 4 qzd107 qzd170 768 (pc (show 0≤(1:Int)∧(1:Int) < ((2:Nat):Int) by decide) (pc o1 pn)) ?_
 refine rnH hE 3 [(2,⟨[],true,(aB true),[],0,false,none⟩)] qzd104 qzd170 848 (pc o1 (pc (g_survey_name_v2_ok N () rfl) pn)) ?_
 refine rnK0 0 28 ?_
 refine rnH hE 1 [(3,⟨[],true,(aB false),[],0,false,none⟩)] qzd105 qzd170 928 (pc o1 (pc (show (Go.Ab.look Try.prog 9 [(aS (⟨#[97]⟩:ByteArray)),(aB true)] (aS (⟨#[98]⟩:ByteArray))).map (fun zr=>zr.getD (ofConst (.bool false)))=some (aB false) by kernel_rfl) pn)) ?_
 refine rnK0 0 33 ?_
 refine rnH hE 1 [(5,⟨[],true,(aB true),[],0,false,none⟩)] qzd106 qzd170 1056 (pc o1 (pc o1 (pc (show Sound Try.prog 32 [(aI 1),(aI 100000),(.sl 2 qzd79)] [] 0 (aB true) [] from (Sound.conv (g_survey_inside_ok N () rfl) (.cons (Alike.refl _) (.cons (Alike.refl _) (.cons (Alike.sl rfl (allN (n:=2) ⟨⟨trivial,rfl⟩,rfl⟩)) .nil))))) (pc (show 0+2≤2 from (z1 2)) pn)))) ?_
 refine rnK0 0 38 ?_
 refine rnH hE 2 [(3,⟨[],true,(.tup [qzd65,(aB true),qzd66,(aB true)]),[],0,false,none⟩)] qzd103 (kq [144]) 1120 (pc o1 (pc (show Go.Ab.insA Try.prog 9 [(aS (⟨#[97]⟩:ByteArray)),(aB true)] (aS (⟨#[98]⟩:ByteArray)) (aB true)=some [(aS (⟨#[97]⟩:ByteArray)),(aB true),(aS (⟨#[98]⟩:ByteArray)),(aB true)] by kernel_rfl) pn)) ?_
 refine rnZ hE 1 qzd103 (kq [144]) 1152 ?_
 refine rnZ hE 2 qzd102 (kq [144]) 1168 ?_
 refine rnK0 1 25 ?_
 refine rnZ hE 3 qzd123 [] 1216 ?_
 refine rnZ hE 3 qzd122 [] 1232 ?_
 refine rnK1 1 53 ?_
 refine rnP hE 4 (kp [2,11,50,51,52]) (kq [1264]) 1296 (pc (show 0≤(0:Int)∧(0:Int) < ((1:Nat):Int) by decide) (pc o1 pn)) ?_
 refine rnH hE 1 [(1,⟨[],true,(aI 0),[],0,false,none⟩)] (kp [2,12,50,51,52]) [] 1344 (pc o1 (pc (g_survey_checkPlate_v2_ok N () rfl) pn)) ?_
 refine rnZ hE 1 (kp [2,12,50,51,52,59]) [] 1376 ?_
 refine rnK0 0 59 ?_
 refine rnZ hE 2 qzd123 [] 1408 ?_
 refine rnZ hE 2 qzd122 [] 1424 ?_
 refine rnK0 1 53 ?_
 refine rnH hE 3 [(2,⟨[],true,(aB true),[],0,false,none⟩)] (kp [65]) [] 1488 (pc (show Sound Try.prog 32 [(aI 0),(aI 100),(.sl 1 qzd78)] [] 0 (aB true) [] from (Sound.conv (g_survey_inside_v4_ok N () rfl) (.cons (Alike.refl _) (.cons (Alike.refl _) (.cons (Alike.sl rfl (allN (n:=1) ⟨trivial,rfl⟩)) .nil))))) (pc (show 0+1≤1 from (z1 1)) pn)) ?_
 refine rnK0 0 65 ?_
 refine rnZ hE 2 (kp [6]) [] 1504 ?_
 exact Runs.nT hE 0 Try.f18 [] (kp [6]) [] 1504 pn [] pn
theorem g_survey_shapes_1_v5_ok (N:Nat) (r:Unit) (h:g_survey_shapes_1_v5 N=some r):Sound Try.prog 35 [(aI 1),(.agg [(aI 2),(aI 2),(aI 0),(aB false),(aB false),.nil]),(.op 0 0 0),(.op 1 0 0),(.op 2 0 0)] [(0,vO 1 [(aI 3)]),(1,vO 1 [(aI 3)]),(2,vN 1 [(.os 3 0 4)]),(3,⟨false,1,4,true,fun zi=>([[.nil],[.nil],[.nil],[.nil]]:List (List AV)).getD zi []⟩)] 4 (.tup []) [(0,vO 1 [(aI 3)]),(1,vO 1 [(aI 3)]),(2,vN 1 [(.os 3 0 4)]),(3,⟨false,1,4,true,fun zi=>([[.nil],[(.sl 1 (fun zi=>([[(aI 2),(aI 2),(aI 0),(aB false),(aB false),.nil]]:List (List AV)).getD zi []))],[.nil],[.nil]]:List (List AV)).getD zi []⟩)]:=by
 refine sO Try.f35 26 fun E hE=>?_
 refine rnP hE 1 qzd95 qzd152 20 (pc (Eq.refl 4) (pc (show ∀ zi,zi < 4→(fun zi=>([[.nil],[.nil],[.nil],[.nil]]:List (List AV)).getD zi []) zi=(fun zi=>([[.nil],[.nil],[.nil],[.nil]]:List (List AV)).getD zi []) zi from (allN (n:=4) ⟨⟨⟨⟨trivial,rfl⟩,rfl⟩,rfl⟩,rfl⟩)) pn)) ?_
 refine rnH hE 1 [(5,⟨[],true,.unk,[],1,false,none⟩),(6,⟨[],true,.unk,[],1,false,none⟩),(7,⟨[],true,.unk,[],1,false,none⟩),(8,⟨[],true,.unk,[],1,false,none⟩)] qzd99 qzd152 180 (pc o1 (pc o1 (pc (Eq.refl true) (pc (Eq.refl true) (pc o1 (pc (Eq.refl true) (pc o1 (pc (Eq.refl true) (pc (Eq.refl 4) (pc (show ∀ zi,zi < 4→(fun zi=>([[.nil],[.nil],[.nil],[.nil]]:List (List AV)).getD zi []) zi=(fun zi=>([[.nil],[.nil],[.nil],[.nil]]:List (List AV)).getD zi []) zi from (allN (n:=4) ⟨⟨⟨⟨trivial,rfl⟩,rfl⟩,rfl⟩,rfl⟩)) pn)))))))))) ?_
 refine rnK1 0 16 ?_
 refine rnH hE 0 [(7,⟨[],true,(.sl 1 (fun zi=>([[(aI 2),(aI 2),(aI 0),(aB false),(aB false),.nil]]:List (List AV)).getD zi [])),[],0,false,none⟩)] [] qzd151 340 (pc o1 (pc o1 (pc (show 0≤(1:Int)∧(1:Int) < ((4:Nat):Int) by decide) (pc (show 1 < 4 by decide) (pc o1 (pc (g_survey_kept_ok N () rfl) (pc (show 0≤(1:Int)∧(1:Int) < ((4:Nat):Int) by decide) (pc (show 1 < 4 by decide) (pc (Eq.refl 4) (pc (show ∀ zi,zi < 4→(fun zi=>([[.nil],[(.sl 1 (fun zi=>([[(aI 2),(aI 2),(aI 0),(aB false),(aB false),.nil]]:List (List AV)).getD zi []))],[.nil],[.nil]]:List (List AV)).getD zi []) zi=qzd19 zi from (allN (n:=4) ⟨⟨⟨⟨trivial,rfl⟩,rfl⟩,rfl⟩,rfl⟩)) pn)))))))))) ?_
 exact Runs.nF hE 0 Try.f35 [] [] qzd146 340 pn [] pn
theorem g_survey_shapes_1_v6_ok (N:Nat) (r:Unit) (h:g_survey_shapes_1_v6 N=some r):Sound Try.prog 35 [(aI 2),(.agg [(aI 2),(aI 2),(aI 1),(aB false),(aB false),.nil]),(.op 0 0 0),(.op 1 0 0),(.op 2 0 0)] [(0,vO 1 [(aI 3)]),(1,vO 1 [(aI 3)]),(2,vN 1 [(.os 3 0 4)]),(3,⟨false,1,4,true,fun zi=>([[.nil],[(.sl 1 (fun zi=>([[(aI 2),(aI 2),(aI 0),(aB false),(aB false),.nil]]:List (List AV)).getD zi []))],[.nil],[.nil]]:List (List AV)).getD zi []⟩)] 4 (.tup []) [(0,vO 1 [(aI 3)]),(1,vO 1 [(aI 3)]),(2,vN 1 [(.os 3 0 4)]),(3,⟨false,1,4,true,fun zi=>([[.nil],[(.sl 1 (fun zi=>([[(aI 2),(aI 2),(aI 0),(aB false),(aB false),.nil]]:List (List AV)).getD zi []))],[(.sl 1 (fun zi=>([[(aI 2),(aI 2),(aI 1),(aB false),(aB false),.nil]]:List (List AV)).getD zi []))],[.nil]]:List (List AV)).getD zi []⟩)]:=by
 refine sO Try.f35 26 fun E hE=>?_
 refine rnP hE 1 qzd95 qzd150 20 (pc (Eq.refl 4) (pc (show ∀ zi,zi < 4→(fun zi=>([[.nil],[(.sl 1 (fun zi=>([[(aI 2),(aI 2),(aI 0),(aB false),(aB false),.nil]]:List (List AV)).getD zi []))],[.nil],[.nil]]:List (List AV)).getD zi []) zi=(fun zi=>([[.nil],[(.sl 1 (fun zi=>([[(aI 2),(aI 2),(aI 0),(aB false),(aB false),.nil]]:List (List AV)).getD zi []))],[.nil],[.nil]]:List (List AV)).getD zi []) zi from (allN (n:=4) ⟨⟨⟨⟨trivial,rfl⟩,rfl⟩,rfl⟩,rfl⟩)) pn)) ?_
 refine rnH hE 1 [(5,⟨[],true,.unk,[],1,false,none⟩),(6,⟨[],true,.unk,[],1,false,none⟩),(7,⟨[],true,.unk,[],1,false,none⟩),(8,⟨[],true,.unk,[],1,false,none⟩)] qzd99 qzd150 180 (pc o1 (pc o1 (pc (Eq.refl true) (pc (Eq.refl true) (pc o1 (pc (Eq.refl true) (pc o1 (pc (Eq.refl true) (pc (Eq.refl 4) (pc (show ∀ zi,zi < 4→(fun zi=>([[.nil],[(.sl 1 (fun zi=>([[(aI 2),(aI 2),(aI 0),(aB false),(aB false),.nil]]:List (List AV)).getD zi []))],[.nil],[.nil]]:List (List AV)).getD zi []) zi=(fun zi=>([[.nil],[(.sl 1 (fun zi=>([[(aI 2),(aI 2),(aI 0),(aB false),(aB false),.nil]]:List (List AV)).getD zi []))],[.nil],[.nil]]:List (List AV)).getD zi []) zi from (allN (n:=4) ⟨⟨⟨⟨trivial,rfl⟩,rfl⟩,rfl⟩,rfl⟩)) pn)))))))))) ?_
 refine rnK1 0 16 ?_
 refine rnH hE 0 [(7,⟨[],true,(.sl 1 (fun zi=>([[(aI 2),(aI 2),(aI 1),(aB false),(aB false),.nil]]:List (List AV)).getD zi [])),[],0,false,none⟩)] [] qzd149 340 (pc o1 (pc o1 (pc (show 0≤(2:Int)∧(2:Int) < ((4:Nat):Int) by decide) (pc (show 2 < 4 by decide) (pc o1 (pc (g_survey_kept_v2_ok N () rfl) (pc (show 0≤(2:Int)∧(2:Int) < ((4:Nat):Int) by decide) (pc (show 2 < 4 by decide) (pc (Eq.refl 4) (pc (show ∀ zi,zi < 4→(fun zi=>([[.nil],[(.sl 1 (fun zi=>([[(aI 2),(aI 2),(aI 0),(aB false),(aB false),.nil]]:List (List AV)).getD zi []))],[(.sl 1 (fun zi=>([[(aI 2),(aI 2),(aI 1),(aB false),(aB false),.nil]]:List (List AV)).getD zi []))],[.nil]]:List (List AV)).getD zi []) zi=qzd20 zi from (allN (n:=4) ⟨⟨⟨⟨trivial,rfl⟩,rfl⟩,rfl⟩,rfl⟩)) pn)))))))))) ?_
 exact Runs.nF hE 0 Try.f35 [] [] qzd146 340 pn [] pn
theorem g_survey_shapes_1_v7_ok (N:Nat) (r:Unit) (h:g_survey_shapes_1_v7 N=some r):Sound Try.prog 35 [(aI 3),(.agg [(aI 4),(aI 2),(aI 0),(aB false),(aB false),(.sl 2 (fun zi=>([[(aI 2),(aI 2),(aI 1),(aB false),(aB false),.nil],[(aI 2),(aI 2),(aI 0),(aB false),(aB false),.nil]]:List (List AV)).getD zi []))]),(.op 0 0 0),(.op 1 0 0),(.op 2 0 0)] [(0,vO 1 [(aI 3)]),(1,vO 1 [(aI 3)]),(2,vN 1 [(.os 3 0 4)]),(3,⟨false,1,4,true,fun zi=>([[.nil],[(.sl 1 (fun zi=>([[(aI 2),(aI 2),(aI 0),(aB false),(aB false),.nil]]:List (List AV)).getD zi []))],[(.sl 1 (fun zi=>([[(aI 2),(aI 2),(aI 1),(aB false),(aB false),.nil]]:List (List AV)).getD zi []))],[.nil]]:List (List AV)).getD zi []⟩)] 4 (.tup []) [(0,vO 1 [(aI 3)]),(1,vO 1 [(aI 3)]),(2,vN 1 [(.os 3 0 4)]),(3,⟨false,1,4,true,fun zi=>([[.nil],[(.sl 1 (fun zi=>([[(aI 2),(aI 2),(aI 0),(aB false),(aB false),.nil]]:List (List AV)).getD zi []))],[(.sl 1 (fun zi=>([[(aI 2),(aI 2),(aI 1),(aB false),(aB false),.nil]]:List (List AV)).getD zi []))],[.nil]]:List (List AV)).getD zi []⟩)]:=by
 refine sO Try.f35 26 fun E hE=>?_
 refine rnP hE 1 qzd95 qzd148 20 (pc (Eq.refl 4) (pc (show ∀ zi,zi < 4→(fun zi=>([[.nil],[(.sl 1 (fun zi=>([[(aI 2),(aI 2),(aI 0),(aB false),(aB false),.nil]]:List (List AV)).getD zi []))],[(.sl 1 (fun zi=>([[(aI 2),(aI 2),(aI 1),(aB false),(aB false),.nil]]:List (List AV)).getD zi []))],[.nil]]:List (List AV)).getD zi []) zi=(fun zi=>([[.nil],[(.sl 1 (fun zi=>([[(aI 2),(aI 2),(aI 0),(aB false),(aB false),.nil]]:List (List AV)).getD zi []))],[(.sl 1 (fun zi=>([[(aI 2),(aI 2),(aI 1),(aB false),(aB false),.nil]]:List (List AV)).getD zi []))],[.nil]]:List (List AV)).getD zi []) zi from (allN (n:=4) ⟨⟨⟨⟨trivial,rfl⟩,rfl⟩,rfl⟩,rfl⟩)) pn)) ?_
 refine rnH hE 1 [(5,⟨[],true,(aB false),[],2,false,none⟩),(6,⟨[],true,(aB false),[],2,false,none⟩),(7,⟨[],true,(aB false),[],2,false,none⟩),(8,⟨[],true,(aB false),[],2,false,none⟩)] qzd99 qzd148 180 (pc o1 (pc o1 (pc (Eq.refl false) (pc (Eq.refl false) (pc (Eq.refl false) (pc (Eq.refl false) (pc (show false=true→AllP [false=true] from (fun hq=>absurd hq (by decide))) (pc (Eq.refl 4) (pc (show ∀ zi,zi < 4→(fun zi=>([[.nil],[(.sl 1 (fun zi=>([[(aI 2),(aI 2),(aI 0),(aB false),(aB false),.nil]]:List (List AV)).getD zi []))],[(.sl 1 (fun zi=>([[(aI 2),(aI 2),(aI 1),(aB false),(aB false),.nil]]:List (List AV)).getD zi []))],[.nil]]:List (List AV)).getD zi []) zi=(fun zi=>([[.nil],[(.sl 1 (fun zi=>([[(aI 2),(aI 2),(aI 0),(aB false),(aB false),.nil]]:List (List AV)).getD zi []))],[(.sl 1 (fun zi=>([[(aI 2),(aI 2),(aI 1),(aB false),(aB false),.nil]]:List (List AV)).getD zi []))],[.nil]]:List (List AV)).getD zi []) zi from (allN (n:=4) ⟨⟨⟨⟨trivial,rfl⟩,rfl⟩,rfl⟩,rfl⟩)) pn))))))))) ?_
 refine rnK0 0 16 ?_
 exact Runs.nF hE 1 Try.f35 [] [] qzd146 180 pn [] pn
theorem g_survey_shapes_1_v8_ok (N:Nat) (r:Unit) (h:g_survey_shapes_1_v8 N=some r):Sound Try.prog 35 [(aI 3),(.agg [(aI 2),(aI 4),(aI 0),(aB false),(aB true),(.sl 2 (fun zi=>([[(aI 2),(aI 2),(aI 1),(aB false),(aB false),.nil],[(aI 2),(aI 2),(aI 0),(aB false),(aB false),.nil]]:List (List AV)).getD zi []))]),(.op 0 0 0),(.op 1 0 0),(.op 2 0 0)] [(0,vO 1 [(aI 3)]),(1,vO 1 [(aI 3)]),(2,vN 1 [(.os 3 0 4)]),(3,⟨false,1,4,true,fun zi=>([[.nil],[(.sl 1 (fun zi=>([[(aI 2),(aI 2),(aI 0),(aB false),(aB false),.nil]]:List (List AV)).getD zi []))],[(.sl 1 (fun zi=>([[(aI 2),(aI 2),(aI 1),(aB false),(aB false),.nil]]:List (List AV)).getD zi []))],[.nil]]:List (List AV)).getD zi []⟩)] 4 (.tup []) [(0,vO 1 [(aI 3)]),(1,vO 1 [(aI 3)]),(2,vN 1 [(.os 3 0 4)]),(3,⟨false,1,4,true,fun zi=>([[.nil],[(.sl 1 (fun zi=>([[(aI 2),(aI 2),(aI 0),(aB false),(aB false),.nil]]:List (List AV)).getD zi []))],[(.sl 1 (fun zi=>([[(aI 2),(aI 2),(aI 1),(aB false),(aB false),.nil]]:List (List AV)).getD zi []))],[.nil]]:List (List AV)).getD zi []⟩)]:=by
 refine sO Try.f35 26 fun E hE=>?_
 refine rnP hE 1 qzd95 qzd148 20 (pc (Eq.refl 4) (pc (show ∀ zi,zi < 4→(fun zi=>([[.nil],[(.sl 1 (fun zi=>([[(aI 2),(aI 2),(aI 0),(aB false),(aB false),.nil]]:List (List AV)).getD zi []))],[(.sl 1 (fun zi=>([[(aI 2),(aI 2),(aI 1),(aB false),(aB false),.nil]]:List (List AV)).getD zi []))],[.nil]]:List (List AV)).getD zi []) zi=(fun zi=>([[.nil],[(.sl 1 (fun zi=>([[(aI 2),(aI 2),(aI 0),(aB false),(aB false),.nil]]:List (List AV)).getD zi []))],[(.sl 1 (fun zi=>([[(aI 2),(aI 2),(aI 1),(aB false),(aB false),.nil]]:List (List AV)).getD zi []))],[.nil]]:List (List AV)).getD zi []) zi from (allN (n:=4) ⟨⟨⟨⟨trivial,rfl⟩,rfl⟩,rfl⟩,rfl⟩)) pn)) ?_
 refine rnH hE 1 [(5,⟨[],true,.unk,[],1,false,none⟩),(6,⟨[],true,.unk,[],1,false,none⟩),(7,⟨[],true,.unk,[],1,false,none⟩),(8,⟨[],true,.unk,[],1,false,none⟩)] qzd99 qzd148 180 (pc o1 (pc o1 (pc (Eq.refl true) (pc (Eq.refl true) (pc o1 (pc (Eq.refl true) (pc o1 (pc (Eq.refl true) (pc (Eq.refl 4) (pc (show ∀ zi,zi < 4→(fun zi=>([[.nil],[(.sl 1 (fun zi=>([[(aI 2),(aI 2),(aI 0),(aB false),(aB false),.nil]]:List (List AV)).getD zi []))],[(.sl 1 (fun zi=>([[(aI 2),(aI 2),(aI 1),(aB false),(aB false),.nil]]:List (List AV)).getD zi []))],[.nil]]:List (List AV)).getD zi []) zi=(fun zi=>([[.nil],[(.sl 1 (fun zi=>([[(aI 2),(aI 2),(aI 0),(aB false),(aB false),.nil]]:List (List AV)).getD zi []))],[(.sl 1 (fun zi=>([[(aI 2),(aI 2),(aI 1),(aB false),(aB false),.nil]]:List (List AV)).getD zi []))],[.nil]]:List (List AV)).getD zi []) zi from (allN (n:=4) ⟨⟨⟨⟨trivial,rfl⟩,rfl⟩,rfl⟩,rfl⟩)) pn)))))))))) ?_
 refine rnK0 0 16 ?_
 exact Runs.nF hE 1 Try.f35 [] [] qzd146 180 pn [] pn
theorem g_survey_shapes_v2_ok (N:Nat) (r:Unit) (h:g_survey_shapes_v2 N=some r):Sound Try.prog 20 [(.sl 2 qzd77),(aI 3),(aI 3),(aI 0)] [] 0 (.sl 4 (fun zi=>([[.nil],[(.sl 1 (fun zi=>([[(aI 2),(aI 2),(aI 0),(aB false),(aB false),.nil]]:List (List AV)).getD zi []))],[(.sl 1 (fun zi=>([[(aI 2),(aI 2),(aI 1),(aB false),(aB false),.nil]]:List (List AV)).getD zi []))],[.nil]]:List (List AV)).getD zi [])) []:=by
 refine sO Try.f20 140 fun E hE=>?_
 refine rnZ hE 1 (kp [0,3,5,6]) qzd166 48 ?_
 refine rnP hE 1 (kp [0,3,5,6,9]) qzd165 144 (pc (show (0:Int)≤2 by decide) (pc (show 0≤(4:Int) by decide) (pc (show (4:Int)≤4 by decide) (pc (show (24:Int) * 4≤281474976710656 by decide) (pc (show (4:Int)≤9223372036854775807 by decide) (pc o1 (pc (Eq.refl 4) (pc (show ∀ zi,zi < 4→(fun zi=>([[.nil],[.nil],[.nil],[.nil]]:List (List AV)).getD zi []) zi=(fun _=>[.nil]) zi from (allN (n:=4) ⟨⟨⟨⟨trivial,rfl⟩,rfl⟩,rfl⟩,rfl⟩)) pn)))))))) ?_
 refine rnP hE 1 (kp [0,3,9,10]) qzd165 176 (pc (Eq.refl 4) (pc (show ∀ zi,zi < 4→(fun zi=>([[.nil],[.nil],[.nil],[.nil]]:List (List AV)).getD zi []) zi=(fun zi=>([[.nil],[.nil],[.nil],[.nil]]:List (List AV)).getD zi []) zi from (allN (n:=4) ⟨⟨⟨⟨trivial,rfl⟩,rfl⟩,rfl⟩,rfl⟩)) pn)) ?_
 refine rnP hE 2 qzd139 qzd165 224 (pc (Eq.refl 4) (pc (show ∀ zi,zi < 4→(fun zi=>([[.nil],[.nil],[.nil],[.nil]]:List (List AV)).getD zi []) zi=(fun zi=>([[.nil],[.nil],[.nil],[.nil]]:List (List AV)).getD zi []) zi from (allN (n:=4) ⟨⟨⟨⟨trivial,rfl⟩,rfl⟩,rfl⟩,rfl⟩)) pn)) ?_
 refine rnP hE 3 qzd138 qzd165 240 (pc (Eq.refl 4) (pc (show ∀ zi,zi < 4→(fun zi=>([[.nil],[.nil],[.nil],[.nil]]:List (List AV)).getD zi []) zi=(fun zi=>([[.nil],[.nil],[.nil],[.nil]]:List (List AV)).getD zi []) zi from (allN (n:=4) ⟨⟨⟨⟨trivial,rfl⟩,rfl⟩,rfl⟩,rfl⟩)) pn)) ?_
 refine rnK1 1 27 ?_
 refine rnP hE 4 qzd126 qzd164 336 (pc (show 0≤(0:Int)∧(0:Int) < ((2:Nat):Int) by decide) (pc o1 (pc (Eq.refl 4) (pc (show ∀ zi,zi < 4→(fun zi=>([[.nil],[.nil],[.nil],[.nil]]:List (List AV)).getD zi []) zi=(fun zi=>([[.nil],[.nil],[.nil],[.nil]]:List (List AV)).getD zi []) zi from (allN (n:=4) ⟨⟨⟨⟨trivial,rfl⟩,rfl⟩,rfl⟩,rfl⟩)) pn)))) ?_
 refine rnH hE 1 [(9,⟨[0,16,112,96],false,(.tup []),[(0,vO 1 [(aI 3)]),(1,vO 1 [(aI 3)]),(2,vN 1 [(.os 3 0 4)]),(3,⟨false,1,4,true,fun zi=>([[.nil],[(.sl 1 (fun zi=>([[(aI 2),(aI 2),(aI 0),(aB false),(aB false),.nil]]:List (List AV)).getD zi []))],[.nil],[.nil]]:List (List AV)).getD zi []⟩)],0,false,none⟩)] qzd126 qzd161 496 (pc (show (0:Int)≤0 by decide) (pc o1 (pc o1 (pc (g_survey_shapes_1_v5_ok N () rfl) (pc (Eq.refl 4) (pc (show ∀ zi,zi < 4→(fun zi=>([[.nil],[(.sl 1 (fun zi=>([[(aI 2),(aI 2),(aI 0),(aB false),(aB false),.nil]]:List (List AV)).getD zi []))],[.nil],[.nil]]:List (List AV)).getD zi []) zi=(fun zi=>([[.nil],[(.sl 1 (fun zi=>([[(aI 2),(aI 2),(aI 0),(aB false),(aB false),.nil]]:List (List AV)).getD zi []))],[.nil],[.nil]]:List (List AV)).getD zi []) zi from (allN (n:=4) ⟨⟨⟨⟨trivial,rfl⟩,rfl⟩,rfl⟩,rfl⟩)) pn)))))) ?_
 refine rnP hE 1 qzd125 qzd161 528 (pc o1 (pc (Eq.refl 4) (pc (show ∀ zi,zi < 4→(fun zi=>([[.nil],[(.sl 1 (fun zi=>([[(aI 2),(aI 2),(aI 0),(aB false),(aB false),.nil]]:List (List AV)).getD zi []))],[.nil],[.nil]]:List (List AV)).getD zi []) zi=(fun zi=>([[.nil],[(.sl 1 (fun zi=>([[(aI 2),(aI 2),(aI 0),(aB false),(aB false),.nil]]:List (List AV)).getD zi []))],[.nil],[.nil]]:List (List AV)).getD zi []) zi from (allN (n:=4) ⟨⟨⟨⟨trivial,rfl⟩,rfl⟩,rfl⟩,rfl⟩)) pn))) ?_
 refine rnK0 0 42 ?_
 refine rnP hE 2 qzd139 qzd163 560 (pc (Eq.refl 4) (pc (show ∀ zi,zi < 4→(fun zi=>([[.nil],[(.sl 1 (fun zi=>([[(aI 2),(aI 2),(aI 0),(aB false),(aB false),.nil]]:List (List AV)).getD zi []))],[.nil],[.nil]]:List (List AV)).getD zi []) zi=(fun zi=>([[.nil],[(.sl 1 (fun zi=>([[(aI 2),(aI 2),(aI 0),(aB false),(aB false),.nil]]:List (List AV)).getD zi []))],[.nil],[.nil]]:List (List AV)).getD zi []) zi from (allN (n:=4) ⟨⟨⟨⟨trivial,rfl⟩,rfl⟩,rfl⟩,rfl⟩)) pn)) ?_
 refine rnP hE 2 qzd138 qzd163 576 (pc (Eq.refl 4) (pc (show ∀ zi,zi < 4→(fun zi=>([[.nil],[(.sl 1 (fun zi=>([[(aI 2),(aI 2),(aI 0),(aB false),(aB false),.nil]]:List (List AV)).getD zi []))],[.nil],[.nil]]:List (List AV)).getD zi []) zi=(fun zi=>([[.nil],[(.sl 1 (fun zi=>([[(aI 2),(aI 2),(aI 0),(aB false),(aB false),.nil]]:List (List AV)).getD zi []))],[.nil],[.nil]]:List (List AV)).getD zi []) zi from (allN (n:=4) ⟨⟨⟨⟨trivial,rfl⟩,rfl⟩,rfl⟩,rfl⟩)) pn)) ?_
 refine rnK1 1 27 ?_
 refine rnP hE 4 qzd126 qzd162 672 (pc (show 0≤(1:Int)∧(1:Int) < ((2:Nat):Int) by decide) (pc o1 (pc (Eq.refl 4) (pc (show ∀ zi,zi < 4→(fun zi=>([[.nil],[(.sl 1 (fun zi=>([[(aI 2),(aI 2),(aI 0),(aB false),(aB false),.nil]]:List (List AV)).getD zi []))],[.nil],[.nil]]:List (List AV)).getD zi []) zi=(fun zi=>([[.nil],[(.sl 1 (fun zi=>([[(aI 2),(aI 2),(aI 0),(aB false),(aB false),.nil]]:List (List AV)).getD zi []))],[.nil],[.nil]]:List (List AV)).getD zi []) zi from (allN (n:=4) ⟨⟨⟨⟨trivial,rfl⟩,rfl⟩,rfl⟩,rfl⟩)) pn)))) ?_
 refine rnH hE 1 [(9,⟨[0,16,112,96],false,(.tup []),[(0,vO 1 [(aI 3)]),(1,vO 1 [(aI 3)]),(2,vN 1 [(.os 3 0 4)]),(3,⟨false,1,4,true,fun zi=>([[.nil],[(.sl 1 (fun zi=>([[(aI 2),(aI 2),(aI 0),(aB false),(aB false),.nil]]:List (List AV)).getD zi []))],[(.sl 1 (fun zi=>([[(aI 2),(aI 2),(aI 1),(aB false),(aB false),.nil]]:List (List AV)).getD zi []))],[.nil]]:List (List AV)).getD zi []⟩)],0,false,none⟩)] qzd126 qzd159 832 (pc (show (0:Int)≤1 by decide) (pc o1 (pc o1 (pc (g_survey_shapes_1_v6_ok N () rfl) (pc (Eq.refl 4) (pc (show ∀ zi,zi < 4→(fun zi=>([[.nil],[(.sl 1 (fun zi=>([[(aI 2),(aI 2),(aI 0),(aB false),(aB false),.nil]]:List (List AV)).getD zi []))],[(.sl 1 (fun zi=>([[(aI 2),(aI 2),(aI 1),(aB false),(aB false),.nil]]:List (List AV)).getD zi []))],[.nil]]:List (List AV)).getD zi []) zi=(fun zi=>([[.nil],[(.sl 1 (fun zi=>([[(aI 2),(aI 2),(aI 0),(aB false),(aB false),.nil]]:List (List AV)).getD zi []))],[(.sl 1 (fun zi=>([[(aI 2),(aI 2),(aI 1),(aB false),(aB false),.nil]]:List (List AV)).getD zi []))],[.nil]]:List (List AV)).getD zi []) zi from (allN (n:=4) ⟨⟨⟨⟨trivial,rfl⟩,rfl⟩,rfl⟩,rfl⟩)) pn)))))) ?_
 refine rnP hE 1 qzd125 qzd159 864 (pc o1 (pc (Eq.refl 4) (pc (show ∀ zi,zi < 4→(fun zi=>([[.nil],[(.sl 1 (fun zi=>([[(aI 2),(aI 2),(aI 0),(aB false),(aB false),.nil]]:List (List AV)).getD zi []))],[(.sl 1 (fun zi=>([[(aI 2),(aI 2),(aI 1),(aB false),(aB false),.nil]]:List (List AV)).getD zi []))],[.nil]]:List (List AV)).getD zi []) zi=(fun zi=>([[.nil],[(.sl 1 (fun zi=>([[(aI 2),(aI 2),(aI 0),(aB false),(aB false),.nil]]:List (List AV)).getD zi []))],[(.sl 1 (fun zi=>([[(aI 2),(aI 2),(aI 1),(aB false),(aB false),.nil]]:List (List AV)).getD zi []))],[.nil]]:List (List AV)).getD zi []) zi from (allN (n:=4) ⟨⟨⟨⟨trivial,rfl⟩,rfl⟩,rfl⟩,rfl⟩)) pn))) ?_
 refine rnK0 0 42 ?_
 refine rnP hE 2 qzd139 qzd160 896 (pc (Eq.refl 4) (pc (show ∀ zi,zi < 4→(fun zi=>([[.nil],[(.sl 1 (fun zi=>([[(aI 2),(aI 2),(aI 0),(aB false),(aB false),.nil]]:List (List AV)).getD zi []))],[(.sl 1 (fun zi=>([[(aI 2),(aI 2),(aI 1),(aB false),(aB false),.nil]]:List (List AV)).getD zi []))],[.nil]]:List (List AV)).getD zi []) zi=(fun zi=>([[.nil],[(.sl 1 (fun zi=>([[(aI 2),(aI 2),(aI 0),(aB false),(aB false),.nil]]:List (List AV)).getD zi []))],[(.sl 1 (fun zi=>([[(aI 2),(aI 2),(aI 1),(aB false),(aB false),.nil]]:List (List AV)).getD zi []))],[.nil]]:List (List AV)).getD zi []) zi from (allN (n:=4) ⟨⟨⟨⟨trivial,rfl⟩,rfl⟩,rfl⟩,rfl⟩)) pn)) ?_
 refine rnP hE 2 qzd138 qzd160 912 (pc (Eq.refl 4) (pc (show ∀ zi,zi < 4→(fun zi=>([[.nil],[(.sl 1 (fun zi=>([[(aI 2),(aI 2),(aI 0),(aB false),(aB false),.nil]]:List (List AV)).getD zi []))],[(.sl 1 (fun zi=>([[(aI 2),(aI 2),(aI 1),(aB false),(aB false),.nil]]:List (List AV)).getD zi []))],[.nil]]:List (List AV)).getD zi []) zi=(fun zi=>([[.nil],[(.sl 1 (fun zi=>([[(aI 2),(aI 2),(aI 0),(aB false),(aB false),.nil]]:List (List AV)).getD zi []))],[(.sl 1 (fun zi=>([[(aI 2),(aI 2),(aI 1),(aB false),(aB false),.nil]]:List (List AV)).getD zi []))],[.nil]]:List (List AV)).getD zi []) zi from (allN (n:=4) ⟨⟨⟨⟨trivial,rfl⟩,rfl⟩,rfl⟩,rfl⟩)) pn)) ?_
 refine rnK0 1 27 ?_
 refine rnP hE 3 qzd141 qzd160 960 (pc o1 (pc (Eq.refl 4) (pc (show ∀ zi,zi < 4→(fun zi=>([[.nil],[(.sl 1 (fun zi=>([[(aI 2),(aI 2),(aI 0),(aB false),(aB false),.nil]]:List (List AV)).getD zi []))],[(.sl 1 (fun zi=>([[(aI 2),(aI 2),(aI 1),(aB false),(aB false),.nil]]:List (List AV)).getD zi []))],[.nil]]:List (List AV)).getD zi []) zi=(fun zi=>([[.nil],[(.sl 1 (fun zi=>([[(aI 2),(aI 2),(aI 0),(aB false),(aB false),.nil]]:List (List AV)).getD zi []))],[(.sl 1 (fun zi=>([[(aI 2),(aI 2),(aI 1),(aB false),(aB false),.nil]]:List (List AV)).getD zi []))],[.nil]]:List (List AV)).getD zi []) zi from (allN (n:=4) ⟨⟨⟨⟨trivial,rfl⟩,rfl⟩,rfl⟩,rfl⟩)) pn))) ?_
 refine rnP hE 3 qzd140 qzd160 976 (pc (Eq.refl 4) (pc (show ∀ zi,zi < 4→(fun zi=>([[.nil],[(.sl 1 (fun zi=>([[(aI 2),(aI 2),(aI 0),(aB false),(aB false),.nil]]:List (List AV)).getD zi []))],[(.sl 1 (fun zi=>([[(aI 2),(aI 2),(aI 1),(aB false),(aB false),.nil]]:List (List AV)).getD zi []))],[.nil]]:List (List AV)).getD zi []) zi=(fun zi=>([[.nil],[(.sl 1 (fun zi=>([[(aI 2),(aI 2),(aI 0),(aB false),(aB false),.nil]]:List (List AV)).getD zi []))],[(.sl 1 (fun zi=>([[(aI 2),(aI 2),(aI 1),(aB false),(aB false),.nil]]:List (List AV)).getD zi []))],[.nil]]:List (List AV)).getD zi []) zi from (allN (n:=4) ⟨⟨⟨⟨trivial,rfl⟩,rfl⟩,rfl⟩,rfl⟩)) pn)) ?_
 refine rnK1 1 57 ?_
 refine rnP hE 4 qzd137 qzd160 1008 (pc (Eq.refl 4) (pc (show ∀ zi,zi < 4→(fun zi=>([[.nil],[(.sl 1 (fun zi=>([[(aI 2),(aI 2),(aI 0),(aB false),(aB false),.nil]]:List (List AV)).getD zi []))],[(.sl 1 (fun zi=>([[(aI 2),(aI 2),(aI 1),(aB false),(aB false),.nil]]:List (List AV)).getD zi []))],[.nil]]:List (List AV)).getD zi []) zi=(fun zi=>([[.nil],[(.sl 1 (fun zi=>([[(aI 2),(aI 2),(aI 0),(aB false),(aB false),.nil]]:List (List AV)).getD zi []))],[(.sl 1 (fun zi=>([[(aI 2),(aI 2),(aI 1),(aB false),(aB false),.nil]]:List (List AV)).getD zi []))],[.nil]]:List (List AV)).getD zi []) zi from (allN (n:=4) ⟨⟨⟨⟨trivial,rfl⟩,rfl⟩,rfl⟩,rfl⟩)) pn)) ?_
 refine rnH hE 2 [(2,⟨[],true,(aI 0),[],0,false,none⟩)] qzd136 qzd160 1072 (pc (g_math_bits_OnesCount_ok N () rfl) (pc (Eq.refl 4) (pc (show ∀ zi,zi < 4→(fun zi=>([[.nil],[(.sl 1 (fun zi=>([[(aI 2),(aI 2),(aI 0),(aB false),(aB false),.nil]]:List (List AV)).getD zi []))],[(.sl 1 (fun zi=>([[(aI 2),(aI 2),(aI 1),(aB false),(aB false),.nil]]:List (List AV)).getD zi []))],[.nil]]:List (List AV)).getD zi []) zi=(fun zi=>([[.nil],[(.sl 1 (fun zi=>([[(aI 2),(aI 2),(aI 0),(aB false),(aB false),.nil]]:List (List AV)).getD zi []))],[(.sl 1 (fun zi=>([[(aI 2),(aI 2),(aI 1),(aB false),(aB false),.nil]]:List (List AV)).getD zi []))],[.nil]]:List (List AV)).getD zi []) zi from (allN (n:=4) ⟨⟨⟨⟨trivial,rfl⟩,rfl⟩,rfl⟩,rfl⟩)) pn))) ?_
 refine rnK1 0 62 ?_
 refine rnP hE 1 qzd141 qzd160 1104 (pc (Eq.refl 4) (pc (show ∀ zi,zi < 4→(fun zi=>([[.nil],[(.sl 1 (fun zi=>([[(aI 2),(aI 2),(aI 0),(aB false),(aB false),.nil]]:List (List AV)).getD zi []))],[(.sl 1 (fun zi=>([[(aI 2),(aI 2),(aI 1),(aB false),(aB false),.nil]]:List (List AV)).getD zi []))],[.nil]]:List (List AV)).getD zi []) zi=(fun zi=>([[.nil],[(.sl 1 (fun zi=>([[(aI 2),(aI 2),(aI 0),(aB false),(aB false),.nil]]:List (List AV)).getD zi []))],[(.sl 1 (fun zi=>([[(aI 2),(aI 2),(aI 1),(aB false),(aB false),.nil]]:List (List AV)).getD zi []))],[.nil]]:List (List AV)).getD zi []) zi from (allN (n:=4) ⟨⟨⟨⟨trivial,rfl⟩,rfl⟩,rfl⟩,rfl⟩)) pn)) ?_
 refine rnP hE 2 qzd140 qzd160 1120 (pc (Eq.refl 4) (pc (show ∀ zi,zi < 4→(fun zi=>([[.nil],[(.sl 1 (fun zi=>([[(aI 2),(aI 2),(aI 0),(aB false),(aB false),.nil]]:List (List AV)).getD zi []))],[(.sl 1 (fun zi=>([[(aI 2),(aI 2),(aI 1),(aB false),(aB false),.nil]]:List (List AV)).getD zi []))],[.nil]]:List (List AV)).getD zi []) zi=(fun zi=>([[.nil],[(.sl 1 (fun zi=>([[(aI 2),(aI 2),(aI 0),(aB false),(aB false),.nil]]:List (List AV)).getD zi []))],[(.sl 1 (fun zi=>([[(aI 2),(aI 2),(aI 1),(aB false),(aB false),.nil]]:List (List AV)).getD zi []))],[.nil]]:List (List AV)).getD zi []) zi from (allN (n:=4) ⟨⟨⟨⟨trivial,rfl⟩,rfl⟩,rfl⟩,rfl⟩)) pn)) ?_
 refine rnK1 1 57 ?_
 refine rnP hE 4 qzd137 qzd160 1152 (pc (Eq.refl 4) (pc (show ∀ zi,zi < 4→(fun zi=>([[.nil],[(.sl 1 (fun zi=>([[(aI 2),(aI 2),(aI 0),(aB false),(aB false),.nil]]:List (List AV)).getD zi []))],[(.sl 1 (fun zi=>([[(aI 2),(aI 2),(aI 1),(aB false),(aB false),.nil]]:List (List AV)).getD zi []))],[.nil]]:List (List AV)).getD zi []) zi=(fun zi=>([[.nil],[(.sl 1 (fun zi=>([[(aI 2),(aI 2),(aI 0),(aB false),(aB false),.nil]]:List (List AV)).getD zi []))],[(.sl 1 (fun zi=>([[(aI 2),(aI 2),(aI 1),(aB false),(aB false),.nil]]:List (List AV)).getD zi []))],[.nil]]:List (List AV)).getD zi []) zi from (allN (n:=4) ⟨⟨⟨⟨trivial,rfl⟩,rfl⟩,rfl⟩,rfl⟩)) pn)) ?_
 refine rnH hE 2 [(2,⟨[],true,(aI 1),[],0,false,none⟩)] qzd136 qzd160 1216 (pc (g_math_bits_OnesCount_v2_ok N () rfl) (pc (Eq.refl 4) (pc (show ∀ zi,zi < 4→(fun zi=>([[.nil],[(.sl 1 (fun zi=>([[(aI 2),(aI 2),(aI 0),(aB false),(aB false),.nil]]:List (List AV)).getD zi []))],[(.sl 1 (fun zi=>([[(aI 2),(aI 2),(aI 1),(aB false),(aB false),.nil]]:List (List AV)).getD zi []))],[.nil]]:List (List AV)).getD zi []) zi=(fun zi=>([[.nil],[(.sl 1 (fun zi=>([[(aI 2),(aI 2),(aI 0),(aB false),(aB false),.nil]]:List (List AV)).getD zi []))],[(.sl 1 (fun zi=>([[(aI 2),(aI 2),(aI 1),(aB false),(aB false),.nil]]:List (List AV)).getD zi []))],[.nil]]:List (List AV)).getD zi []) zi from (allN (n:=4) ⟨⟨⟨⟨trivial,rfl⟩,rfl⟩,rfl⟩,rfl⟩)) pn))) ?_
 refine rnK1 0 62 ?_
 refine rnP hE 1 qzd141 qzd160 1248 (pc (Eq.refl 4) (pc (show ∀ zi,zi < 4→(fun zi=>([[.nil],[(.sl 1 (fun zi=>([[(aI 2),(aI 2),(aI 0),(aB false),(aB false),.nil]]:List (List AV)).getD zi []))],[(.sl 1 (fun zi=>([[(aI 2),(aI 2),(aI 1),(aB false),(aB false),.nil]]:List (List AV)).getD zi []))],[.nil]]:List (List AV)).getD zi []) zi=(fun zi=>([[.nil],[(.sl 1 (fun zi=>([[(aI 2),(aI 2),(aI 0),(aB false),(aB false),.nil]]:List (List AV)).getD zi []))],[(.sl 1 (fun zi=>([[(aI 2),(aI 2),(aI 1),(aB false),(aB false),.nil]]:List (List AV)).getD zi []))],[.nil]]:List (List AV)).getD zi []) zi from (allN (n:=4) ⟨⟨⟨⟨trivial,rfl⟩,rfl⟩,rfl⟩,rfl⟩)) pn)) ?_
 refine rnP hE 2 qzd140 qzd160 1264 (pc (Eq.refl 4) (pc (show ∀ zi,zi < 4→(fun zi=>([[.nil],[(.sl 1 (fun zi=>([[(aI 2),(aI 2),(aI 0),(aB false),(aB false),.nil]]:List (List AV)).getD zi []))],[(.sl 1 (fun zi=>([[(aI 2),(aI 2),(aI 1),(aB false),(aB false),.nil]]:List (List AV)).getD zi []))],[.nil]]:List (List AV)).getD zi []) zi=(fun zi=>([[.nil],[(.sl 1 (fun zi=>([[(aI 2),(aI 2),(aI 0),(aB false),(aB false),.nil]]:List (List AV)).getD zi []))],[(.sl 1 (fun zi=>([[(aI 2),(aI 2),(aI 1),(aB false),(aB false),.nil]]:List (List AV)).getD zi []))],[.nil]]:List (List AV)).getD zi []) zi from (allN (n:=4) ⟨⟨⟨⟨trivial,rfl⟩,rfl⟩,rfl⟩,rfl⟩)) pn)) ?_
 refine rnK1 1 57 ?_
 refine rnP hE 4 qzd137 qzd160 1296 (pc (Eq.refl 4) (pc (show ∀ zi,zi < 4→(fun zi=>([[.nil],[(.sl 1 (fun zi=>([[(aI 2),(aI 2),(aI 0),(aB false),(aB false),.nil]]:List (List AV)).getD zi []))],[(.sl 1 (fun zi=>([[(aI 2),(aI 2),(aI 1),(aB false),(aB false),.nil]]:List (List AV)).getD zi []))],[.nil]]:List (List AV)).getD zi []) zi=(fun zi=>([[.nil],[(.sl 1 (fun zi=>([[(aI 2),(aI 2),(aI 0),(aB false),(aB false),.nil]]:List (List AV)).getD zi []))],[(.sl 1 (fun zi=>([[(aI 2),(aI 2),(aI 1),(aB false),(aB false),.nil]]:List (List AV)).getD zi []))],[.nil]]:List (List AV)).getD zi []) zi from (allN (n:=4) ⟨⟨⟨⟨trivial,rfl⟩,rfl⟩,rfl⟩,rfl⟩)) pn)) ?_
 refine rnH hE 2 [(2,⟨[],true,(aI 1),[],0,false,none⟩)] qzd136 qzd160 1360 (pc (g_math_bits_OnesCount_v3_ok N () rfl) (pc (Eq.refl 4) (pc (show ∀ zi,zi < 4→(fun zi=>([[.nil],[(.sl 1 (fun zi=>([[(aI 2),(aI 2),(aI 0),(aB false),(aB false),.nil]]:List (List AV)).getD zi []))],[(.sl 1 (fun zi=>([[(aI 2),(aI 2),(aI 1),(aB false),(aB false),.nil]]:List (List AV)).getD zi []))],[.nil]]:List (List AV)).getD zi []) zi=(fun zi=>([[.nil],[(.sl 1 (fun zi=>([[(aI 2),(aI 2),(aI 0),(aB false),(aB false),.nil]]:List (List AV)).getD zi []))],[(.sl 1 (fun zi=>([[(aI 2),(aI 2),(aI 1),(aB false),(aB false),.nil]]:List (List AV)).getD zi []))],[.nil]]:List (List AV)).getD zi []) zi from (allN (n:=4) ⟨⟨⟨⟨trivial,rfl⟩,rfl⟩,rfl⟩,rfl⟩)) pn))) ?_
 refine rnK1 0 62 ?_
 refine rnP hE 1 qzd141 qzd160 1392 (pc (Eq.refl 4) (pc (show ∀ zi,zi < 4→(fun zi=>([[.nil],[(.sl 1 (fun zi=>([[(aI 2),(aI 2),(aI 0),(aB false),(aB false),.nil]]:List (List AV)).getD zi []))],[(.sl 1 (fun zi=>([[(aI 2),(aI 2),(aI 1),(aB false),(aB false),.nil]]:List (List AV)).getD zi []))],[.nil]]:List (List AV)).getD zi []) zi=(fun zi=>([[.nil],[(.sl 1 (fun zi=>([[(aI 2),(aI 2),(aI 0),(aB false),(aB false),.nil]]:List (List AV)).getD zi []))],[(.sl 1 (fun zi=>([[(aI 2),(aI 2),(aI 1),(aB false),(aB false),.nil]]:List (List AV)).getD zi []))],[.nil]]:List (List AV)).getD zi []) zi from (allN (n:=4) ⟨⟨⟨⟨trivial,rfl⟩,rfl⟩,rfl⟩,rfl⟩)) pn)) ?_
 refine rnP hE 2 qzd140 qzd160 1408 (pc (Eq.refl 4) (pc (show ∀ zi,zi < 4→(fun zi=>([[.nil],[(.sl 1 (fun zi=>([[(aI 2),(aI 2),(aI 0),(aB false),(aB false),.nil]]:List (List AV)).getD zi []))],[(.sl 1 (fun zi=>([[(aI 2),(aI 2),(aI 1),(aB false),(aB false),.nil]]:List (List AV)).getD zi []))],[.nil]]:List (List AV)).getD zi []) zi=(fun zi=>([[.nil],[(.sl 1 (fun zi=>([[(aI 2),(aI 2),(aI 0),(aB false),(aB false),.nil]]:List (List AV)).getD zi []))],[(.sl 1 (fun zi=>([[(aI 2),(aI 2),(aI 1),(aB false),(aB false),.nil]]:List (List AV)).getD zi []))],[.nil]]:List (List AV)).getD zi []) zi from (allN (n:=4) ⟨⟨⟨⟨trivial,rfl⟩,rfl⟩,rfl⟩,rfl⟩)) pn)) ?_
 refine rnK1 1 57 ?_
 refine rnP hE 4 qzd137 qzd160 1440 (pc (Eq.refl 4) (pc (show ∀ zi,zi < 4→(fun zi=>([[.nil],[(.sl 1 (fun zi=>([[(aI 2),(aI 2),(aI 0),(aB false),(aB false),.nil]]:List (List AV)).getD zi []))],[(.sl 1 (fun zi=>([[(aI 2),(aI 2),(aI 1),(aB false),(aB false),.nil]]:List (List AV)).getD zi []))],[.nil]]:List (List AV)).getD zi []) zi=(fun zi=>([[.nil],[(.sl 1 (fun zi=>([[(aI 2),(aI 2),(aI 0),(aB false),(aB false),.nil]]:List (List AV)).getD zi []))],[(.sl 1 (fun zi=>([[(aI 2),(aI 2),(aI 1),(aB false),(aB false),.nil]]:List (List AV)).getD zi []))],[.nil]]:List (List AV)).getD zi []) zi from (allN (n:=4) ⟨⟨⟨⟨trivial,rfl⟩,rfl⟩,rfl⟩,rfl⟩)) pn)) ?_
 refine rnH hE 2 [(2,⟨[],true,(aI 2),[],0,false,none⟩)] qzd136 qzd160 1504 (pc (g_math_bits_OnesCount_v4_ok N () rfl) (pc (Eq.refl 4) (pc (show ∀ zi,zi < 4→(fun zi=>([[.nil],[(.sl 1 (fun zi=>([[(aI 2),(aI 2),(aI 0),(aB false),(aB false),.nil]]:List (List AV)).getD zi []))],[(.sl 1 (fun zi=>([[(aI 2),(aI 2),(aI 1),(aB false),(aB false),.nil]]:List (List AV)).getD zi []))],[.nil]]:List (List AV)).getD zi []) zi=(fun zi=>([[.nil],[(.sl 1 (fun zi=>([[(aI 2),(aI 2),(aI 0),(aB false),(aB false),.nil]]:List (List AV)).getD zi []))],[(.sl 1 (fun zi=>([[(aI 2),(aI 2),(aI 1),(aB false),(aB false),.nil]]:List (List AV)).getD zi []))],[.nil]]:List (List AV)).getD zi []) zi from (allN (n:=4) ⟨⟨⟨⟨trivial,rfl⟩,rfl⟩,rfl⟩,rfl⟩)) pn))) ?_
 refine rnK0 0 62 ?_
 refine rnP hE 2 qzd135 qzd160 1584 (pc (Eq.refl 4) (pc (show ∀ zi,zi < 4→(fun zi=>([[.nil],[(.sl 1 (fun zi=>([[(aI 2),(aI 2),(aI 0),(aB false),(aB false),.nil]]:List (List AV)).getD zi []))],[(.sl 1 (fun zi=>([[(aI 2),(aI 2),(aI 1),(aB false),(aB false),.nil]]:List (List AV)).getD zi []))],[.nil]]:List (List AV)).getD zi []) zi=(fun zi=>([[.nil],[(.sl 1 (fun zi=>([[(aI 2),(aI 2),(aI 0),(aB false),(aB false),.nil]]:List (List AV)).getD zi []))],[(.sl 1 (fun zi=>([[(aI 2),(aI 2),(aI 1),(aB false),(aB false),.nil]]:List (List AV)).getD zi []))],[.nil]]:List (List AV)).getD zi []) zi from (allN (n:=4) ⟨⟨⟨⟨trivial,rfl⟩,rfl⟩,rfl⟩,rfl⟩)) pn)) ?_
 refine rnP hE 4 qzd131 qzd160 1616 (pc (Eq.refl 4) (pc (show ∀ zi,zi < 4→(fun zi=>([[.nil],[(.sl 1 (fun zi=>([[(aI 2),(aI 2),(aI 0),(aB false),(aB false),.nil]]:List (List AV)).getD zi []))],[(.sl 1 (fun zi=>([[(aI 2),(aI 2),(aI 1),(aB false),(aB false),.nil]]:List (List AV)).getD zi []))],[.nil]]:List (List AV)).getD zi []) zi=(fun zi=>([[.nil],[(.sl 1 (fun zi=>([[(aI 2),(aI 2),(aI 0),(aB false),(aB false),.nil]]:List (List AV)).getD zi []))],[(.sl 1 (fun zi=>([[(aI 2),(aI 2),(aI 1),(aB false),(aB false),.nil]]:List (List AV)).getD zi []))],[.nil]]:List (List AV)).getD zi []) zi from (allN (n:=4) ⟨⟨⟨⟨trivial,rfl⟩,rfl⟩,rfl⟩,rfl⟩)) pn)) ?_
 refine rnK1 0 68 ?_
 refine rnP hE 5 qzd132 qzd160 1696 (pc (Eq.refl 4) (pc (show ∀ zi,zi < 4→(fun zi=>([[.nil],[(.sl 1 (fun zi=>([[(aI 2),(aI 2),(aI 0),(aB false),(aB false),.nil]]:List (List AV)).getD zi []))],[(.sl 1 (fun zi=>([[(aI 2),(aI 2),(aI 1),(aB false),(aB false),.nil]]:List (List AV)).getD zi []))],[.nil]]:List (List AV)).getD zi []) zi=(fun zi=>([[.nil],[(.sl 1 (fun zi=>([[(aI 2),(aI 2),(aI 0),(aB false),(aB false),.nil]]:List (List AV)).getD zi []))],[(.sl 1 (fun zi=>([[(aI 2),(aI 2),(aI 1),(aB false),(aB false),.nil]]:List (List AV)).getD zi []))],[.nil]]:List (List AV)).getD zi []) zi from (allN (n:=4) ⟨⟨⟨⟨trivial,rfl⟩,rfl⟩,rfl⟩,rfl⟩)) pn)) ?_
 refine rnK0 0 77 ?_
 refine rnP hE 2 qzd134 qzd160 1792 (pc o1 (pc (show 0≤(2:Int)∧(2:Int) < ((4:Nat):Int) by decide) (pc (show 2 < 4 by decide) (pc (Eq.refl 4) (pc (show ∀ zi,zi < 4→(fun zi=>([[.nil],[(.sl 1 (fun zi=>([[(aI 2),(aI 2),(aI 0),(aB false),(aB false),.nil]]:List (List AV)).getD zi []))],[(.sl 1 (fun zi=>([[(aI 2),(aI 2),(aI 1),(aB false),(aB false),.nil]]:List (List AV)).getD zi []))],[.nil]]:List (List AV)).getD zi []) zi=(fun zi=>([[.nil],[(.sl 1 (fun zi=>([[(aI 2),(aI 2),(aI 0),(aB false),(aB false),.nil]]:List (List AV)).getD zi []))],[(.sl 1 (fun zi=>([[(aI 2),(aI 2),(aI 1),(aB false),(aB false),.nil]]:List (List AV)).getD zi []))],[.nil]]:List (List AV)).getD zi []) zi from (allN (n:=4) ⟨⟨⟨⟨trivial,rfl⟩,rfl⟩,rfl⟩,rfl⟩)) pn))))) ?_
 refine rnP hE 3 qzd133 qzd160 1808 (pc (Eq.refl 4) (pc (show ∀ zi,zi < 4→(fun zi=>([[.nil],[(.sl 1 (fun zi=>([[(aI 2),(aI 2),(aI 0),(aB false),(aB false),.nil]]:List (List AV)).getD zi []))],[(.sl 1 (fun zi=>([[(aI 2),(aI 2),(aI 1),(aB false),(aB false),.nil]]:List (List AV)).getD zi []))],[.nil]]:List (List AV)).getD zi []) zi=(fun zi=>([[.nil],[(.sl 1 (fun zi=>([[(aI 2),(aI 2),(aI 0),(aB false),(aB false),.nil]]:List (List AV)).getD zi []))],[(.sl 1 (fun zi=>([[(aI 2),(aI 2),(aI 1),(aB false),(aB false),.nil]]:List (List AV)).getD zi []))],[.nil]]:List (List AV)).getD zi []) zi from (allN (n:=4) ⟨⟨⟨⟨trivial,rfl⟩,rfl⟩,rfl⟩,rfl⟩)) pn)) ?_
 refine rnK1 1 84 ?_
 refine rnP hE 4 qzd130 qzd158 1872 (pc (show 0≤(0:Int)∧(0:Int) < ((1:Nat):Int) by decide) (pc o1 (pc (Eq.refl 4) (pc (show ∀ zi,zi < 4→(fun zi=>([[.nil],[(.sl 1 (fun zi=>([[(aI 2),(aI 2),(aI 0),(aB false),(aB false),.nil]]:List (List AV)).getD zi []))],[(.sl 1 (fun zi=>([[(aI 2),(aI 2),(aI 1),(aB false),(aB false),.nil]]:List (List AV)).getD zi []))],[.nil]]:List (List AV)).getD zi []) zi=(fun zi=>([[.nil],[(.sl 1 (fun zi=>([[(aI 2),(aI 2),(aI 0),(aB false),(aB false),.nil]]:List (List AV)).getD zi []))],[(.sl 1 (fun zi=>([[(aI 2),(aI 2),(aI 1),(aB false),(aB false),.nil]]:List (List AV)).getD zi []))],[.nil]]:List (List AV)).getD zi []) zi from (allN (n:=4) ⟨⟨⟨⟨trivial,rfl⟩,rfl⟩,rfl⟩,rfl⟩)) pn)))) ?_
 refine rnP hE 1 qzd129 qzd158 2000 (pc o1 (pc (show 0≤(1:Int)∧(1:Int) < ((4:Nat):Int) by decide) (pc (show 1 < 4 by decide) (pc (Eq.refl 4) (pc (show ∀ zi,zi < 4→(fun zi=>([[.nil],[(.sl 1 (fun zi=>([[(aI 2),(aI 2),(aI 0),(aB false),(aB false),.nil]]:List (List AV)).getD zi []))],[(.sl 1 (fun zi=>([[(aI 2),(aI 2),(aI 1),(aB false),(aB false),.nil]]:List (List AV)).getD zi []))],[.nil]]:List (List AV)).getD zi []) zi=(fun zi=>([[.nil],[(.sl 1 (fun zi=>([[(aI 2),(aI 2),(aI 0),(aB false),(aB false),.nil]]:List (List AV)).getD zi []))],[(.sl 1 (fun zi=>([[(aI 2),(aI 2),(aI 1),(aB false),(aB false),.nil]]:List (List AV)).getD zi []))],[.nil]]:List (List AV)).getD zi []) zi from (allN (n:=4) ⟨⟨⟨⟨trivial,rfl⟩,rfl⟩,rfl⟩,rfl⟩)) pn))))) ?_
 refine rnP hE 3 qzd128 qzd158 2016 (pc (Eq.refl 4) (pc (show ∀ zi,zi < 4→(fun zi=>([[.nil],[(.sl 1 (fun zi=>([[(aI 2),(aI 2),(aI 0),(aB false),(aB false),.nil]]:List (List AV)).getD zi []))],[(.sl 1 (fun zi=>([[(aI 2),(aI 2),(aI 1),(aB false),(aB false),.nil]]:List (List AV)).getD zi []))],[.nil]]:List (List AV)).getD zi []) zi=(fun zi=>([[.nil],[(.sl 1 (fun zi=>([[(aI 2),(aI 2),(aI 0),(aB false),(aB false),.nil]]:List (List AV)).getD zi []))],[(.sl 1 (fun zi=>([[(aI 2),(aI 2),(aI 1),(aB false),(aB false),.nil]]:List (List AV)).getD zi []))],[.nil]]:List (List AV)).getD zi []) zi from (allN (n:=4) ⟨⟨⟨⟨trivial,rfl⟩,rfl⟩,rfl⟩,rfl⟩)) pn)) ?_
 refine rnK1 1 95 ?_
 refine rnP hE 4 qzd127 qzd157 2080 (pc (show 0≤(0:Int)∧(0:Int) < ((1:Nat):Int) by decide) (pc o1 (pc (Eq.refl 4) (pc (show ∀ zi,zi < 4→(fun zi=>([[.nil],[(.sl 1 (fun zi=>([[(aI 2),(aI 2),(aI 0),(aB false),(aB false),.nil]]:List (List AV)).getD zi []))],[(.sl 1 (fun zi=>([[(aI 2),(aI 2),(aI 1),(aB false),(aB false),.nil]]:List (List AV)).getD zi []))],[.nil]]:List (List AV)).getD zi []) zi=(fun zi=>([[.nil],[(.sl 1 (fun zi=>([[(aI 2),(aI 2),(aI 0),(aB false),(aB false),.nil]]:List (List AV)).getD zi []))],[(.sl 1 (fun zi=>([[(aI 2),(aI 2),(aI 1),(aB false),(aB false),.nil]]:List (List AV)).getD zi []))],[.nil]]:List (List AV)).getD zi []) zi from (allN (n:=4) ⟨⟨⟨⟨trivial,rfl⟩,rfl⟩,rfl⟩,rfl⟩)) pn)))) ?_
 refine rnH hE 1 [(18,⟨[0,16,112,96],true,(.tup []),[],0,true,none⟩)] qzd127 qzd157 2384 (pc o1 (pc o1 (pc o1 (pc o1 (pc o1 (pc o1 (pc (show Sound Try.prog 35 [(aI 3),(.agg [(aI 4),(aI 2),(aI 0),(aB false),(aB false),(.sl 2 (fun zi=>(fun zi=>([[(aI 2),(aI 2),(aI 1),(aB false),(aB false),.nil],[(aI 2),(aI 2),(aI 0),(aB false),(aB false),.nil]]:List (List AV)).getD zi []) (addz 0 zi)))]),(.op 0 0 0),(.op 1 0 0),(.op 2 0 0)] [(0,vO 1 [(aI 3)]),(1,vO 1 [(aI 3)]),(2,vN 1 [(.os 3 0 4)]),(3,⟨false,1,4,true,fun zi=>([[.nil],[(.sl 1 (fun zi=>([[(aI 2),(aI 2),(aI 0),(aB false),(aB false),.nil]]:List (List AV)).getD zi []))],[(.sl 1 (fun zi=>([[(aI 2),(aI 2),(aI 1),(aB false),(aB false),.nil]]:List (List AV)).getD zi []))],[.nil]]:List (List AV)).getD zi []⟩)] 4 (.tup []) [(0,vO 1 [(aI 3)]),(1,vO 1 [(aI 3)]),(2,vN 1 [(.os 3 0 4)]),(3,⟨false,1,4,true,fun zi=>([[.nil],[(.sl 1 (fun zi=>([[(aI 2),(aI 2),(aI 0),(aB false),(aB false),.nil]]:List (List AV)).getD zi []))],[(.sl 1 (fun zi=>([[(aI 2),(aI 2),(aI 1),(aB false),(aB false),.nil]]:List (List AV)).getD zi []))],[.nil]]:List (List AV)).getD zi []⟩)] from (Sound.conv (g_survey_shapes_1_v7_ok N () rfl) (.cons (Alike.refl _) (.cons (Alike.agg (.cons (Alike.refl _) (.cons (Alike.refl _) (.cons (Alike.refl _) (.cons (Alike.refl _) (.cons (Alike.refl _) (.cons (Alike.sl rfl (allN (n:=2) ⟨⟨trivial,rfl⟩,rfl⟩)) .nil))))))) (.cons (Alike.refl _) (.cons (Alike.refl _) (.cons (Alike.refl _) .nil))))))) (pc (show 0+2≤2 from (z1 2)) (pc (Eq.refl 4) (pc (show ∀ zi,zi < 4→(fun zi=>([[.nil],[(.sl 1 (fun zi=>([[(aI 2),(aI 2),(aI 0),(aB false),(aB false),.nil]]:List (List AV)).getD zi []))],[(.sl 1 (fun zi=>([[(aI 2),(aI 2),(aI 1),(aB false),(aB false),.nil]]:List (List AV)).getD zi []))],[.nil]]:List (List AV)).getD zi []) zi=(fun zi=>([[.nil],[(.sl 1 (fun zi=>([[(aI 2),(aI 2),(aI 0),(aB false),(aB false),.nil]]:List (List AV)).getD zi []))],[(.sl 1 (fun zi=>([[(aI 2),(aI 2),(aI 1),(aB false),(aB false),.nil]]:List (List AV)).getD zi []))],[.nil]]:List (List AV)).getD zi []) zi from (allN (n:=4) ⟨⟨⟨⟨trivial,rfl⟩,rfl⟩,rfl⟩,rfl⟩)) pn)))))))))) ?_
 refine rnH hE 0 [(18,⟨[0,16,112,96],true,(.tup []),[],0,true,none⟩)] qzd129 qzd158 2688 (pc o1 (pc o1 (pc o1 (pc o1 (pc o1 (pc o1 (pc (show Sound Try.prog 35 [(aI 3),(.agg [(aI 2),(aI 4),(aI 0),(aB false),(aB true),(.sl 2 (fun zi=>(fun zi=>([[(aI 2),(aI 2),(aI 1),(aB false),(aB false),.nil],[(aI 2),(aI 2),(aI 0),(aB false),(aB false),.nil]]:List (List AV)).getD zi []) (addz 0 zi)))]),(.op 0 0 0),(.op 1 0 0),(.op 2 0 0)] [(0,vO 1 [(aI 3)]),(1,vO 1 [(aI 3)]),(2,vN 1 [(.os 3 0 4)]),(3,⟨false,1,4,true,fun zi=>([[.nil],[(.sl 1 (fun zi=>([[(aI 2),(aI 2),(aI 0),(aB false),(aB false),.nil]]:List (List AV)).getD zi []))],[(.sl 1 (fun zi=>([[(aI 2),(aI 2),(aI 1),(aB false),(aB false),.nil]]:List (List AV)).getD zi []))],[.nil]]:List (List AV)).getD zi []⟩)] 4 (.tup []) [(0,vO 1 [(aI 3)]),(1,vO 1 [(aI 3)]),(2,vN 1 [(.os 3 0 4)]),(3,⟨false,1,4,true,fun zi=>([[.nil],[(.sl 1 (fun zi=>([[(aI 2),(aI 2),(aI 0),(aB false),(aB false),.nil]]:List (List AV)).getD zi []))],[(.sl 1 (fun zi=>([[(aI 2),(aI 2),(aI 1),(aB false),(aB false),.nil]]:List (List AV)).getD zi []))],[.nil]]:List (List AV)).getD zi []⟩)] from (Sound.conv (g_survey_shapes_1_v8_ok N () rfl) (.cons (Alike.refl _) (.cons (Alike.agg (.cons (Alike.refl _) (.cons (Alike.refl _) (.cons (Alike.refl _) (.cons (Alike.refl _) (.cons (Alike.refl _) (.cons (Alike.sl rfl (allN (n:=2) ⟨⟨trivial,rfl⟩,rfl⟩)) .nil))))))) (.cons (Alike.refl _) (.cons (Alike.refl _) (.cons (Alike.refl _) .nil))))))) (pc (show 0+2≤2 from (z1 2)) (pc (Eq.refl 4) (pc (show ∀ zi,zi < 4→(fun zi=>([[.nil],[(.sl 1 (fun zi=>([[(aI 2),(aI 2),(aI 0),(aB false),(aB false),.nil]]:List (List AV)).getD zi []))],[(.sl 1 (fun zi=>([[(aI 2),(aI 2),(aI 1),(aB false),(aB false),.nil]]:List (List AV)).getD zi []))],[.nil]]:List (List AV)).getD zi []) zi=(fun zi=>([[.nil],[(.sl 1 (fun zi=>([[(aI 2),(aI 2),(aI 0),(aB false),(aB false),.nil]]:List (List AV)).getD zi []))],[(.sl 1 (fun zi=>([[(aI 2),(aI 2),(aI 1),(aB false),(aB false),.nil]]:List (List AV)).getD zi []))],[.nil]]:List (List AV)).getD zi []) zi from (allN (n:=4) ⟨⟨⟨⟨trivial,rfl⟩,rfl⟩,rfl⟩,rfl⟩)) pn)))))))))) ?_
 refine rnP hE 1 qzd129 qzd158 2720 (pc (Eq.refl 4) (pc (show ∀ zi,zi < 4→(fun zi=>([[.nil],[(.sl 1 (fun zi=>([[(aI 2),(aI 2),(aI 0),(aB false),(aB false),.nil]]:List (List AV)).getD zi []))],[(.sl 1 (fun zi=>([[(aI 2),(aI 2),(aI 1),(aB false),(aB false),.nil]]:List (List AV)).getD zi []))],[.nil]]:List (List AV)).getD zi []) zi=(fun zi=>([[.nil],[(.sl 1 (fun zi=>([[(aI 2),(aI 2),(aI 0),(aB false),(aB false),.nil]]:List (List AV)).getD zi []))],[(.sl 1 (fun zi=>([[(aI 2),(aI 2),(aI 1),(aB false),(aB false),.nil]]:List (List AV)).getD zi []))],[.nil]]:List (List AV)).getD zi []) zi from (allN (n:=4) ⟨⟨⟨⟨trivial,rfl⟩,rfl⟩,rfl⟩,rfl⟩)) pn)) ?_
 refine rnP hE 2 qzd128 qzd158 2736 (pc (Eq.refl 4) (pc (show ∀ zi,zi < 4→(fun zi=>([[.nil],[(.sl 1 (fun zi=>([[(aI 2),(aI 2),(aI 0),(aB false),(aB false),.nil]]:List (List AV)).getD zi []))],[(.sl 1 (fun zi=>([[(aI 2),(aI 2),(aI 1),(aB false),(aB false),.nil]]:List (List AV)).getD zi []))],[.nil]]:List (List AV)).getD zi []) zi=(fun zi=>([[.nil],[(.sl 1 (fun zi=>([[(aI 2),(aI 2),(aI 0),(aB false),(aB false),.nil]]:List (List AV)).getD zi []))],[(.sl 1 (fun zi=>([[(aI 2),(aI 2),(aI 1),(aB false),(aB false),.nil]]:List (List AV)).getD zi []))],[.nil]]:List (List AV)).getD zi []) zi from (allN (n:=4) ⟨⟨⟨⟨trivial,rfl⟩,rfl⟩,rfl⟩,rfl⟩)) pn)) ?_
 refine rnK0 1 95 ?_
 refine rnP hE 2 qzd134 qzd160 2768 (pc (Eq.refl 4) (pc (show ∀ zi,zi < 4→(fun zi=>([[.nil],[(.sl 1 (fun zi=>([[(aI 2),(aI 2),(aI 0),(aB false),(aB false),.nil]]:List (List AV)).getD zi []))],[(.sl 1 (fun zi=>([[(aI 2),(aI 2),(aI 1),(aB false),(aB false),.nil]]:List (List AV)).getD zi []))],[.nil]]:List (List AV)).getD zi []) zi=(fun zi=>([[.nil],[(.sl 1 (fun zi=>([[(aI 2),(aI 2),(aI 0),(aB false),(aB false),.nil]]:List (List AV)).getD zi []))],[(.sl 1 (fun zi=>([[(aI 2),(aI 2),(aI 1),(aB false),(aB false),.nil]]:List (List AV)).getD zi []))],[.nil]]:List (List AV)).getD zi []) zi from (allN (n:=4) ⟨⟨⟨⟨trivial,rfl⟩,rfl⟩,rfl⟩,rfl⟩)) pn)) ?_
 refine rnP hE 2 qzd133 qzd160 2784 (pc (Eq.refl 4) (pc (show ∀ zi,zi < 4→(fun zi=>([[.nil],[(.sl 1 (fun zi=>([[(aI 2),(aI 2),(aI 0),(aB false),(aB false),.nil]]:List (List AV)).getD zi []))],[(.sl 1 (fun zi=>([[(aI 2),(aI 2),(aI 1),(aB false),(aB false),.nil]]:List (List AV)).getD zi []))],[.nil]]:List (List AV)).getD zi []) zi=(fun zi=>([[.nil],[(.sl 1 (fun zi=>([[(aI 2),(aI 2),(aI 0),(aB false),(aB false),.nil]]:List (List AV)).getD zi []))],[(.sl 1 (fun zi=>([[(aI 2),(aI 2),(aI 1),(aB false),(aB false),.nil]]:List (List AV)).getD zi []))],[.nil]]:List (List AV)).getD zi []) zi from (allN (n:=4) ⟨⟨⟨⟨trivial,rfl⟩,rfl⟩,rfl⟩,rfl⟩)) pn)) ?_
 refine rnK0 1 84 ?_
 refine rnP hE 2 qzd135 qzd160 2864 (pc (Eq.refl 4) (pc (show ∀ zi,zi < 4→(fun zi=>([[.nil],[(.sl 1 (fun zi=>([[(aI 2),(aI 2),(aI 0),(aB false),(aB false),.nil]]:List (List AV)).getD zi []))],[(.sl 1 (fun zi=>([[(aI 2),(aI 2),(aI 1),(aB false),(aB false),.nil]]:List (List AV)).getD zi []))],[.nil]]:List (List AV)).getD zi []) zi=(fun zi=>([[.nil],[(.sl 1 (fun zi=>([[(aI 2),(aI 2),(aI 0),(aB false),(aB false),.nil]]:List (List AV)).getD zi []))],[(.sl 1 (fun zi=>([[(aI 2),(aI 2),(aI 1),(aB false),(aB false),.nil]]:List (List AV)).getD zi []))],[.nil]]:List (List AV)).getD zi []) zi from (allN (n:=4) ⟨⟨⟨⟨trivial,rfl⟩,rfl⟩,rfl⟩,rfl⟩)) pn)) ?_
 refine rnP hE 3 qzd131 qzd160 2896 (pc (Eq.refl 4) (pc (show ∀ zi,zi < 4→(fun zi=>([[.nil],[(.sl 1 (fun zi=>([[(aI 2),(aI 2),(aI 0),(aB false),(aB false),.nil]]:List (List AV)).getD zi []))],[(.sl 1 (fun zi=>([[(aI 2),(aI 2),(aI 1),(aB false),(aB false),.nil]]:List (List AV)).getD zi []))],[.nil]]:List (List AV)).getD zi []) zi=(fun zi=>([[.nil],[(.sl 1 (fun zi=>([[(aI 2),(aI 2),(aI 0),(aB false),(aB false),.nil]]:List (List AV)).getD zi []))],[(.sl 1 (fun zi=>([[(aI 2),(aI 2),(aI 1),(aB false),(aB false),.nil]]:List (List AV)).getD zi []))],[.nil]]:List (List AV)).getD zi []) zi from (allN (n:=4) ⟨⟨⟨⟨trivial,rfl⟩,rfl⟩,rfl⟩,rfl⟩)) pn)) ?_
 refine rnK1 0 68 ?_
 refine rnP hE 5 qzd132 qzd160 2976 (pc (Eq.refl 4) (pc (show ∀ zi,zi < 4→(fun zi=>([[.nil],[(.sl 1 (fun zi=>([[(aI 2),(aI 2),(aI 0),(aB false),(aB false),.nil]]:List (List AV)).getD zi []))],[(.sl 1 (fun zi=>([[(aI 2),(aI 2),(aI 1),(aB false),(aB false),.nil]]:List (List AV)).getD zi []))],[.nil]]:List (List AV)).getD zi []) zi=(fun zi=>([[.nil],[(.sl 1 (fun zi=>([[(aI 2),(aI 2),(aI 0),(aB false),(aB false),.nil]]:List (List AV)).getD zi []))],[(.sl 1 (fun zi=>([[(aI 2),(aI 2),(aI 1),(aB false),(aB false),.nil]]:List (List AV)).getD zi []))],[.nil]]:List (List AV)).getD zi []) zi from (allN (n:=4) ⟨⟨⟨⟨trivial,rfl⟩,rfl⟩,rfl⟩,rfl⟩)) pn)) ?_
 refine rnK1 0 77 ?_
 refine rnP hE 1 qzd135 qzd160 3056 (pc (Eq.refl 4) (pc (show ∀ zi,zi < 4→(fun zi=>([[.nil],[(.sl 1 (fun zi=>([[(aI 2),(aI 2),(aI 0),(aB false),(aB false),.nil]]:List (List AV)).getD zi []))],[(.sl 1 (fun zi=>([[(aI 2),(aI 2),(aI 1),(aB false),(aB false),.nil]]:List (List AV)).getD zi []))],[.nil]]:List (List AV)).getD zi []) zi=(fun zi=>([[.nil],[(.sl 1 (fun zi=>([[(aI 2),(aI 2),(aI 0),(aB false),(aB false),.nil]]:List (List AV)).getD zi []))],[(.sl 1 (fun zi=>([[(aI 2),(aI 2),(aI 1),(aB false),(aB false),.nil]]:List (List AV)).getD zi []))],[.nil]]:List (List AV)).getD zi []) zi from (allN (n:=4) ⟨⟨⟨⟨trivial,rfl⟩,rfl⟩,rfl⟩,rfl⟩)) pn)) ?_
 refine rnP hE 3 qzd131 qzd160 3088 (pc (Eq.refl 4) (pc (show ∀ zi,zi < 4→(fun zi=>([[.nil],[(.sl 1 (fun zi=>([[(aI 2),(aI 2),(aI 0),(aB false),(aB false),.nil]]:List (List AV)).getD zi []))],[(.sl 1 (fun zi=>([[(aI 2),(aI 2),(aI 1),(aB false),(aB false),.nil]]:List (List AV)).getD zi []))],[.nil]]:List (List AV)).getD zi []) zi=(fun zi=>([[.nil],[(.sl 1 (fun zi=>([[(aI 2),(aI 2),(aI 0),(aB false),(aB false),.nil]]:List (List AV)).getD zi []))],[(.sl 1 (fun zi=>([[(aI 2),(aI 2),(aI 1),(aB false),(aB false),.nil]]:List (List AV)).getD zi []))],[.nil]]:List (List AV)).getD zi []) zi from (allN (n:=4) ⟨⟨⟨⟨trivial,rfl⟩,rfl⟩,rfl⟩,rfl⟩)) pn)) ?_
 refine rnK0 0 68 ?_
 refine rnP hE 2 qzd141 qzd160 3120 (pc (Eq.refl 4) (pc (show ∀ zi,zi < 4→(fun zi=>([[.nil],[(.sl 1 (fun zi=>([[(aI 2),(aI 2),(aI 0),(aB false),(aB false),.nil]]:List (List AV)).getD zi []))],[(.sl 1 (fun zi=>([[(aI 2),(aI 2),(aI 1),(aB false),(aB false),.nil]]:List (List AV)).getD zi []))],[.nil]]:List (List AV)).getD zi []) zi=(fun zi=>([[.nil],[(.sl 1 (fun zi=>([[(aI 2),(aI 2),(aI 0),(aB false),(aB false),.nil]]:List (List AV)).getD zi []))],[(.sl 1 (fun zi=>([[(aI 2),(aI 2),(aI 1),(aB false),(aB false),.nil]]:List (List AV)).getD zi []))],[.nil]]:List (List AV)).getD zi []) zi from (allN (n:=4) ⟨⟨⟨⟨trivial,rfl⟩,rfl⟩,rfl⟩,rfl⟩)) pn)) ?_
 refine rnP hE 2 qzd140 qzd160 3136 (pc (Eq.refl 4) (pc (show ∀ zi,zi < 4→(fun zi=>([[.nil],[(.sl 1 (fun zi=>([[(aI 2),(aI 2),(aI 0),(aB false),(aB false),.nil]]:List (List AV)).getD zi []))],[(.sl 1 (fun zi=>([[(aI 2),(aI 2),(aI 1),(aB false),(aB false),.nil]]:List (List AV)).getD zi []))],[.nil]]:List (List AV)).getD zi []) zi=(fun zi=>([[.nil],[(.sl 1 (fun zi=>([[(aI 2),(aI 2),(aI 0),(aB false),(aB false),.nil]]:List (List AV)).getD zi []))],[(.sl 1 (fun zi=>([[(aI 2),(aI 2),(aI 1),(aB false),(aB false),.nil]]:List (List AV)).getD zi []))],[.nil]]:List (List AV)).getD zi []) zi from (allN (n:=4) ⟨⟨⟨⟨trivial,rfl⟩,rfl⟩,rfl⟩,rfl⟩)) pn)) ?_
 refine rnK0 1 57 ?_
 refine rnP hE 2 (kp [8]) [(96,.arr 96 4 (fun zi=>([[.nil],[(.sl 1 (fun zi=>([[(aI 2),(aI 2),(aI 0),(aB false),(aB false),.nil]]:List (List AV)).getD zi []))],[(.sl 1 (fun zi=>([[(aI 2),(aI 2),(aI 1),(aB false),(aB false),.nil]]:List (List AV)).getD zi []))],[.nil]]:List (List AV)).getD zi []))] 3168 (pc o1 (pc (Eq.refl 4) (pc (show ∀ zi,zi < 4→(fun zi=>([[.nil],[(.sl 1 (fun zi=>([[(aI 2),(aI 2),(aI 0),(aB false),(aB false),.nil]]:List (List AV)).getD zi []))],[(.sl 1 (fun zi=>([[(aI 2),(aI 2),(aI 1),(aB false),(aB false),.nil]]:List (List AV)).getD zi []))],[.nil]]:List (List AV)).getD zi []) zi=(fun zi=>([[.nil],[(.sl 1 (fun zi=>([[(aI 2),(aI 2),(aI 0),(aB false),(aB false),.nil]]:List (List AV)).getD zi []))],[(.sl 1 (fun zi=>([[(aI 2),(aI 2),(aI 1),(aB false),(aB false),.nil]]:List (List AV)).getD zi []))],[.nil]]:List (List AV)).getD zi []) zi from (allN (n:=4) ⟨⟨⟨⟨trivial,rfl⟩,rfl⟩,rfl⟩,rfl⟩)) pn))) ?_
 exact Runs.nT hE 0 Try.f20 [96] [(8,.sl 4 (fun zi=>([[.nil],[(.sl 1 (fun zi=>([[(aI 2),(aI 2),(aI 0),(aB false),(aB false),.nil]]:List (List AV)).getD zi []))],[(.sl 1 (fun zi=>([[(aI 2),(aI 2),(aI 1),(aB false),(aB false),.nil]]:List (List AV)).getD zi []))],[.nil]]:List (List AV)).getD zi []))] [] 3168 (pc (Eq.refl 4) (pc (show 0+4≤4 from (z1 4)) (pc (show ∀ zi,zi < 4→(fun zi=>([[.nil],[(.sl 1 (fun zi=>([[(aI 2),(aI 2),(aI 0),(aB false),(aB false),.nil]]:List (List AV)).getD zi []))],[(.sl 1 (fun zi=>([[(aI 2),(aI 2),(aI 1),(aB false),(aB false),.nil]]:List (List AV)).getD zi []))],[.nil]]:List (List AV)).getD zi []) zi=(fun zi=>([[.nil],[(.sl 1 (fun zi=>([[(aI 2),(aI 2),(aI 0),(aB false),(aB false),.nil]]:List (List AV)).getD zi []))],[(.sl 1 (fun zi=>([[(aI 2),(aI 2),(aI 1),(aB false),(aB false),.nil]]:List (List AV)).getD zi []))],[.nil]]:List (List AV)).getD zi []) (addz 0 zi) from (allN (n:=4) ⟨⟨⟨⟨trivial,rfl⟩,rfl⟩,rfl⟩,rfl⟩)) pn))) [] pn
theorem g_survey_whole_v2_ok (N:Nat) (r:Unit) (h:g_survey_whole_v2 N=some r):Sound Try.prog 19 [(.sl 4 (fun zi=>([[.nil],[(.sl 1 (fun zi=>([[(aI 2),(aI 2),(aI 0),(aB false),(aB false),.nil]]:List (List AV)).getD zi []))],[(.sl 1 (fun zi=>([[(aI 2),(aI 2),(aI 1),(aB false),(aB false),.nil]]:List (List AV)).getD zi []))],[.nil]]:List (List AV)).getD zi [])),(aI 3)] [] 0 (.tup [(.agg [(aI 0),(aB false),(aB false),(aI 0),.nil,.nil]),(aB false)]) []:=by
 refine sO Try.f19 23 fun E hE=>?_
 refine rnZ hE 1 qzd83 (kq [0]) 32 ?_
 refine rnZ hE 2 (kp [0,1,4,7]) (kq [0]) 64 ?_
 refine rnK0 0 7 ?_
 refine rnP hE 3 (kp [0,1,4,14]) (kq [0]) 160 (pc (show 0≤(3:Int)∧(3:Int) < ((4:Nat):Int) by decide) pn) ?_
 refine rnK1 0 14 ?_
 refine rnP hE 1 (kp [4,5]) (kq [0]) 208 (pc o1 pn) ?_
 exact Runs.nT hE 0 Try.f19 [] (kp [4,5]) [(16,.keep 0)] 208 pn [16] (pc o1 pn)
theorem g_survey_Fit_v2_ok (N:Nat) (r:Unit) (h:g_survey_Fit_v2 N=some r):Sound Try.prog 10 [(.sl 2 qzd77),(.agg [(aI 3),(aI 3),(aI 0)]),(aI 0)] [] 0 (.tup [(.agg [(aI 0),(aB false),(aB false),(aI 0),.nil,.nil]),(aB false),(aI 0)]) []:=by
 refine sO Try.f10 38 fun E hE=>?_
 refine rnZ hE 1 (kp [0,2,4,6]) qzd166 64 ?_
 refine rnH hE 2 [(4,⟨[],true,(aI 0),[],0,false,none⟩)] (kp [0,2,4,6,9]) qzd166 160 (pc o1 (pc (show Sound Try.prog 18 [(.sl 2 qzd77),(.sl 1 (fun zi=>qzd73 (addz 0 zi))),(aI 0)] [] 0 (aI 0) [] from (Sound.conv (g_survey_checkStock_v2_ok N () rfl) (.cons (Alike.refl _) (.cons (Alike.sl rfl (allN (n:=1) ⟨trivial,rfl⟩)) (.cons (Alike.refl _) .nil))))) (pc (show 0+1≤1 from (z1 1)) pn))) ?_
 refine rnZ hE 1 (kp [0,2,4,6,9,18]) qzd166 192 ?_
 refine rnK0 0 18 ?_
 refine rnH hE 2 [(6,⟨[],true,(.sl 4 (fun zi=>([[.nil],[(.sl 1 (fun zi=>([[(aI 2),(aI 2),(aI 0),(aB false),(aB false),.nil]]:List (List AV)).getD zi []))],[(.sl 1 (fun zi=>([[(aI 2),(aI 2),(aI 1),(aB false),(aB false),.nil]]:List (List AV)).getD zi []))],[.nil]]:List (List AV)).getD zi [])),[],0,false,none⟩),(11,⟨[],true,(.tup [(.agg [(aI 0),(aB false),(aB false),(aI 0),.nil,.nil]),(aB false)]),[],0,false,none⟩)] (kp [6,10,11]) (kq [16,432]) 480 (pc o1 (pc o1 (pc (g_survey_shapes_v2_ok N () rfl) (pc (show (0:Int)≤2 by decide) (pc (g_survey_whole_v2_ok N () rfl) (pc o1 pn)))))) ?_
 refine rnP hE 1 qzd145 (kq [16]) 560 (pc o1 (pc o1 pn)) ?_
 exact Runs.nT hE 0 Try.f10 [] qzd145 (kq [16]) 560 pn [16] (pc o1 pn)
theorem g_keelblocktop_halved_ok (N:Nat) (r:Unit) (h:g_keelblocktop_halved N=some r):Sound Try.prog 4 [] [] 0 (aB true) []:=by
 refine sO Try.f4 38 fun E hE=>?_
 refine rnZ hE 1 [] [] 16 ?_
 refine Runs.nR hE 1 [] [48] [(1,.sl 2 qzd77)] [] 80 (pc (Eq.refl 2) (pc (show 0+2≤2 from (z1 2)) (pc (show ∀ zi,zi < 2→qzd77 zi=qzd77 (addz 0 zi) from (allN (n:=2) ⟨⟨trivial,rfl⟩,rfl⟩)) pn))) ?_
 refine rnH hE 1 [(2,⟨[],true,(.tup [(.agg [(aI (-1)),(aB false),(aB false),(aI 2),(.sl 1 (fun zi=>([[(aI 1),(aB false),(aB false),(aI 0),.nil,.nil]]:List (List AV)).getD zi [])),(.sl 1 (fun zi=>([[(aI 0),(aB false),(aB false),(aI 0),.nil,.nil]]:List (List AV)).getD zi []))]),(aB true),(aI 0)]),[],0,false,none⟩)] (kp [1,3,4]) [] 256 (pc (g_survey_Fit_ok N () rfl) (pc o1 pn)) ?_
 refine rnH hE 1 [(2,⟨[],true,(.tup [(.agg [(aI 0),(aB false),(aB false),(aI 0),.nil,.nil]),(aB false),(aI 0)]),[],0,false,none⟩)] (kp [3,4,6,7]) [] 432 (pc (g_survey_Fit_v2_ok N () rfl) (pc o1 pn)) ?_
 refine rnH hE 1 [(3,⟨[],true,.unk,[],1,false,none⟩),(4,⟨[],true,.unk,[],1,false,none⟩),(7,⟨[],true,.unk,[],1,false,none⟩),(10,⟨[],true,.unk,[],1,false,none⟩),(11,⟨[],true,.unk,[],1,false,none⟩)] (kp [0]) [] 656 (pc (Eq.refl true) (pc (Eq.refl true) (pc (Eq.refl true) (pc (Eq.refl true) (pc (Eq.refl true) pn))))) ?_
 exact Runs.nT hE 0 Try.f4 [] (kp [0]) [] 656 pn [] pn
noncomputable abbrev C_70:=bt Try.f5
def g_keelblocktop_Drift_value_L1_H (N:Nat) (d:Tkeelblocktop_Drift) (i:Int) (n:Int) (K:Int→Int→Int→Option (Int)):Prop:=∀ (sum:Int) (power:Int) (k:Int) (r:Int),K sum power k=some r→∀ E,EnvOk E 0→Runs Try.prog E 5 31 (SPost E [] (aI r)) [.code (C_70 116),.inLoop (C_70 116),.inBlock 0,.code (C_70 15)] ⟨[(1,(aI i)),(2,(aI n)),(3,(.op 0 0 0)),(7,(aI sum)),(8,(aI power)),(9,(aI k))],[(qzd40 d)],1⟩
theorem g_keelblocktop_Drift_value_L1_ok (N:Nat) (d:Tkeelblocktop_Drift) (i:Int) (n:Int) (fuel:Nat):g_keelblocktop_Drift_value_L1_H N d i n (g_keelblocktop_Drift_value_L1 N d i n fuel):=by
 induction fuel with
 | zero=>intro _ _ _ r h;rw [g_keelblocktop_Drift_value_L1.eq_1] at h;cases h
 | succ fuel ih =>
  intro sum power k r h E hE
  rw [g_keelblocktop_Drift_value_L1.eq_2] at h
  refine rnP hE 2 (kp [1,2,3,7,8,9,16]) (kq [0]) 113 (pc (fun hg:(decide (k < n))=true=>(pc hg pn)) (pc (fun hq:(decide (k < n))=true=>(pc hq pn)) pn)) <| Runs.nC 0 16 h (fun hq2 h=>?_) (fun hq2 h=>?_)
  ·obtain ⟨c,h⟩:=ifSome h
   refine rnP hE 4 qzd101 (kq [0]) 257 (pc c (pc o1 pn)) <| rnZ hE 0 qzd101 (kq [0]) 321 <| rnZ hE 1 qzd101 (kq [0]) 369 <| rnV hE 1 qzd101 (kq [0]) 1 (ih _ _ _ _ h E hE)
  ·refine rnZ hE 2 (kp [6]) [] 145 ?_
   obtain rfl:=Option.some.inj h
   exact rnU hE 0 Try.f5 (kp [6]) [] 145
theorem g_keelblocktop_Drift_value_ok (N:Nat) (d:Tkeelblocktop_Drift) (i:Int) (n:Int) (r:Int) (h:g_keelblocktop_Drift_value N d i n=some r):Sound Try.prog 5 [(.agg (Tkeelblocktop_Drift.cells d)),(aI i),(aI n)] [] 0 (aI r) []:=by
 unfold g_keelblocktop_Drift_value at h
 refine sO Try.f5 31 fun E hE=>?_
 refine rnZ hE 1 (kp [1,2,3]) (kq [0]) 32 <| rnZ hE 1 (kp [1,2,3,7,8]) (kq [0]) 64 <| rnZ hE 2 qzd101 (kq [0]) 80 <| rnV hE 2 qzd101 (kq [0]) 1 (g_keelblocktop_Drift_value_L1_ok N _ _ _ N _ _ _ _ h E hE)
theorem g_survey_inside_1_v6_ok (N:Nat) (n:Int) (cap0:Int) (cap1:Int) (r:Bool) (h:g_survey_inside_1_v6 N n cap0 cap1=some r):Sound Try.prog 51 [(aI n),(.op 0 0 0),(.op 1 0 0)] [(0,vO 1 [(aI cap0)]),(1,vO 1 [(aI cap1)])] 2 (aB r) [(0,vO 1 [(aI cap0)]),(1,vO 1 [(aI cap1)])]:=by
 unfold g_survey_inside_1_v6 at h
 refine sO Try.f51 13 fun E hE=>?_
 refine rnZ hE 1 qzd81 (kq [0,1]) 18 <| rnP hE 1 (kp [4]) (kq [0,1]) 162 (pc o1 (pc (fun hg:(!(decide (n < cap0)))=true=>(pc o1 pn)) (pc (fun hg:(!(decide (n < cap0)))=true=>(pc hg (pc hg pn))) (pc (fun hq:(!(decide (n < cap0)))=true=>(pc hq pn)) pn)))) ?_
 cases h
 exact rnU hE 0 Try.f51 (kp [4]) (kq [0,1]) 162
noncomputable abbrev C_76:=bt Try.f65
def g_slices_IndexFunc_int_int_v6_L1_H (N:Nat) (s:List Int) (cap0:Int) (cap1:Int) (K:Int→Option (Int)):Prop:=∀ (x:Int) (r:Int),K x=some r→∀ E,EnvOk E 2→Runs Try.prog E 65 19 (SPost E [(0,vO 1 [(aI cap0)]),(1,vO 1 [(aI cap1)])] (aI r)) [.code (C_76 52),.inLoop (C_76 52),.inBlock 0,.code (C_76 7)] ⟨[(0,(encL cI 0 s)),(1,(.fn (.func 51) [] [(.op 0 0 0),(.op 1 0 0)])),(7,(qzd63 s)),(8,(aI x))],[(0,vO 1 [(aI cap0)]),(1,vO 1 [(aI cap1)])],2⟩
theorem g_slices_IndexFunc_int_int_v6_L1_ok (N:Nat) (s:List Int) (cap0:Int) (cap1:Int) (fuel:Nat):g_slices_IndexFunc_int_int_v6_L1_H N s cap0 cap1 (g_slices_IndexFunc_int_int_v6_L1 N s cap0 cap1 fuel):=by
 induction fuel with
 | zero=>intro _ r h;rw [g_slices_IndexFunc_int_int_v6_L1.eq_1] at h;cases h
 | succ fuel ih =>
  intro x r h E hE
  rw [g_slices_IndexFunc_int_int_v6_L1.eq_2] at h
  refine rnZ hE 1 qzd92 (kq [0,1]) 18 <| Runs.nC 1 9 h (fun hq2 h=>?_) (fun hq2 h=>?_)
  ·refine rnZ hE 4 qzd88 (kq [0,1]) 50 ?_
   obtain ⟨c,h⟩:=ifSome h
   obtain ⟨rinside1,hr,h⟩:=bindSome h
   refine rnH hE 1 [(5,⟨[0,1],true,(aB rinside1),[],0,false,none⟩)] qzd87 (kq [0,1]) 146 (pc c (pc (g_survey_inside_1_v6_ok _ _ _ _ _ hr) pn)) <| Runs.nC 0 16 h (fun hq3 h=>?_) (fun hq3 h=>?_)
   ·refine rnZ hE 1 (kp [4]) (kq [0,1]) 178 ?_
    obtain rfl:=Option.some.inj h
    exact rnU hE 0 Try.f65 (kp [4]) (kq [0,1]) 178
   ·refine rnZ hE 2 qzd93 (kq [0,1]) 178 <| rnV hE 1 qzd93 (kq [0,1]) 2 (ih _ _ h E hE)
  ·refine rnZ hE 2 (kp [4]) (kq [0,1]) 34 ?_
   cases h
   exact rnU hE 0 Try.f65 (kp [4]) (kq [0,1]) 50
theorem g_slices_IndexFunc_int_int_v6_ok (N:Nat) (s:List Int) (cap0:Int) (cap1:Int) (r:Int) (h:g_slices_IndexFunc_int_int_v6 N s cap0 cap1=some r):Sound Try.prog 65 [(encL cI 0 s),(.fn (.func 51) [] [(.op 0 0 0),(.op 1 0 0)])] [(0,vO 1 [(aI cap0)]),(1,vO 1 [(aI cap1)])] 2 (aI r) [(0,vO 1 [(aI cap0)]),(1,vO 1 [(aI cap1)])]:=by
 unfold g_slices_IndexFunc_int_int_v6 at h
 refine sO Try.f65 19 fun E hE=>?_
 refine rnZ hE 1 (kp [0,1]) (kq [0,1]) 18 <| rnZ hE 2 qzd93 (kq [0,1]) 66 <| rnV hE 2 qzd93 (kq [0,1]) 2 (g_slices_IndexFunc_int_int_v6_L1_ok N _ _ _ N _ _ h E hE)
theorem g_slices_ContainsFunc_int_int_v6_ok (N:Nat) (s:List Int) (cap0:Int) (cap1:Int) (r:Bool) (h:g_slices_ContainsFunc_int_int_v6 N s cap0 cap1=some r):Sound Try.prog 50 [(encL cI 0 s),(.fn (.func 51) [] [(.op 0 0 0),(.op 1 0 0)])] [(0,vO 1 [(aI cap0)]),(1,vO 1 [(aI cap1)])] 2 (aB r) [(0,vO 1 [(aI cap0)]),(1,vO 1 [(aI cap1)])]:=by
 unfold g_slices_ContainsFunc_int_int_v6 at h
 refine sO Try.f50 9 fun E hE=>?_
 refine rnZ hE 1 (kp [0,1]) (kq [0,1]) 18 ?_
 obtain ⟨rIndexFunc,hr,h⟩:=bindSome h
 refine rnH hE 1 [(2,⟨[0,1],true,(aI rIndexFunc),[],0,false,none⟩)] (kp [4]) (kq [0,1]) 98 (pc (g_slices_IndexFunc_int_int_v6_ok _ _ _ _ _ hr) pn) ?_
 cases h
 exact rnU hE 0 Try.f50 (kp [4]) (kq [0,1]) 98
theorem g_survey_inside_v6_ok (N:Nat) (low:Int) (high:Int) (l:List Int) (r:Bool) (h:g_survey_inside_v6 N low high l=some r):Sound Try.prog 32 [(aI low),(aI high),(encL cI 0 l)] [] 0 (aB r) []:=by
 unfold g_survey_inside_v6 at h
 refine sO Try.f32 11 fun E hE=>?_
 refine rnZ hE 1 qzd116 qzd166 48 ?_
 obtain ⟨rContainsFunc,hr,h⟩:=bindSome h
 refine rnH hE 1 [(2,⟨[0,16],true,(aB rContainsFunc),[],0,false,none⟩)] (kp [6]) [] 128 (pc (g_slices_ContainsFunc_int_int_v6_ok _ _ _ _ _ hr) pn) ?_
 cases h
 exact rnU hE 0 Try.f32 (kp [6]) [] 128
noncomputable abbrev C_73:=bt Try.f21
def g_survey_CheckTrial_L1_H (N:Nat) (l:List TRun) (K:Int→Option (Int)):Prop:=∀ (x:Int) (r:Int),K x=some r→∀ E,EnvOk E 0→Runs Try.prog E 21 65 (SPost E [] (aI r)) [.code (C_73 116),.inLoop (C_73 116),.inBlock 1,.code (C_73 15)] ⟨[(0,(qzd70 l)),(14,(qzd70 l)),(15,(aI ((l.length:Nat):Int))),(16,(aI x))],[],0⟩
def g_survey_CheckTrial_J2_H (N:Nat) (l:List TRun) (x:Int) (K:Option (Int)):Prop:=∀ (r:Int),K=some r→∀ E,EnvOk E 0→Runs Try.prog E 21 65 (SPost E [] (aI r)) [.code (C_73 935),.inLoop (C_73 116),.inBlock 1,.code (C_73 15)] ⟨[(0,(qzd70 l)),(14,(qzd70 l)),(15,(aI ((l.length:Nat):Int))),(16,(aI x))],[],0⟩
theorem g_survey_CheckTrial_J2_ok (N:Nat) (l:List TRun) (x:Int) (K_g_survey_CheckTrial_L1:Int→Option (Int)) (hK_g_survey_CheckTrial_L1:g_survey_CheckTrial_L1_H N l K_g_survey_CheckTrial_L1):g_survey_CheckTrial_J2_H N l x (g_survey_CheckTrial_J2 N l x K_g_survey_CheckTrial_L1):=by
 intro r h E hE
 unfold g_survey_CheckTrial_J2 at h
 refine rnZ hE 0 qzd94 [] 32 <| rnV hE 1 qzd94 [] 0 (hK_g_survey_CheckTrial_L1 _ _ h E hE)
theorem g_survey_CheckTrial_L1_ok (N:Nat) (l:List TRun) (fuel:Nat):g_survey_CheckTrial_L1_H N l (g_survey_CheckTrial_L1 N l fuel):=by
 induction fuel with
 | zero=>intro _ r h;rw [g_survey_CheckTrial_L1.eq_1] at h;cases h
 | succ fuel ih =>
  intro x r h E hE
  rw [g_survey_CheckTrial_L1.eq_2] at h
  refine rnZ hE 1 (kp [0,14,15,16,17]) [] 16 <| Runs.nC 1 17 h (fun hq4 h=>?_) (fun hq4 h=>?_)
  ·obtain ⟨c,h⟩:=ifSome h
   refine rnP hE 4 (kp [0,3,4,14,15,16]) (kq [64]) 112 (pc c (pc o1 pn)) ?_
   obtain ⟨rinside,hr,h⟩:=bindSome h
   rcases condSplit h with ⟨hG,h⟩ | ⟨hG,h⟩
   ·obtain ⟨rinside2,hr2,h⟩:=bindSome h
    refine rnH hE 2 [(3,⟨[],true,(aB rinside),[],0,false,none⟩),(10,⟨[],true,.unk,[],1,false,none⟩),(11,⟨[],true,(aB rinside2),[],1,false,none⟩),(12,⟨[],true,.unk,[],1,false,none⟩)] (kp [0,3,4,14,15,16,34]) (kq [64]) 336 (pc o1 (pc (show Sound Try.prog 32 [(aI 0),(aI 1000000),(qzd33 l x)] [] 0 (aB rinside) [] from (Sound.conv (g_survey_inside_v6_ok _ _ _ _ _ hr) (.cons (Alike.refl _) (.cons (Alike.refl _) (.cons (Alike.sl rfl (get_chunk cI 0 ([(qzd7 l x).f_Start]:List Int))) .nil))))) (pc (z1 1) (pc (fun hg:(!(!rinside))=true=>(pc hg (pc o1 pn))) (pc (fun hg:(!(!rinside))=true=>(pc hg (pc o1 pn))) (pc hG (pc hG (pc hG (pc hG (pc (show Sound Try.prog 32 [(aI 1),(aI 100000),(.sl 2 (fun zi=>(fun zi=>([[(aI ((qzd7 l x).f_Seconds))],[(aI ((qzd7 l x).f_Metres))]]:List (List AV)).getD zi []) (addz 0 zi)))] [] 0 (aB rinside2) [] from (Sound.conv (g_survey_inside_v6_ok _ _ _ _ _ hr2) (.cons (Alike.refl _) (.cons (Alike.refl _) (.cons (Alike.sl rfl (get_chunk cI 0 ([(qzd7 l x).f_Seconds,(qzd7 l x).f_Metres]:List Int))) .nil))))) (pc (z1 2) (pc hG pn)))))))))))) <| Runs.nC 0 34 h (fun hq5 h=>?_) (fun hq5 h=>?_)
    ·refine rnZ hE 1 (kp [2]) [] 352 ?_
     cases h
     exact rnU hE 0 Try.f21 (kp [2]) [] 352
    ·refine rnZ hE 3 (kp [0,3,4,14,15,16,36]) (kq [64]) 368 <| Runs.nC 0 36 h (fun hq6 h=>?_) (fun hq6 h=>?_)
     ·exact rnV hE 1 qzd94 [] 0 (g_survey_CheckTrial_J2_ok N _ _ _ ih _ h E hE)
     ·obtain ⟨c2,h⟩:=ifSome h
      refine rnP hE 2 (kp [0,4,5,14,15,16]) qzd171 480 (pc c2 (pc o1 pn)) <| rnP hE 2 (kp [0,4,5,14,15,16,42]) qzd171 576 (pc o1 (pc o1 pn)) <| Runs.nC 0 42 h (fun hq7 h=>?_) (fun hq7 h=>?_)
      ·refine rnZ hE 1 (kp [2]) [] 592 ?_
       cases h
       exact rnU hE 0 Try.f21 (kp [2]) [] 592
      ·refine rnP hE 1 (kp [0,14,15,16,48]) [] 832 (pc o1 (pc o1 (pc o1 (pc (fun hg:(qzd5 l x)=true=>(pc hg (pc o1 pn))) (pc (fun hg:(qzd5 l x)=true=>(pc hg (pc o1 pn))) (pc (fun hg:(qzd5 l x)=true=>(pc hg (pc hg pn))) (pc (fun hq:(qzd5 l x)=true=>(pc hq pn)) pn))))))) <| Runs.nC 0 48 h (fun hq8 h=>?_) (fun hq8 h=>?_)
       ·refine rnZ hE 1 (kp [2]) [] 848 ?_
        cases h
        exact rnU hE 0 Try.f21 (kp [2]) [] 848
       ·exact rnV hE 3 qzd94 [] 0 (g_survey_CheckTrial_J2_ok N _ _ _ ih _ h E hE)
   ·refine rnH hE 2 [(3,⟨[],true,(aB rinside),[],0,false,none⟩),(10,⟨[],true,.unk,[],2,false,none⟩),(11,⟨[],true,(aB false),[],2,false,none⟩),(12,⟨[],true,(aB false),[],2,false,none⟩)] (kp [0,3,4,14,15,16,34]) (kq [64]) 336 (pc o1 (pc (show Sound Try.prog 32 [(aI 0),(aI 1000000),(qzd33 l x)] [] 0 (aB rinside) [] from (Sound.conv (g_survey_inside_v6_ok _ _ _ _ _ hr) (.cons (Alike.refl _) (.cons (Alike.refl _) (.cons (Alike.sl rfl (get_chunk cI 0 ([(qzd7 l x).f_Start]:List Int))) .nil))))) (pc (z1 1) (pc (fun hg:(!(!rinside))=true=>(pc hg (pc o1 pn))) (pc (fun hg:(!(!rinside))=true=>(pc hg (pc o1 pn))) (pc hG (pc hG (pc hG (pc (fun hq:(!(!rinside))=true=>(pc hq pn)) pn))))))))) <| Runs.nC 0 34 h (fun hq9 h=>?_) (fun hq9 h=>?_)
    ·refine rnZ hE 1 (kp [2]) [] 352 ?_
     cases h
     exact rnU hE 0 Try.f21 (kp [2]) [] 352
    ·refine rnZ hE 3 (kp [0,3,4,14,15,16,36]) (kq [64]) 368 <| Runs.nC 0 36 h (fun hq10 h=>?_) (fun hq10 h=>?_)
     ·exact rnV hE 1 qzd94 [] 0 (g_survey_CheckTrial_J2_ok N _ _ _ ih _ h E hE)
     ·obtain ⟨c3,h⟩:=ifSome h
      refine rnP hE 2 (kp [0,4,5,14,15,16]) qzd171 480 (pc c3 (pc o1 pn)) <| rnP hE 2 (kp [0,4,5,14,15,16,42]) qzd171 576 (pc o1 (pc o1 pn)) <| Runs.nC 0 42 h (fun hq11 h=>?_) (fun hq11 h=>?_)
      ·refine rnZ hE 1 (kp [2]) [] 592 ?_
       cases h
       exact rnU hE 0 Try.f21 (kp [2]) [] 592
      ·refine rnP hE 1 (kp [0,14,15,16,48]) [] 832 (pc o1 (pc o1 (pc o1 (pc (fun hg:(qzd5 l x)=true=>(pc hg (pc o1 pn))) (pc (fun hg:(qzd5 l x)=true=>(pc hg (pc o1 pn))) (pc (fun hg:(qzd5 l x)=true=>(pc hg (pc hg pn))) (pc (fun hq:(qzd5 l x)=true=>(pc hq pn)) pn))))))) <| Runs.nC 0 48 h (fun hq12 h=>?_) (fun hq12 h=>?_)
       ·refine rnZ hE 1 (kp [2]) [] 848 ?_
        cases h
        exact rnU hE 0 Try.f21 (kp [2]) [] 848
       ·exact rnV hE 3 qzd94 [] 0 (g_survey_CheckTrial_J2_ok N _ _ _ ih _ h E hE)
  ·refine rnZ hE 2 (kp [2]) [] 32 ?_
   cases h
   exact rnU hE 0 Try.f21 (kp [2]) [] 48
theorem g_survey_CheckTrial_ok (N:Nat) (l:List TRun) (r:Int) (h:g_survey_CheckTrial N l=some r):Sound Try.prog 21 [(qzd70 l)] [] 0 (aI r) []:=by
 unfold g_survey_CheckTrial at h
 refine sO Try.f21 65 fun E hE=>?_
 refine rnZ hE 1 (kp [0]) [] 16 <| rnZ hE 3 (kp [0,6]) [] 80 <| Runs.nC 0 6 h (fun hq2 h=>?_) (fun hq2 h=>?_)
 ·refine rnZ hE 1 (kp [2]) [] 96 ?_
  cases h
  exact rnU hE 0 Try.f21 (kp [2]) [] 96
 ·refine rnZ hE 1 (kp [0,10]) [] 144 <| Runs.nC 0 10 h (fun hq3 h=>?_) (fun hq3 h=>?_)
  ·refine rnZ hE 1 (kp [2]) [] 160 ?_
   cases h
   exact rnU hE 0 Try.f21 (kp [2]) [] 160
  ·refine rnZ hE 4 qzd94 [] 192 <| rnV hE 2 qzd94 [] 0 (g_survey_CheckTrial_L1_ok N _ N _ _ h E hE)
noncomputable abbrev C_81:=bt Try.f58
def g_e_natural_L1_H (N:Nat) (K:Int→(List Int)→Option qzd15):Prop:=∀ (n2:Int) (out:List Int) (r:(List Int)),K n2 out=some r→∀ E,EnvOk E 0→Runs Try.prog E 58 14 (SPost E [] (qzd69 r)) [.code (C_81 56),.inLoop (C_81 56),.inBlock 0,.code (C_81 15)] ⟨[(0,(qzd31 n2)),(3,(qzd32 out))],[(0,aO 1 (cU .u16) 0 out)],1⟩
theorem g_e_natural_L1_ok (N:Nat) (fuel:Nat):g_e_natural_L1_H N (g_e_natural_L1 N fuel):=by
 induction fuel with
 | zero=>intro _ _ r h;rw [g_e_natural_L1.eq_1] at h;cases h
 | succ fuel ih =>
  intro n2 out r h E hE
  rw [g_e_natural_L1.eq_2] at h
  refine rnZ hE 2 (kp [0,3,5]) (kq [0]) 33 <| Runs.nC 0 5 h (fun hq2 h=>?_) (fun hq2 h=>?_)
  ·obtain ⟨c,h⟩:=ifSome h
   refine rnP hE 3 (kp [0] ++ [(3,.osl ((qzd6 out n2).length))]) [(97,arW 97 (cU .u16) 0 (qzd6 out n2))] 129 (pc (Eq.refl out.length) (pc c (pc (z1 1) (pc (oN [[(qzd29 n2)]]) (pc (len_app0 out (qzd60 n2)) (pc (len_app0 out (qzd60 n2)) (pc (gA1 (cU .u16) 0 out (qzd60 n2)) pn))))))) <| rnP hE 1 (kp [0,3]) (kq [97]) 177 (pc (show (0:Int)≤16 by decide) pn) <| rnV hE 1 (kp [0,3]) [(0,.keep 97)] 1 (ih _ _ _ h E hE)
  ·refine rnZ hE 2 (kp [2]) (kq [0]) 65 ?_
   obtain rfl:=Option.some.inj h
   exact Runs.nT hE 0 Try.f58 [0] [(2,slW (cU .u16) 0 out)] [] 65 (pc (Eq.refl out.length) (pc (z1 out.length) (pc (eZ (cU .u16) 0 out) pn))) [] pn
theorem g_e_natural_ok (N:Nat) (n:Int) (r:(List Int)) (h:g_e_natural N n=some r):Sound Try.prog 58 [(qzd31 n)] [] 0 (qzd69 r) []:=by
 unfold g_e_natural at h
 refine sO Try.f58 14 fun E hE=>?_
 refine rnZ hE 1 (kp [0]) [] 16 <| rnZ hE 1 (kp [0,3]) [] 32 <| rnV hE 3 (kp [0] ++ [(3,.nilos 0)]) [(0,.nil 1 (fun zi=>(cU .u16) (([]:List Int).getD zi 0)))] 1 (g_e_natural_L1_ok N N _ _ _ h E hE)
noncomputable abbrev C_83:=bt Try.f39
def g_e_trim_L1_H (N:Nat) (K:(List Int)→Option qzd15):Prop:=∀ (n2:List Int) (r:(List Int)),K n2=some r→∀ E,EnvOk E 0→Runs Try.prog E 39 21 (SPost E [] (qzd69 r)) [.code (C_83 24),.inLoop (C_83 24),.inBlock 0,.code (C_83 7)] ⟨[(0,(qzd68 n2))],[],0⟩
theorem g_e_trim_L1_ok (N:Nat) (fuel:Nat):g_e_trim_L1_H N (g_e_trim_L1 N fuel):=by
 induction fuel with
 | zero=>intro _ r h;rw [g_e_trim_L1.eq_1] at h;cases h
 | succ fuel ih =>
  intro n2 r h E hE
  rw [g_e_trim_L1.eq_2] at h
  obtain ⟨c,h⟩:=ifSome h
  refine rnP hE 2 (kp [0,14]) [] 192 (pc (fun hg:(qzd67 n2)=true=>(pc hg pn)) (pc (fun hg:(qzd67 n2)=true=>(pc hg pn)) (pc (fun hg:(qzd67 n2)=true=>(pc hg (pc hg (pc (c hg) pn)))) (pc (fun hg:(qzd67 n2)=true=>(pc hg pn)) (pc (fun hg:(qzd67 n2)=true=>(pc hg pn)) (pc (fun hq:(qzd67 n2)=true=>(pc hq pn)) pn)))))) <| Runs.nC 0 14 h (fun hq2 h=>?_) (fun hq2 h=>?_)
  ·obtain ⟨c2,h⟩:=ifSome h
   obtain ⟨c3,h⟩:=ifSome h
   refine rnP hE 2 [(0,slW (cU .u16) 0 ((n2.take (qzd25 n2)).drop 0))] [] 288 (pc c2 (pc c3 (pc (show (w64 ((qzd174 n2) - 1)).toNat - 0=((n2.take (qzd25 n2)).drop 0).length from (len_ext' n2 0 (qzd25 n2) c2)) (pc (get_ext (cU .u16) 0 n2 0 (qzd25 n2)) pn)))) <| rnV hE 2 (kp [0]) [] 0 (ih _ _ h E hE)
  ·refine rnZ hE 2 (kp [2]) [] 224 ?_
   obtain rfl:=Option.some.inj h
   exact rnU hE 0 Try.f39 (kp [2]) [] 224
theorem g_e_trim_ok (N:Nat) (n:List Int) (r:(List Int)) (h:g_e_trim N n=some r):Sound Try.prog 39 [(qzd68 n)] [] 0 (qzd69 r) []:=by
 unfold g_e_trim at h
 refine sO Try.f39 21 fun E hE=>?_
 refine rnZ hE 1 (kp [0]) [] 16 <| rnV hE 3 (kp [0]) [] 0 (g_e_trim_L1_ok N N _ _ h E hE)
noncomputable abbrev C_84:=bt Try.f60
theorem g_slices_Clone_uint16_uint16_ok (N:Nat) (s:List Int) (r:(List Int)) (h:g_slices_Clone_uint16_uint16 N s=some r):Sound Try.prog 60 [(qzd68 s)] [] 0 (qzd69 r) []:=by
 unfold g_slices_Clone_uint16_uint16 at h
 refine sO Try.f60 8 fun E hE=>?_
 refine rnZ hE 1 (kp [0]) [] 16 <| rnZ hE 2 (kp [0,4]) [] 48 <| Runs.sA 0 [.code (C_84 13),.code (C_84 7)] <| Runs.condBn (o:=.tmp 4) (x:=C_84 26) (y:=C_84 27) (n:=s.length) (by kernel_rfl) (by kernel_rfl) (fun hq2=>?_) ?_
 ·replace hq2:=List.length_eq_zero_iff.1 hq2
  replace h:(some ([]:List Int))=some r:=by rw [hq2] at h;simpa using h
  refine rnZ hE 1 (kp [2]) [] 64 ?_
  cases h
  exact Runs.nT hE 0 Try.f60 [] [(2,slW (cU .u16) 0 ([]:List Int))] [] 64 (pc (Eq.refl 0) pn) [] pn
 ·obtain ⟨c,h⟩:=ifSome h
  refine rnP hE 2 [(2,.osl ((qzd17 s).length))] [(80,arW 80 (cU .u16) 0 (qzd17 s))] 112 (pc (Eq.refl 0) (pc c (pc (show ∀ zi,zi < s.length→AV.oneL ((fun zi=>(cU .u16) (s.getD zi 0)) zi)=true from (fun _ _=>rfl)) (pc (len_app0 ([]:List Int) s) (pc (len_app0 ([]:List Int) s) (pc (show ∀ zi,zi < (qzd17 s).length→(fun zi=>(cU .u16) ((qzd17 s).getD zi 0)) zi=((fun zm=>if zm < 0 then (fun _=>[]) zm else (fun zi=>(cU .u16) (s.getD zi 0)) (zm - 0))) zi from (get_app_raw (cU .u16) 0 ([]:List Int) s rfl (fun zq hzq=>absurd hzq (Nat.not_lt_zero _)) (fun _ _=>rfl))) pn)))))) ?_
  cases h
  exact Runs.nT hE 0 Try.f60 [80] [(2,slW (cU .u16) 0 (qzd17 s))] [] 112 (pc (Eq.refl ((qzd17 s).length)) (pc (z1 ((qzd17 s).length)) (pc (eZ (cU .u16) 0 (qzd17 s)) pn))) [] pn
theorem g_e_signed_ok (N:Nat) (neg:Bool) (n:List Int) (r:TInt) (h:g_e_signed N neg n=some r):Sound Try.prog 42 [(aB neg),(qzd68 n)] [] 0 (qzd26 r) []:=by
 unfold g_e_signed at h
 refine sO Try.f42 15 fun E hE=>?_
 refine rnZ hE 1 qzd83 (kq [0]) 16 ?_
 obtain ⟨rtrim,hr,h⟩:=bindSome h
 refine rnH hE 1 [(1,⟨[],true,(qzd69 rtrim),[],0,false,none⟩)] qzd83 (kq [0]) 64 (pc (g_e_trim_ok _ _ _ hr) pn) <| rnZ hE 2 (kp [0,1,4,9]) (kq [0]) 112 <| Runs.nC 0 9 h (fun hq2 h=>?_) (fun hq2 h=>?_)
 ·refine rnP hE 1 (kp [4]) (kq [0]) 144 (pc o1 pn) ?_
  cases h
  exact Runs.nT hE 0 Try.f42 [] (kp [4]) [(16,.var 0 [.keep,slW (cU .u16) 0 ([]:List Int)])] 144 (pc (Eq.refl 0) pn) [16] (pc o1 pn)
 ·obtain ⟨rClone,hr2,h⟩:=bindSome h
  refine rnH hE 2 [(2,⟨[],true,(qzd69 rClone),[],0,false,none⟩)] (kp [4]) (kq [0]) 192 (pc (g_slices_Clone_uint16_uint16_ok _ _ _ hr2) (pc o1 pn)) ?_
  cases h
  exact Runs.nT hE 0 Try.f42 [] (kp [4]) [(16,.keep 0)] 192 pn [16] (pc o1 pn)
theorem g_e_Of_ok (N:Nat) (n:Int) (r:TInt) (h:g_e_Of N n=some r):Sound Try.prog 38 [(aI n)] [] 0 (qzd26 r) []:=by
 unfold g_e_Of at h
 refine sO Try.f38 14 fun E hE=>?_
 refine rnZ hE 1 (kp [0,2]) (kq [0]) 16 <| rnZ hE 2 (kp [0,2,4]) (kq [0]) 48 <| Runs.nC 0 4 h (fun hq2 h=>?_) (fun hq2 h=>?_)
 ·obtain ⟨rnatural,hr,h⟩:=bindSome h
  obtain ⟨rsigned,hr2,h⟩:=bindSome h
  refine rnH hE 1 [(3,⟨[],true,(qzd69 rnatural),[],0,false,none⟩),(4,⟨[],true,(qzd26 rsigned),[],0,false,none⟩)] (kp [2]) (kq [0]) 144 (pc (g_e_natural_ok _ _ _ hr) (pc (g_e_signed_ok _ _ _ _ hr2) (pc o1 pn))) ?_
  obtain rfl:=Option.some.inj h
  exact Runs.nT hE 0 Try.f38 [] (kp [2]) [(16,.keep 0)] 144 pn [16] (pc o1 pn)
 ·obtain ⟨rnatural2,hr3,h⟩:=bindSome h
  obtain ⟨rsigned2,hr4,h⟩:=bindSome h
  refine rnH hE 2 [(2,⟨[],true,(qzd69 rnatural2),[],0,false,none⟩),(3,⟨[],true,(qzd26 rsigned2),[],0,false,none⟩)] (kp [2]) (kq [0]) 128 (pc (g_e_natural_ok _ _ _ hr3) (pc (g_e_signed_ok _ _ _ _ hr4) (pc o1 pn))) ?_
  obtain rfl:=Option.some.inj h
  exact Runs.nT hE 0 Try.f38 [] (kp [2]) [(16,.keep 0)] 128 pn [16] (pc o1 pn)
noncomputable abbrev C_87:=bt Try.f59
def g_e_word_L1_H (N:Nat) (n:List Int) (K:Int→Int→Option (Int×Bool)):Prop:=∀ (out:Int) (i:Int) (r:Int×Bool),K out i=some r→∀ E,EnvOk E 0→Runs Try.prog E 59 25 (SPost E [] (qzd35 r)) [.code (C_87 244),.inLoop (C_87 244),.inBlock 0,.code (C_87 31)] ⟨[(0,(qzd68 n)),(4,(qzd31 out)),(5,(aI i))],[],0⟩
theorem g_e_word_L1_ok (N:Nat) (n:List Int) (fuel:Nat):g_e_word_L1_H N n (g_e_word_L1 N n fuel):=by
 induction fuel with
 | zero=>intro _ _ r h;rw [g_e_word_L1.eq_1] at h;cases h
 | succ fuel ih =>
  intro out i r h E hE
  rw [g_e_word_L1.eq_2] at h
  refine rnZ hE 2 (kp [0,4,5,13]) [] 32 <| Runs.nC 0 13 h (fun hq3 h=>?_) (fun hq3 h=>?_)
  ·obtain ⟨c,h⟩:=ifSome h
   refine rnP hE 3 qzd98 [] 176 (pc (show (0:Int)≤16 by decide) (pc c pn)) <| rnZ hE 1 qzd98 [] 224 <| rnV hE 1 qzd98 [] 0 (ih _ _ _ h E hE)
  ·refine rnZ hE 2 (kp [2,3]) [] 80 ?_
   cases h
   exact rnU hE 0 Try.f59 (kp [2,3]) [] 80
theorem g_e_word_ok (N:Nat) (n:List Int) (r:Int×Bool) (h:g_e_word N n=some r):Sound Try.prog 59 [(qzd68 n)] [] 0 (qzd35 r) []:=by
 unfold g_e_word at h
 refine sO Try.f59 25 fun E hE=>?_
 refine rnZ hE 1 (kp [0]) [] 32 <| rnZ hE 2 (kp [0,8]) [] 80 <| Runs.nC 0 8 h (fun hq2 h=>?_) (fun hq2 h=>?_)
 ·refine rnZ hE 1 (kp [2,3]) [] 112 ?_
  cases h
  exact rnU hE 0 Try.f59 (kp [2,3]) [] 112
 ·refine rnZ hE 2 (kp [0,4]) [] 96 <| rnZ hE 2 qzd98 [] 160 <| rnV hE 2 qzd98 [] 0 (g_e_word_L1_ok N _ N _ _ _ h E hE)
noncomputable abbrev C_89:=bt Try.f46
def g_e_compare_L1_H (N:Nat) (a:List Int) (b:List Int) (K:Int→Option (Int)):Prop:=∀ (i:Int) (r:Int),K i=some r→∀ E,EnvOk E 0→Runs Try.prog E 46 43 (SPost E [] (aI r)) [.code (C_89 116),.inLoop (C_89 116),.inBlock 0,.code (C_89 15)] ⟨[(0,(qzd68 a)),(1,(qzd68 b)),(5,(aI i))],[],0⟩
theorem g_e_compare_L1_ok (N:Nat) (a:List Int) (b:List Int) (fuel:Nat):g_e_compare_L1_H N a b (g_e_compare_L1 N a b fuel):=by
 induction fuel with
 | zero=>intro _ r h;rw [g_e_compare_L1.eq_1] at h;cases h
 | succ fuel ih =>
  intro i r h E hE
  rw [g_e_compare_L1.eq_2] at h
  refine rnZ hE 2 (kp [0,1,5,20]) [] 32 <| Runs.nC 0 20 h (fun hq3 h=>?_) (fun hq3 h=>?_)
  ·obtain ⟨c,h⟩:=ifSome h
   obtain ⟨c2,h⟩:=ifSome h
   refine rnP hE 4 (kp [0,1,5,31]) [] 176 (pc c (pc c2 pn)) <| Runs.nC 0 31 h (fun hq4 h=>?_) (fun hq4 h=>?_)
   ·refine rnP hE 1 (kp [4]) [] 368 (pc c (pc c2 pn)) ?_
    cases h
    exact rnU hE 0 Try.f46 (kp [4]) [] 368
   ·refine rnZ hE 2 qzd90 [] 224 <| rnV hE 1 qzd90 [] 0 (ih _ _ h E hE)
  ·refine rnZ hE 2 (kp [4]) [] 48 ?_
   cases h
   exact rnU hE 0 Try.f46 (kp [4]) [] 48
theorem g_e_compare_ok (N:Nat) (a:List Int) (b:List Int) (r:Int) (h:g_e_compare N a b=some r):Sound Try.prog 46 [(qzd68 a),(qzd68 b)] [] 0 (aI r) []:=by
 unfold g_e_compare at h
 refine sO Try.f46 43 fun E hE=>?_
 refine rnZ hE 1 (kp [0,1]) [] 16 <| rnZ hE 2 (kp [0,1,10]) [] 96 <| Runs.nC 0 10 h (fun hq2 h=>?_) (fun hq2 h=>?_)
 ·refine rnZ hE 1 (kp [4]) [] 192 ?_
  cases h
  exact rnU hE 0 Try.f46 (kp [4]) [] 192
 ·refine rnZ hE 3 qzd90 [] 160 <| rnV hE 2 qzd90 [] 0 (g_e_compare_L1_ok N _ _ N _ _ h E hE)
noncomputable abbrev C_90:=bt Try.f61
def g_e_short_L1_H (N:Nat) (a:List Int) (b:Int) (K:(List Int)→Int→Int→Option ((List Int)×Int)):Prop:=∀ (q:List Int) (rest:Int) (i:Int) (r:(List Int)×Int),K q rest i=some r→∀ E,EnvOk E 0→Runs Try.prog E 61 43 (SPost E [] (qzd37 r)) [.code (C_90 244),.inLoop (C_90 244),.inBlock 0,.code (C_90 31)] ⟨[(0,(qzd68 a)),(1,(.atom (.int .u16 b))),(6,(qzd32 q)),(7,(qzd30 rest)),(8,(aI i))],[(0,aO 1 (cU .u16) 0 q)],1⟩
theorem g_e_short_L1_ok (N:Nat) (a:List Int) (b:Int) (fuel:Nat):g_e_short_L1_H N a b (g_e_short_L1 N a b fuel):=by
 induction fuel with
 | zero=>intro _ _ _ r h;rw [g_e_short_L1.eq_1] at h;cases h
 | succ fuel ih =>
  intro q rest i r h E hE
  rw [g_e_short_L1.eq_2] at h
  refine rnZ hE 2 (kp [0,1,6,7,8,16]) (kq [0]) 33 <| Runs.nC 0 16 h (fun hq2 h=>?_) (fun hq2 h=>?_)
  ·obtain ⟨c2,h⟩:=ifSome h
   refine rnP hE 4 qzd91 (kq [0]) 177 (pc (show (0:Int)≤16 by decide) (pc c2 pn)) ?_
   obtain ⟨c3,h⟩:=ifSome h
   obtain ⟨c4,h⟩:=ifSome h
   refine rnP hE 1 (kp [0,1] ++ [(6,.osl ((qzd9 q i rest a b).length))] ++ kp [7,8]) [(0,arW 0 (cU .u16) 0 (qzd9 q i rest a b))] 321 (pc c3 (pc c4 (pc (ltOf c4) (pc (len_set0 q ((i).toNat) (qzd51 rest a i b)) (pc (len_set0 q ((i).toNat) (qzd51 rest a i b)) (pc (get_set0 (cU .u16) 0 q ((i).toNat) (qzd51 rest a i b)) pn)))))) <| rnP hE 0 qzd91 (kq [0]) 401 (pc c3 pn) <| rnZ hE 1 qzd91 (kq [0]) 449 <| rnV hE 1 qzd91 (kq [0]) 1 (ih _ _ _ _ h E hE)
  ·obtain ⟨rtrim,hr,h⟩:=bindSome h
   refine rnH hE 2 [(1,⟨[],true,(qzd69 rtrim),[],0,true,none⟩)] (kp [4,5]) [] 129 (pc (g_e_trim_ok _ _ _ hr) (pc (z1 q.length) pn)) ?_
   cases h
   exact rnU hE 0 Try.f61 (kp [4,5]) [] 129
theorem g_e_short_ok (N:Nat) (a:List Int) (b:Int) (r:(List Int)×Int) (h:g_e_short N a b=some r):Sound Try.prog 61 [(qzd68 a),(.atom (.int .u16 b))] [] 0 (qzd37 r) []:=by
 unfold g_e_short at h
 refine sO Try.f61 43 fun E hE=>?_
 refine rnZ hE 1 (kp [0,1]) [] 32 ?_
 obtain ⟨c,h⟩:=ifSome h
 refine rnP hE 1 (kp [0,1] ++ [(6,.osl ((qzd56 a).length))]) [(64,arW 64 (cU .u16) 0 (qzd56 a))] 96 (pc c.1 (pc (Int.le_refl (qzd174 a)) (pc c.2.1 (pc c.2.2 (pc (lR a.length (0:Int)) (pc (lR a.length (0:Int)) (pc (get_rep (cU .u16) 0 0 a.length) pn))))))) <| rnZ hE 1 (kp [0,1,6,7]) (kq [64]) 112 <| rnZ hE 2 qzd91 (kq [64]) 176 <| rnV hE 2 qzd91 [(0,.keep 64)] 1 (g_e_short_L1_ok N _ _ N _ _ _ _ h E hE)
noncomputable abbrev C_92:=bt Try.f67
def g_math_bits_Len16_J1_H (N:Nat) (K:Int→Int→Option (Int)):Prop:=∀ (x2:Int) (n:Int) (r:Int),K x2 n=some r→∀ E,EnvOk E 0→Runs Try.prog E 67 13 (SPost E [] (aI r)) [.code (C_92 14),.code (C_92 15)] ⟨[(0,(.atom (.int .u16 x2))),(2,(aI n))],[],0⟩
theorem g_math_bits_Len16_J1_ok (N:Nat):g_math_bits_Len16_J1_H N (g_math_bits_Len16_J1 N):=by
 intro x2 n r h E hE
 unfold g_math_bits_Len16_J1 at h
 obtain ⟨c,h⟩:=ifSome h
 refine rnP hE 0 (kp [2]) [] 112 (pc c pn) ?_
 cases h
 exact rnU hE 0 Try.f67 (kp [2]) [] 112
theorem g_math_bits_Len16_ok (N:Nat) (x:Int) (r:Int) (h:g_math_bits_Len16 N x=some r):Sound Try.prog 67 [(.atom (.int .u16 x))] [] 0 (aI r) []:=by
 unfold g_math_bits_Len16 at h
 refine sO Try.f67 13 fun E hE=>?_
 refine rnZ hE 1 (kp [0,2]) [] 16 <| rnZ hE 2 (kp [0,2,4]) [] 48 <| Runs.nC 0 4 h (fun hq2 h=>?_) (fun hq2 h=>?_)
 ·refine rnP hE 1 (kp [0]) [] 96 (pc (show (0:Int)≤8 by decide) pn) <| rnZ hE 0 (kp [0,2]) [] 112 <| rnV hE 1 (kp [0,2]) [] 0 (g_math_bits_Len16_J1_ok N _ _ _ h E hE)
 ·exact rnV hE 2 (kp [0,2]) [] 0 (g_math_bits_Len16_J1_ok N _ _ _ h E hE)
theorem g_math_bits_LeadingZeros16_ok (N:Nat) (x:Int) (r:Int) (h:g_math_bits_LeadingZeros16 N x=some r):Sound Try.prog 62 [(.atom (.int .u16 x))] [] 0 (aI r) []:=by
 unfold g_math_bits_LeadingZeros16 at h
 refine sO Try.f62 6 fun E hE=>?_
 refine rnZ hE 1 (kp [0]) [] 16 ?_
 obtain ⟨rLen16,hr,h⟩:=bindSome h
 refine rnH hE 1 [(1,⟨[],true,(aI rLen16),[],0,false,none⟩)] (kp [2]) [] 80 (pc (g_math_bits_Len16_ok _ _ _ hr) pn) ?_
 cases h
 exact rnU hE 0 Try.f62 (kp [2]) [] 80
noncomputable abbrev C_93:=bt Try.f63
def g_e_shifted_L1_H (N:Nat) (a:List Int) (vby:Int) (K:(List Int)→Int→Option qzd15):Prop:=∀ (out:List Int) (x:Int) (r:(List Int)),K out x=some r→∀ E,EnvOk E 0→Runs Try.prog E 63 41 (SPost E [(0,aO 1 (cU .u16) 0 r)] (.os 0 0 r.length)) [.code (C_93 116),.inLoop (C_93 116),.inBlock 0,.code (C_93 15)] ⟨[(1,(aI vby)),(5,(qzd32 out)),(13,(qzd68 a)),(qzd42 a),(15,(aI x))],[(0,aO 1 (cU .u16) 0 out)],1⟩
theorem g_e_shifted_L1_ok (N:Nat) (a:List Int) (vby:Int) (fuel:Nat):g_e_shifted_L1_H N a vby (g_e_shifted_L1 N a vby fuel):=by
 induction fuel with
 | zero=>intro _ _ r h;rw [g_e_shifted_L1.eq_1] at h;cases h
 | succ fuel ih =>
  intro out x r h E hE
  rw [g_e_shifted_L1.eq_2] at h
  refine rnZ hE 1 (kp [1,5,13,14,15,16]) (kq [0]) 17 <| Runs.nC 1 16 h (fun hq2 h=>?_) (fun hq2 h=>?_)
  ·obtain ⟨c2,h⟩:=ifSome h
   refine rnP hE 4 (kp [1,5,6,7,13,14,15]) (kq [0]) 97 (pc c2 pn) ?_
   obtain ⟨c3,h⟩:=ifSome h
   refine rnP hE 1 (kp [1,5,6,8,13,14,15]) (kq [0]) 177 (pc c3 pn) ?_
   obtain ⟨c4,h⟩:=ifSome h
   refine rnP hE 1 (kp [1] ++ [(5,.osl ((qzd11 out x a vby).length))] ++ kp [6,8,13,14,15]) [(0,arW 0 (cU .u16) 0 (qzd11 out x a vby))] 321 (pc c4 (pc (ltOf c4) (pc c4 (pc (ltOf c4) (pc (len_set0 out ((x).toNat) (qzd172 out x a vby)) (pc (len_set0 out ((x).toNat) (qzd172 out x a vby)) (pc (get_set0 (cU .u16) 0 out ((x).toNat) (qzd172 out x a vby)) pn))))))) ?_
   obtain ⟨c5,h⟩:=ifSome h
   refine rnP hE 0 (kp [1] ++ [(5,.osl ((qzd14 out x a vby).length))] ++ kp [13,14,15]) [(0,arW 0 (cU .u16) 0 (qzd14 out x a vby))] 449 (pc (show (0:Int)≤16 by decide) (pc c5 (pc (ltOf c5) (pc (len_set0 (qzd11 out x a vby) ((w64 (x+1)).toNat) (qzd53 a x vby)) (pc (len_set0 (qzd11 out x a vby) ((w64 (x+1)).toNat) (qzd53 a x vby)) (pc (get_set0 (cU .u16) 0 (qzd11 out x a vby) ((w64 (x+1)).toNat) (qzd53 a x vby)) pn)))))) <| rnZ hE 1 qzd108 (kq [0]) 481 <| rnV hE 1 qzd108 (kq [0]) 1 (ih _ _ _ h E hE)
  ·refine rnZ hE 2 (kp [4]) (kq [0]) 49 ?_
   obtain rfl:=Option.some.inj h
   exact rnU hE 0 Try.f63 (kp [4]) (kq [0]) 49
theorem g_e_shifted_ok (N:Nat) (a:List Int) (vby:Int) (r:(List Int)) (h:g_e_shifted N a vby=some r):Sound Try.prog 63 [(qzd68 a),(aI vby)] [] 0 (.os 0 0 r.length) [(0,aO 1 (cU .u16) 0 r)]:=by
 unfold g_e_shifted at h
 refine sO Try.f63 41 fun E hE=>?_
 refine rnZ hE 1 (kp [0,1]) [] 16 ?_
 obtain ⟨c,h⟩:=ifSome h
 refine rnP hE 1 (kp [0,1] ++ [(5,.osl ((qzd58 a).length))]) [(64,arW 64 (cU .u16) 0 (qzd58 a))] 96 (pc c.1 (pc (Int.le_refl (qzd183 a)) (pc c.2.1 (pc c.2.2 (pc (lR (qzd23 a) (0:Int)) (pc (lR (qzd23 a) (0:Int)) (pc (get_rep (cU .u16) 0 0 (qzd23 a)) pn))))))) <| rnZ hE 2 qzd108 (kq [64]) 144 <| rnV hE 2 qzd108 [(0,.keep 64)] 1 (g_e_shifted_L1_ok N _ _ N _ _ _ h E hE)
noncomputable abbrev C_94:=bt Try.f64
def g_e_digit_L1_H (N:Nat) (uo:Nat) (un:Nat) (v:List Int) (cap0:List Int) (K:Int→Int→Option qzd46):Prop:=∀ (q:Int) (rest:Int) (r:Int×(List Int)),K q rest=some r→∀ E,EnvOk E 1→Runs Try.prog E 64 161 (SPost E [(0,aO 1 (cU .u16) 0 r.2)] (qzd28 r)) [.code (C_94 248),.inLoop (C_94 248),.inBlock 0,.code (C_94 63)] ⟨[(0,(.os 0 uo un)),(1,(qzd68 v)),(qzd44 v),(7,(qzd31 q)),(8,(qzd31 rest))],[(0,aO 1 (cU .u16) 0 cap0)],1⟩
def g_e_digit_L2_H (N:Nat) (uo:Nat) (un:Nat) (v:List Int) (q:Int) (K:(List Int)→Int→Int→Int→Option qzd46):Prop:=∀ (cap02:List Int) (carry:Int) (borrow:Int) (x:Int) (r:Int×(List Int)),K cap02 carry borrow x=some r→∀ E,EnvOk E 1→Runs Try.prog E 64 161 (SPost E [(0,aO 1 (cU .u16) 0 r.2)] (qzd28 r)) [.code (C_94 2036),.inLoop (C_94 2036),.inBlock 2,.code (C_94 255)] ⟨[(0,(.os 0 uo un)),(1,(qzd68 v)),(qzd44 v),(7,(qzd31 q)),(9,(qzd31 carry)),(10,(aI borrow)),(84,(aI (qzd183 v))),(85,(aI x))],[(0,aO 1 (cU .u16) 0 cap02)],1⟩
def g_e_digit_J3_H (N:Nat) (uo:Nat) (un:Nat) (v:List Int) (q:Int) (cap02:List Int) (borrow:Int) (x:Int) (K:Int→Option qzd46):Prop:=∀ (x2:Int) (r:Int×(List Int)),K x2=some r→∀ E,EnvOk E 1→Runs Try.prog E 64 161 (SPost E [(0,aO 1 (cU .u16) 0 r.2)] (qzd28 r)) [.code (C_94 521422),.code (C_94 521423),.inBlock 3,.code (C_94 16295),.inLoop (C_94 2036),.inBlock 2,.code (C_94 255)] ⟨[(0,(.os 0 uo un)),(1,(qzd68 v)),(qzd44 v),(7,(qzd31 q)),(10,(aI borrow)),(11,(aI x)),(12,(qzd31 x2)),(84,(aI (qzd183 v))),(85,(aI x))],[(0,aO 1 (cU .u16) 0 cap02)],1⟩
theorem g_e_digit_J3_ok (N:Nat) (uo:Nat) (un:Nat) (v:List Int) (q:Int) (cap02:List Int) (borrow:Int) (x:Int) (K_g_e_digit_L2:(List Int)→Int→Int→Int→Option qzd46) (hK_g_e_digit_L2:g_e_digit_L2_H N uo un v q K_g_e_digit_L2):g_e_digit_J3_H N uo un v q cap02 borrow x (g_e_digit_J3 N uo un v q cap02 borrow x K_g_e_digit_L2):=by
 intro x2 r h E hE
 unfold g_e_digit_J3 at h
 refine rnP hE 0 (kp [0,1,5,7,9,10,11,12,84,85]) (kq [0]) 49 (pc (show (0:Int)≤16 by decide) pn) ?_
 obtain ⟨c11,h⟩:=ifSome h
 obtain ⟨c12,h⟩:=ifSome h
 refine rnP hE 1 (kp [0,1,5,7,9,11,13,84,85]) (kq [0]) 241 (pc c11 (pc (show (addz uo (x).toNat) < cap02.length by have h1:=c11;have h2:=c12;simp only [addz_eq];omega) pn)) <| rnP hE 1 (kp [0,1,5,7,9,13,84,85]) [(0,arW 0 (cU .u16) 0 (cap02.set (addz uo (x).toNat) (qzd54 cap02 uo x x2 borrow)))] 337 (pc c11 (pc (show (addz uo (x).toNat) < cap02.length by have h1:=c11;have h2:=c12;simp only [addz_eq];omega) (pc (len_set0 cap02 (addz uo (x).toNat) (qzd54 cap02 uo x x2 borrow)) (pc (get_set0 (cU .u16) 0 cap02 (addz uo (x).toNat) (qzd54 cap02 uo x x2 borrow)) pn)))) <| rnP hE 0 qzd89 (kq [0]) 385 (pc (show (0:Int)≤16 by decide) pn) <| rnZ hE 1 qzd89 (kq [0]) 417 <| rnV hE 1 qzd89 (kq [0]) 1 (hK_g_e_digit_L2 _ _ _ _ _ h E hE)
def g_e_digit_L4_H (N:Nat) (uo:Nat) (un:Nat) (v:List Int) (q:Int) (K:(List Int)→Int→Int→Option qzd46):Prop:=∀ (cap03:List Int) (carry2:Int) (x3:Int) (r:Int×(List Int)),K cap03 carry2 x3=some r→∀ E,EnvOk E 1→Runs Try.prog E 64 161 (SPost E [(0,aO 1 (cU .u16) 0 r.2)] (qzd28 r)) [.code (C_94 130740),.inLoop (C_94 130740),.inBlock 4,.code (C_94 16343),.code (C_94 511)] ⟨[(0,(.os 0 uo un)),(1,(qzd68 v)),(qzd44 v),(7,(.atom (.int .u64 (IntKind.u64.wrap (q - 1))))),(14,(qzd30 carry2)),(126,(qzd63 v)),(127,(aI x3))],[(0,aO 1 (cU .u16) 0 cap03)],1⟩
def g_e_digit_J5_H (N:Nat) (K:(List Int)→Int→Option qzd46):Prop:=∀ (cap04:List Int) (q2:Int) (r:Int×(List Int)),K cap04 q2=some r→∀ E,EnvOk E 1→Runs Try.prog E 64 161 (SPost E [(0,aO 1 (cU .u16) 0 r.2)] (qzd28 r)) [.code (C_94 1022),.code (C_94 1023)] ⟨[(7,(qzd31 q2))],[(0,aO 1 (cU .u16) 0 cap04)],1⟩
theorem g_e_digit_J5_ok (N:Nat):g_e_digit_J5_H N (g_e_digit_J5 N):=by
 intro cap04 q2 r h E hE
 unfold g_e_digit_J5 at h
 refine rnZ hE 0 (kp [4]) (kq [0]) 49 ?_
 cases h
 exact rnU hE 0 Try.f64 (kp [4]) (kq [0]) 49
theorem g_e_digit_L4_ok (N:Nat) (uo:Nat) (un:Nat) (v:List Int) (q:Int) (fuel:Nat):g_e_digit_L4_H N uo un v q (g_e_digit_L4 N uo un v q fuel):=by
 induction fuel with
 | zero=>intro _ _ _ r h;rw [g_e_digit_L4.eq_1] at h;cases h
 | succ fuel ih =>
  intro cap03 carry2 x3 r h E hE
  rw [g_e_digit_L4.eq_2] at h
  refine rnZ hE 1 (kp [0,1,5,7,14,126,127,128]) (kq [0]) 17 <| Runs.nC 1 128 h (fun hq6 h=>?_) (fun hq6 h=>?_)
  ·refine rnZ hE 4 (kp [0,1,5,7,14,15,126,127]) (kq [0]) 49 ?_
   obtain ⟨c13,h⟩:=ifSome h
   obtain ⟨c14,h⟩:=ifSome h
   obtain ⟨c15,h⟩:=ifSome h
   refine rnP hE 1 (kp [0,1,5,7,14,15,126,127]) (kq [0]) 273 (pc c13 (pc (show (addz uo (x3).toNat) < cap03.length by have h1:=c13;have h2:=c14;simp only [addz_eq];omega) (pc c15 pn))) <| rnP hE 1 qzd86 [(0,arW 0 (cU .u16) 0 (cap03.set (addz uo (x3).toNat) (qzd48 carry2 cap03 uo x3 v)))] 369 (pc c13 (pc (show (addz uo (x3).toNat) < cap03.length by have h1:=c13;have h2:=c14;simp only [addz_eq];omega) (pc (len_set0 cap03 (addz uo (x3).toNat) (qzd48 carry2 cap03 uo x3 v)) (pc (get_set0 (cU .u16) 0 cap03 (addz uo (x3).toNat) (qzd48 carry2 cap03 uo x3 v)) pn)))) <| rnP hE 0 qzd86 (kq [0]) 417 (pc (show (0:Int)≤16 by decide) pn) <| rnZ hE 1 qzd86 (kq [0]) 449 <| rnV hE 1 qzd86 (kq [0]) 1 (ih _ _ _ _ h E hE)
  ·obtain ⟨c16,h⟩:=ifSome h
   obtain ⟨c17,h⟩:=ifSome h
   refine rnP hE 1 (kp [7]) [(0,arW 0 (cU .u16) 0 (cap03.set (addz uo v.length) (IntKind.u16.wrap ((cap03.getD (addz uo v.length) 0)+(qzd47 carry2)))))] 161 (pc c16 (pc (show (addz uo v.length) < cap03.length by have h1:=c16;have h2:=c17;simp only [addz_eq];omega) (pc c16 (pc (show (addz uo v.length) < cap03.length by have h1:=c16;have h2:=c17;simp only [addz_eq];omega) (pc (len_set0 cap03 (addz uo v.length) (IntKind.u16.wrap ((cap03.getD (addz uo v.length) 0)+(qzd47 carry2)))) (pc (get_set0 (cU .u16) 0 cap03 (addz uo v.length) (IntKind.u16.wrap ((cap03.getD (addz uo v.length) 0)+(qzd47 carry2)))) pn)))))) <| rnV hE 1 (kp [7]) (kq [0]) 1 (g_e_digit_J5_ok N _ _ _ h E hE)
theorem g_e_digit_L2_ok (N:Nat) (uo:Nat) (un:Nat) (v:List Int) (q:Int) (fuel:Nat):g_e_digit_L2_H N uo un v q (g_e_digit_L2 N uo un v q fuel):=by
 induction fuel with
 | zero=>intro _ _ _ _ r h;rw [g_e_digit_L2.eq_1] at h;cases h
 | succ fuel ih =>
  intro cap02 carry borrow x r h E hE
  rw [g_e_digit_L2.eq_2] at h
  refine rnZ hE 1 (kp [0,1,5,7,9,10,84,85,86]) (kq [0]) 17 <| Runs.nC 1 86 h (fun hq3 h=>?_) (fun hq3 h=>?_)
  ·refine rnZ hE 4 (kp [0,1,5,7,9,10,11,84,85]) (kq [0]) 49 <| rnZ hE 1 qzd85 (kq [0]) 81 <| rnZ hE 2 (kp [0,1,5,7,10,11,12,84,85,91]) (kq [0]) 129 <| Runs.nC 0 91 h (fun hq4 h=>?_) (fun hq4 h=>?_)
   ·obtain ⟨c10,h⟩:=ifSome h
    refine rnP hE 0 qzd85 (kq [0]) 289 (pc c10 pn) <| rnV hE 1 qzd85 (kq [0]) 1 (g_e_digit_J3_ok N _ _ _ _ _ _ _ _ ih _ _ h E hE)
   ·exact rnV hE 2 qzd85 (kq [0]) 1 (g_e_digit_J3_ok N _ _ _ _ _ _ _ _ ih _ _ h E hE)
  ·refine rnZ hE 3 (kp [0,1,5,7,123]) (kq [0]) 49 <| Runs.nC 0 123 h (fun hq5 h=>?_) (fun hq5 h=>?_)
   ·refine rnZ hE 1 (kp [0,1,5,7]) (kq [0]) 97 <| rnZ hE 1 (kp [0,1,5,7,14]) (kq [0]) 113 <| rnZ hE 2 qzd86 (kq [0]) 145 <| rnV hE 2 qzd86 (kq [0]) 1 (g_e_digit_L4_ok N _ _ _ _ N _ _ _ _ h E hE)
   ·exact rnV hE 2 (kp [7]) (kq [0]) 1 (g_e_digit_J5_ok N _ _ _ h E hE)
theorem g_e_digit_L1_ok (N:Nat) (uo:Nat) (un:Nat) (v:List Int) (cap0:List Int) (fuel:Nat):g_e_digit_L1_H N uo un v cap0 (g_e_digit_L1 N uo un v cap0 fuel):=by
 induction fuel with
 | zero=>intro _ _ r h;rw [g_e_digit_L1.eq_1] at h;cases h
 | succ fuel ih =>
  intro q rest r h E hE
  rw [g_e_digit_L1.eq_2] at h
  obtain ⟨c6,h⟩:=ifSome h
  obtain ⟨c7,h⟩:=ifSome h
  obtain ⟨c8,h⟩:=ifSome h
  refine rnP hE 2 (kp [0,1,5,7,8,72]) (kq [0]) 417 (pc (fun hg:(decide (rest < 65536))=true=>(pc hg pn)) (pc (fun hg:(qzd18 rest q)=true=>(pc hg pn)) (pc (fun hg:(qzd18 rest q)=true=>(pc hg (pc hg (pc (c6 hg) pn)))) (pc (fun hg:(qzd18 rest q)=true=>(pc hg pn)) (pc (fun hg:(qzd18 rest q)=true=>(pc hg pn)) (pc (fun hg:(qzd18 rest q)=true=>(pc hg (pc hg pn))) (pc (fun hg:(qzd18 rest q)=true=>(pc hg (pc (show (0:Int)≤16 by decide) pn))) (pc (fun hg:(qzd18 rest q)=true=>(pc hg pn)) (pc (fun hg:(qzd18 rest q)=true=>(pc hg (pc hg (pc (c7 hg) pn)))) (pc (fun hg:(qzd18 rest q)=true=>(pc hg (pc (show (addz uo (w64 (((v.length:Nat):Int) - 2)).toNat) < cap0.length by have h1:=(c7 hg);have h2:=(c8 hg);simp only [addz_eq];omega) pn))) (pc (fun hg:(qzd18 rest q)=true=>(pc hg pn)) (pc (fun hg:(qzd18 rest q)=true=>(pc hg (pc hg pn))) (pc (fun hg:(qzd18 rest q)=true=>(pc hg (pc hg pn))) (pc (fun hg:(decide (rest < 65536))=true=>(pc hg (pc hg (pc (fun hq:(!(decide (q > 65535)))=true=>(pc (show (qzd18 rest q)=true from (andI' hg (andI' hg hq))) pn)) pn)))) (pc (fun hq:(decide (rest < 65536))=true=>(pc hq pn)) pn))))))))))))))) <| Runs.nC 0 72 h (fun hq2 h=>?_) (fun hq2 h=>?_)
  ·refine rnZ hE 3 qzd88 (kq [0]) 465 ?_
   obtain ⟨c9,h⟩:=ifSome h
   refine rnP hE 0 qzd88 (kq [0]) 609 (pc c9 pn) <| rnV hE 2 qzd88 (kq [0]) 1 (ih _ _ _ h E hE)
  ·refine rnZ hE 2 (kp [0,1,5,7,9,10]) (kq [0]) 449 <| rnZ hE 2 qzd89 (kq [0]) 497 <| rnV hE 2 qzd89 (kq [0]) 1 (g_e_digit_L2_ok N _ _ _ _ N _ _ _ _ _ h E hE)
theorem g_e_digit_ok (N:Nat) (uo:Nat) (un:Nat) (v:List Int) (cap0:List Int) (r:Int×(List Int)) (h:g_e_digit N uo un v cap0=some r):Sound Try.prog 64 [(.os 0 uo un),(qzd68 v)] [(0,aO 1 (cU .u16) 0 cap0)] 1 (qzd28 r) [(0,aO 1 (cU .u16) 0 r.2)]:=by
 unfold g_e_digit at h
 refine sO Try.f64 161 fun E hE=>?_
 refine rnZ hE 1 (kp [0,1]) (kq [0]) 17 <| rnZ hE 1 qzd90 (kq [0]) 65 ?_
 obtain ⟨c,h⟩:=ifSome h
 obtain ⟨c2,h⟩:=ifSome h
 obtain ⟨c3,h⟩:=ifSome h
 refine rnP hE 1 qzd84 (kq [0]) 289 (pc c (pc (show (addz uo v.length) < cap0.length by have h1:=c;have h2:=c2;simp only [addz_eq];omega) (pc (show (0:Int)≤16 by decide) (pc c3 (pc (show (addz uo (w64 (((v.length:Nat):Int) - 1)).toNat) < cap0.length by have h1:=c3;have h2:=c2;simp only [addz_eq];omega) pn))))) ?_
 obtain ⟨c4,h⟩:=ifSome h
 obtain ⟨c5,h⟩:=ifSome h
 refine rnP hE 1 qzd88 (kq [0]) 577 (pc c4 (pc c5 (pc c4 (pc c5 pn)))) <| rnV hE 3 qzd88 (kq [0]) 1 (g_e_digit_L1_ok N _ _ _ _ N _ _ _ h E hE)
noncomputable abbrev C_88:=bt Try.f41
def g_e_divide_L1_H (N:Nat) (b:List Int) (rLeadingZeros:Int) (rshifted2:(List Int)) (K:(List Int)→(List Int)→Int→Option ((List Int)×(List Int))):Prop:=∀ (q:List Int) (u:List Int) (j:Int) (r:(List Int)×(List Int)),K q u j=some r→∀ E,EnvOk E 0→Runs Try.prog E 41 109 (SPost E [] (qzd38 r)) [.code (C_88 4084),.inLoop (C_88 4084),.inBlock 0,.code (C_88 511)] ⟨[(4,(qzd32 q)),(8,(aI rLeadingZeros)),(9,(.os 1 0 u.length)),(10,(.os 2 0 (b.length - 0))),(11,(aI (qzd185 b))),(12,(aI j))],[(0,aO 1 (cU .u16) 0 q),(1,aO 1 (cU .u16) 0 u),(2,aO 1 (cU .u16) 0 rshifted2)],3⟩
def g_e_divide_L2_H (N:Nat) (b:List Int) (rLeadingZeros:Int) (q:List Int) (u:List Int) (K:(List Int)→Int→Option ((List Int)×(List Int))):Prop:=∀ (vr:List Int) (x:Int) (r:(List Int)×(List Int)),K vr x=some r→∀ E,EnvOk E 0→Runs Try.prog E 41 109 (SPost E [] (qzd38 r)) [.code (C_88 16372),.inLoop (C_88 16372),.inBlock 2,.code (C_88 2047)] ⟨[(4,(qzd32 q)),(5,(.os 1 0 vr.length)),(8,(aI rLeadingZeros)),(9,(.os 2 0 u.length)),(81,(aI (qzd185 b))),(82,(aI x))],[(0,aO 1 (cU .u16) 0 q),(1,aO 1 (cU .u16) 0 vr),(2,aO 1 (cU .u16) 0 u)],3⟩
theorem g_e_divide_L2_ok (N:Nat) (b:List Int) (rLeadingZeros:Int) (q:List Int) (u:List Int) (fuel:Nat):g_e_divide_L2_H N b rLeadingZeros q u (g_e_divide_L2 N b rLeadingZeros q u fuel):=by
 induction fuel with
 | zero=>intro _ _ r h;rw [g_e_divide_L2.eq_1] at h;cases h
 | succ fuel ih =>
  intro vr x r h E hE
  rw [g_e_divide_L2.eq_2] at h
  refine rnZ hE 1 (kp [4,5,8,9,81,82,83]) qzd153 19 <| Runs.nC 1 83 h (fun hq5 h=>?_) (fun hq5 h=>?_)
  ·refine rnZ hE 4 (kp [4,5,8,9,13,81,82]) qzd153 51 ?_
   obtain ⟨c12,h⟩:=ifSome h
   obtain ⟨c13,h⟩:=ifSome h
   obtain ⟨c14,h⟩:=ifSome h
   obtain ⟨c15,h⟩:=ifSome h
   refine rnP hE 0 (kp [4] ++ [(5,.osl ((qzd10 vr x u rLeadingZeros).length))] ++ kp [8,9,81,82]) (kq [0] ++ [(1,arW 1 (cU .u16) 0 (qzd10 vr x u rLeadingZeros))] ++ kq [2]) 371 (pc c12 (pc (ltOf c12) (pc c13 (pc (ltOf c13) (pc (show (0:Int)≤16 by decide) (pc c14 (pc c15 (pc (ltOf c15) (pc (len_set0 vr ((x).toNat) (qzd52 u x rLeadingZeros)) (pc (len_set0 vr ((x).toNat) (qzd52 u x rLeadingZeros)) (pc (get_set0 (cU .u16) 0 vr ((x).toNat) (qzd52 u x rLeadingZeros)) pn))))))))))) <| rnZ hE 1 qzd142 qzd153 403 <| rnV hE 1 qzd142 qzd153 3 (ih _ _ _ h E hE)
  ·obtain ⟨rtrim2,hr9,h⟩:=bindSome h
   obtain ⟨rtrim3,hr10,h⟩:=bindSome h
   refine rnH hE 2 [(1,⟨[],true,(qzd69 rtrim2),[],0,true,none⟩),(3,⟨[],true,(qzd69 rtrim3),[],0,true,none⟩)] (kp [4,5]) [] 115 (pc (g_e_trim_ok _ _ _ hr9) (pc (z1 q.length) (pc (g_e_trim_ok _ _ _ hr10) (pc (z1 vr.length) pn)))) ?_
   cases h
   exact rnU hE 0 Try.f41 (kp [4,5]) [] 115
theorem g_e_divide_L1_ok (N:Nat) (b:List Int) (rLeadingZeros:Int) (rshifted2:(List Int)) (fuel:Nat):g_e_divide_L1_H N b rLeadingZeros rshifted2 (g_e_divide_L1 N b rLeadingZeros rshifted2 fuel):=by
 induction fuel with
 | zero=>intro _ _ _ r h;rw [g_e_divide_L1.eq_1] at h;cases h
 | succ fuel ih =>
  intro q u j r h E hE
  rw [g_e_divide_L1.eq_2] at h
  refine rnZ hE 2 (kp [4,8,9,10,11,12,64]) qzd153 35 <| Runs.nC 0 64 h (fun hq4 h=>?_) (fun hq4 h=>?_)
  ·obtain ⟨c5,h⟩:=ifSome h
   obtain ⟨c6,h⟩:=ifSome h
   obtain ⟨c7,h⟩:=ifSome h
   obtain ⟨c8,h⟩:=ifSome h
   obtain ⟨rdigit,hr8,h⟩:=bindSome h
   obtain ⟨c9,h⟩:=ifSome h
   obtain ⟨c10,h⟩:=ifSome h
   refine rnH hE 3 [(10,⟨[1],false,(qzd28 rdigit),[(0,aO 1 (cU .u16) 0 rdigit.2)],0,false,none⟩)] ([(4,.osl ((q.set ((j).toNat) rdigit.1).length))] ++ kp [8] ++ [(9,.osl (rdigit.2.length))] ++ kp [10,11,12]) ([(0,arW 0 (cU .u16) 0 (q.set ((j).toNat) rdigit.1))] ++ kq [1,2]) 243 (pc c5 (pc c6 (pc c7 (pc (show Sound Try.prog 64 [(.os 0 ((j).toNat) ((w64 ((w64 (j+(qzd185 b)))+1)).toNat - (j).toNat)),(.sl (b.length - 0) (fun zi=>(cU .u16) (rshifted2.getD (addz 0 zi) 0)))] [(0,aO 1 (cU .u16) 0 u)] 1 (qzd28 rdigit) [(0,aO 1 (cU .u16) 0 rdigit.2)] from (Sound.conv (g_e_digit_ok _ _ _ _ _ _ hr8) (.cons (Alike.refl _) (.cons (Alike.sl (len_ext' rshifted2 0 b.length c8) (get_ext (cU .u16) 0 rshifted2 0 b.length)) .nil)))) (pc (fL (cU .u16) 0 rdigit.2) (pc (show 0+(b.length - 0)≤rshifted2.length by have:=c8;omega) (pc c10 (pc (ltOf c10) (pc (len_set0 q ((j).toNat) rdigit.1) (pc (show u.length=rdigit.2.length from (Eq.symm c9)) (pc (len_set0 q ((j).toNat) rdigit.1) (pc (get_set0 (cU .u16) 0 q ((j).toNat) rdigit.1) pn)))))))))))) <| rnZ hE 1 qzd143 qzd153 291 <| rnV hE 1 qzd143 qzd153 3 (ih _ _ _ _ h E hE)
  ·obtain ⟨c11,h⟩:=ifSome h
   refine rnP hE 2 (kp [4] ++ [(5,.osl ((List.replicate (b.length - 0) 0:List Int).length))] ++ kp [8,9,11]) (kq [0,1] ++ [(51,arW 51 (cU .u16) 0 (List.replicate (b.length - 0) 0:List Int))]) 83 (pc c11.1 (pc (Int.le_refl (qzd185 b)) (pc c11.2.1 (pc c11.2.2 (pc (lR (b.length - 0) (0:Int)) (pc (lR (b.length - 0) (0:Int)) (pc (get_rep (cU .u16) 0 0 (b.length - 0)) pn))))))) <| rnZ hE 2 qzd142 (kq [0,1,51]) 115 <| rnV hE 2 qzd142 (kq [0] ++ [(1,.keep 51),(2,.keep 1)]) 3 (g_e_divide_L2_ok N _ _ _ _ N _ _ _ h E hE)
theorem g_e_divide_ok (N:Nat) (a:List Int) (b:List Int) (r:(List Int)×(List Int)) (h:g_e_divide N a b=some r):Sound Try.prog 41 [(qzd68 a),(qzd68 b)] [] 0 (qzd38 r) []:=by
 unfold g_e_divide at h
 refine sO Try.f41 109 fun E hE=>?_
 refine rnZ hE 1 (kp [0,1]) [] 32 ?_
 obtain ⟨rcompare,hr,h⟩:=bindSome h
 refine rnH hE 2 [(2,⟨[],true,(aI rcompare),[],0,false,none⟩)] (kp [0,1,17]) [] 96 (pc (g_e_compare_ok _ _ _ _ hr) pn) <| Runs.nC 0 17 h (fun hq2 h=>?_) (fun hq2 h=>?_)
 ·obtain ⟨rClone,hr2,h⟩:=bindSome h
  refine rnH hE 1 [(1,⟨[],true,(qzd69 rClone),[],0,false,none⟩)] (kp [4,5]) [] 160 (pc (g_slices_Clone_uint16_uint16_ok _ _ _ hr2) pn) ?_
  cases h
  exact Runs.nT hE 0 Try.f41 [] ([(4,slW (cU .u16) 0 ([]:List Int))] ++ kp [5]) [] 160 (pc (Eq.refl 0) pn) [] pn
 ·refine rnZ hE 3 (kp [0,1,22]) [] 144 <| Runs.nC 0 22 h (fun hq3 h=>?_) (fun hq3 h=>?_)
  ·obtain ⟨c,h⟩:=ifSome h
   obtain ⟨rshort,hr3,h⟩:=bindSome h
   refine rnH hE 1 [(4,⟨[],true,(qzd37 rshort),[],0,false,none⟩)] (kp [6,7]) [] 304 (pc c (pc (g_e_short_ok _ _ _ _ hr3) pn)) ?_
   obtain ⟨rtrim,hr4,h⟩:=bindSome h
   refine rnH hE 1 [(3,⟨[],true,(qzd69 rtrim),[],0,true,none⟩)] (kp [4,5]) [] 400 (pc (show Sound Try.prog 39 [(.sl 1 (fun zi=>(fun zi=>([[(.atom (.int .u16 rshort.2))]]:List (List AV)).getD zi []) (addz 0 zi)))] [] 0 (qzd69 rtrim) [] from (Sound.conv (g_e_trim_ok _ _ _ hr4) (.cons (Alike.sl rfl (get_chunk (cU .u16) 0 ([rshort.2]:List Int))) .nil))) (pc (z1 1) pn)) ?_
   cases h
   exact rnU hE 0 Try.f41 (kp [4,5]) [] 400
  ·obtain ⟨c2,h⟩:=ifSome h
   obtain ⟨rLeadingZeros,hr5,h⟩:=bindSome h
   refine rnH hE 2 [(6,⟨[],true,(aI rLeadingZeros),[],0,false,none⟩)] (kp [0,1,8]) [] 272 (pc c2 (pc (g_math_bits_LeadingZeros16_ok _ _ _ hr5) pn)) ?_
   obtain ⟨rshifted,hr6,h⟩:=bindSome h
   obtain ⟨rshifted2,hr7,h⟩:=bindSome h
   obtain ⟨c3,h⟩:=ifSome h
   refine rnH hE 1 [(2,⟨[],true,(.os 0 0 rshifted.length),[(0,aO 1 (cU .u16) 0 rshifted)],0,false,none⟩),(5,⟨[],true,(.os 0 0 rshifted2.length),[(0,aO 1 (cU .u16) 0 rshifted2)],0,false,none⟩)] (kp [8,9,10]) (kq [304,352]) 448 (pc (g_e_shifted_ok _ _ _ _ hr6) (pc (g_e_shifted_ok _ _ _ _ hr7) (pc c3 (pc (show 0≤(qzd174 b) from (Int.natCast_nonneg _)) pn)))) <| rnZ hE 1 (kp [8,9,10,11]) (kq [304,352]) 496 ?_
   obtain ⟨c4,h⟩:=ifSome h
   refine rnP hE 1 ([(4,.osl ((qzd59 rshifted b).length))] ++ kp [8,9,10,11]) (kq [304,352] ++ [(560,arW 560 (cU .u16) 0 (qzd59 rshifted b))]) 592 (pc c4.1 (pc (Int.le_refl (qzd184 rshifted b)) (pc c4.2.1 (pc c4.2.2 (pc (lR (qzd24 rshifted b) (0:Int)) (pc (lR (qzd24 rshifted b) (0:Int)) (pc (get_rep (cU .u16) 0 0 (qzd24 rshifted b)) pn))))))) <| rnZ hE 2 qzd143 (kq [304,352,560]) 688 <| rnV hE 2 qzd143 [(0,.keep 560),(1,.keep 304),(2,.keep 352)] 3 (g_e_divide_L1_ok N _ _ _ N _ _ _ _ h E hE)
noncomputable abbrev C_86:=bt Try.f40
def g_e_common_L1_H (N:Nat) (K:(List Int)→(List Int)→Option qzd15):Prop:=∀ (a2:List Int) (b2:List Int) (r:(List Int)),K a2 b2=some r→∀ E,EnvOk E 0→Runs Try.prog E 40 45 (SPost E [] (qzd69 r)) [.code (C_86 24),.inLoop (C_86 24),.inBlock 0,.code (C_86 7)] ⟨[(0,(qzd68 a2)),(1,(qzd68 b2))],[],0⟩
def g_e_common_L2_H (N:Nat) (K:Int→Int→Option qzd15):Prop:=∀ (x:Int) (y:Int) (r:(List Int)),K x y=some r→∀ E,EnvOk E 0→Runs Try.prog E 40 45 (SPost E [] (qzd69 r)) [.code (C_86 25296),.inLoop (C_86 25296),.inBlock 2,.code (C_86 6325),.code (C_86 791),.inBlock 1,.inLoop (C_86 24),.inBlock 0,.code (C_86 7)] ⟨[(5,(qzd31 x)),(7,(qzd31 y))],[],0⟩
theorem g_e_common_L2_ok (N:Nat) (K_g_e_common_L1:(List Int)→(List Int)→Option qzd15) (hK_g_e_common_L1:g_e_common_L1_H N K_g_e_common_L1) (fuel:Nat):g_e_common_L2_H N (g_e_common_L2 N K_g_e_common_L1 fuel):=by
 induction fuel with
 | zero=>intro _ _ r h;rw [g_e_common_L2.eq_1] at h;cases h
 | succ fuel ih =>
  intro x y r h E hE
  rw [g_e_common_L2.eq_2] at h
  refine rnZ hE 2 (kp [5,7,29]) [] 32 <| Runs.nC 0 29 h (fun hq4 h=>?_) (fun hq4 h=>?_)
  ·obtain ⟨c,h⟩:=ifSome h
   refine rnP hE 2 (kp [5,7]) [] 128 (pc c pn) <| rnV hE 2 (kp [5,7]) [] 0 (ih _ _ _ h E hE)
  ·obtain ⟨rnatural,hr3,h⟩:=bindSome h
   refine rnH hE 2 [(1,⟨[],true,(qzd69 rnatural),[],0,false,none⟩)] (kp [4]) [] 80 (pc (g_e_natural_ok _ _ _ hr3) pn) ?_
   obtain rfl:=Option.some.inj h
   exact rnU hE 0 Try.f40 (kp [4]) [] 80
theorem g_e_common_L1_ok (N:Nat) (fuel:Nat):g_e_common_L1_H N (g_e_common_L1 N fuel):=by
 induction fuel with
 | zero=>intro _ _ r h;rw [g_e_common_L1.eq_1] at h;cases h
 | succ fuel ih =>
  intro a2 b2 r h E hE
  rw [g_e_common_L1.eq_2] at h
  refine rnZ hE 2 (kp [0,1,13]) [] 48 <| Runs.nC 0 13 h (fun hq2 h=>?_) (fun hq2 h=>?_)
  ·obtain ⟨rword,hr,h⟩:=bindSome h
   refine rnH hE 3 [(1,⟨[],true,(qzd35 rword),[],0,false,none⟩)] qzd84 [] 160 (pc (g_e_word_ok _ _ _ hr) pn) ?_
   obtain ⟨rword2,hr2,h⟩:=bindSome h
   refine rnH hE 1 [(1,⟨[],true,(qzd35 rword2),[],0,false,none⟩)] (kp [0,1,5,6,7,8]) [] 272 (pc (g_e_word_ok _ _ _ hr2) pn) <| rnP hE 2 (kp [0,1,5,7,27]) [] 336 (pc (fun hq:rword.2=true=>(pc hq pn)) pn) <| Runs.nC 0 27 h (fun hq3 h=>?_) (fun hq3 h=>?_)
   ·exact rnV hE 3 (kp [5,7]) [] 0 (g_e_common_L2_ok N _ ih N _ _ _ h E hE)
   ·obtain ⟨rdivide,hr4,h⟩:=bindSome h
    refine rnH hE 2 [(2,⟨[],true,(qzd38 rdivide),[],0,false,none⟩)] (kp [1,10]) [] 464 (pc (g_e_divide_ok _ _ _ _ hr4) pn) <| rnZ hE 0 (kp [0,1]) [] 528 <| rnV hE 2 (kp [0,1]) [] 0 (ih _ _ _ h E hE)
  ·refine rnZ hE 2 (kp [4]) [] 80 ?_
   obtain rfl:=Option.some.inj h
   exact rnU hE 0 Try.f40 (kp [4]) [] 80
theorem g_e_common_ok (N:Nat) (a:List Int) (b:List Int) (r:(List Int)) (h:g_e_common N a b=some r):Sound Try.prog 40 [(qzd68 a),(qzd68 b)] [] 0 (qzd69 r) []:=by
 unfold g_e_common at h
 refine sO Try.f40 45 fun E hE=>?_
 refine rnZ hE 1 (kp [0,1]) [] 16 <| rnV hE 3 (kp [0,1]) [] 0 (g_e_common_L1_ok N N _ _ _ h E hE)
noncomputable abbrev C_85:=bt Try.f23
def g_e_fraction_J1_H (N:Nat) (a:TInt) (b:TInt) (K:(List Int)→(List Int)→Option (TRat)):Prop:=∀ (x:List Int) (y:List Int) (r:TRat),K x y=some r→∀ E,EnvOk E 0→Runs Try.prog E 23 48 (SPost E [] (qzd27 r)) [.code (C_85 62),.code (C_85 63)] ⟨[(2,(.op 0 0 0)),(3,(.op 1 0 0)),(4,(.op 2 0 0)),(5,(qzd68 x)),(6,(qzd68 y))],[(0,vO 2 (TInt.cells a)),(1,vO 2 (TInt.cells b)),(2,vO 4 [(aB false),.nil,(aB false),.nil])],3⟩
theorem g_e_fraction_J1_ok (N:Nat) (a:TInt) (b:TInt):g_e_fraction_J1_H N a b (g_e_fraction_J1 N a b):=by
 intro x y r h E hE
 unfold g_e_fraction_J1 at h
 obtain ⟨rsigned,hr6,h⟩:=bindSome h
 obtain ⟨rsigned2,hr7,h⟩:=bindSome h
 refine rnH hE 0 [(6,⟨[],true,(qzd26 rsigned),[],0,false,none⟩),(8,⟨[],true,(qzd26 rsigned2),[],0,false,none⟩)] (kp [4]) (kq [2]) 179 (pc o1 (pc o1 (pc (g_e_signed_ok _ _ _ _ hr6) (pc (g_e_signed_ok _ _ _ _ hr7) (pc o1 pn))))) ?_
 cases h
 exact Runs.nT hE 0 Try.f23 [] (kp [4]) [(16,.keep 2)] 179 pn [16] (pc o1 pn)
theorem g_e_fraction_ok (N:Nat) (a:TInt) (b:TInt) (r:TRat) (h:g_e_fraction N a b=some r):Sound Try.prog 23 [(qzd26 a),(qzd26 b)] [] 0 (qzd27 r) []:=by
 unfold g_e_fraction at h
 refine sO Try.f23 48 fun E hE=>?_
 refine rnZ hE 1 qzd116 qzd154 48 ?_
 obtain ⟨rtrim,hr,h⟩:=bindSome h
 obtain ⟨rtrim2,hr2,h⟩:=bindSome h
 refine rnH hE 1 [(2,⟨[],true,(qzd69 rtrim),[],0,false,none⟩),(5,⟨[],true,(qzd69 rtrim2),[],0,false,none⟩)] qzd115 qzd154 176 (pc o1 (pc (g_e_trim_ok _ _ _ hr) (pc o1 (pc (g_e_trim_ok _ _ _ hr2) pn)))) ?_
 obtain ⟨rcommon,hr3,h⟩:=bindSome h
 refine rnH hE 1 [(2,⟨[],true,(qzd69 rcommon),[],0,false,none⟩)] (kp [2,3,4,5,6,7]) qzd154 240 (pc (g_e_common_ok _ _ _ _ hr3) pn) ?_
 obtain ⟨c,h⟩:=ifSome h
 refine rnP hE 2 (kp [2,3,4,5,6,7,25]) qzd154 384 (pc (fun hg:(qzd0 rcommon)=true=>(pc hg (pc (c hg) pn))) (pc (fun hg:(qzd0 rcommon)=true=>(pc hg pn)) (pc (fun hg:(qzd0 rcommon)=true=>(pc hg pn)) (pc (fun hq:(qzd0 rcommon)=true=>(pc hq pn)) pn)))) <| Runs.nC 0 25 h (fun hq2 h=>?_) (fun hq2 h=>?_)
 ·obtain ⟨rdivide,hr4,h⟩:=bindSome h
  refine rnH hE 1 [(2,⟨[],true,(qzd38 rdivide),[],0,false,none⟩)] (kp [2,3,4,5,6,7]) qzd154 496 (pc (g_e_divide_ok _ _ _ _ hr4) pn) ?_
  obtain ⟨rdivide2,hr5,h⟩:=bindSome h
  refine rnH hE 0 [(2,⟨[],true,(qzd38 rdivide2),[],0,false,none⟩)] qzd115 qzd154 608 (pc (g_e_divide_ok _ _ _ _ hr5) pn) <| rnV hE 1 qzd115 qzd167 3 (g_e_fraction_J1_ok N _ _ _ _ _ h E hE)
 ·exact rnV hE 2 qzd115 qzd167 3 (g_e_fraction_J1_ok N _ _ _ _ _ h E hE)
theorem g_e_Ratio_ok (N:Nat) (a:Int) (b:Int) (r:TRat×Int) (h:g_e_Ratio N a b=some r):Sound Try.prog 22 [(aI a),(aI b)] [] 0 (qzd34 r) []:=by
 unfold g_e_Ratio at h
 refine sO Try.f22 14 fun E hE=>?_
 refine rnZ hE 1 qzd83 (kq [0]) 32 <| rnZ hE 2 (kp [0,1,4,7]) (kq [0]) 64 <| Runs.nC 0 7 h (fun hq2 h=>?_) (fun hq2 h=>?_)
 ·refine rnP hE 1 (kp [4,5]) (kq [0]) 112 (pc o1 pn) ?_
  cases h
  exact Runs.nT hE 0 Try.f22 [] (kp [4,5]) [(16,.var 0 [.keep,slW (cU .u16) 0 ([]:List Int),.keep,slW (cU .u16) 0 ([]:List Int)])] 112 (pc (Eq.refl 0) (pc (Eq.refl 0) pn)) [16] (pc o1 pn)
 ·obtain ⟨rOf,hr,h⟩:=bindSome h
  obtain ⟨rOf2,hr2,h⟩:=bindSome h
  obtain ⟨rfraction,hr3,h⟩:=bindSome h
  refine rnH hE 2 [(1,⟨[],true,(qzd26 rOf),[],0,false,none⟩),(3,⟨[],true,(qzd26 rOf2),[],0,false,none⟩),(4,⟨[],true,(qzd27 rfraction),[],0,false,none⟩)] (kp [4,5]) (kq [0]) 176 (pc (g_e_Of_ok _ _ _ hr) (pc (g_e_Of_ok _ _ _ hr2) (pc (g_e_fraction_ok _ _ _ _ hr3) (pc o1 pn)))) ?_
  cases h
  exact Runs.nT hE 0 Try.f22 [] (kp [4,5]) [(16,.keep 0)] 176 pn [16] (pc o1 pn)
theorem g_survey_ratio_ok (N:Nat) (a:Int) (b:Int) (r:TRat) (h:g_survey_ratio N a b=some r):Sound Try.prog 12 [(aI a),(aI b)] [] 0 (qzd27 r) []:=by
 unfold g_survey_ratio at h
 refine sO Try.f12 14 fun E hE=>?_
 refine rnZ hE 1 qzd83 (kq [0]) 16 ?_
 obtain ⟨rRatio,hr,h⟩:=bindSome h
 refine rnH hE 1 [(2,⟨[],true,(qzd34 rRatio),[],0,false,none⟩)] (kp [4,5]) (kq [0,112]) 160 (pc (g_e_Ratio_ok _ _ _ _ hr) (pc o1 pn)) <| rnP hE 1 (kp [4]) (kq [0]) 192 (pc o1 (pc o1 pn)) ?_
 cases h
 exact Runs.nT hE 0 Try.f12 [] (kp [4]) [(16,.keep 0)] 192 pn [16] (pc o1 pn)
noncomputable abbrev C_72:=bt Try.f11
def g_survey_Speeds_L1_H (N:Nat) (cap0:List TRun) (K:qzd55→Int→Option qzd16):Prop:=∀ (out:List TRat) (x:Int) (r:qzd55×Int),K out x=some r→∀ E,EnvOk E 1→Runs Try.prog E 11 29 (SPost E [(qzd39 cap0),(qzd41 r)] (qzd36 r)) [.code (C_72 244),.inLoop (C_72 244),.inBlock 0,.code (C_72 31)] ⟨[(5,(.os 1 0 out.length)),(13,(.os 0 0 cap0.length)),(14,(aI ((cap0.length:Nat):Int))),(15,(aI x))],[(qzd39 cap0),(1,aO 4 TRat.cells TRat.d out)],2⟩
theorem g_survey_Speeds_L1_ok (N:Nat) (cap0:List TRun) (fuel:Nat):g_survey_Speeds_L1_H N cap0 (g_survey_Speeds_L1 N cap0 fuel):=by
 induction fuel with
 | zero=>intro _ _ r h;rw [g_survey_Speeds_L1.eq_1] at h;cases h
 | succ fuel ih =>
  intro out x r h E hE
  rw [g_survey_Speeds_L1.eq_2] at h
  refine rnZ hE 1 (kp [5,13,14,15,16]) (kq [0,1]) 18 <| Runs.nC 1 16 h (fun hq3 h=>?_) (fun hq3 h=>?_)
  ·obtain ⟨c,h⟩:=ifSome h
   refine rnP hE 4 (kp [5,7,13,14,15]) (kq [0,1,50]) 82 (pc c (pc (ltOf c) (pc o1 pn))) ?_
   obtain ⟨rratio,hr2,h⟩:=bindSome h
   obtain ⟨c2,h⟩:=ifSome h
   refine rnH hE 0 [(5,⟨[],true,(qzd27 rratio),[],0,false,none⟩)] ([(5,.osl ((out ++ ([rratio]:List TRat)).length))] ++ kp [13,14,15]) (kq [0] ++ [(194,arW 194 TRat.cells TRat.d (out ++ ([rratio]:List TRat)))]) 226 (pc o1 (pc o1 (pc (g_survey_ratio_ok _ _ _ _ hr2) (pc (Eq.refl out.length) (pc c2 (pc (z1 1) (pc (oN [[(aB rratio.f_Num.f_Neg),(encL (cU .u16) 0 rratio.f_Num.f_Limbs),(aB rratio.f_Den.f_Neg),(encL (cU .u16) 0 rratio.f_Den.f_Limbs)]]) (pc (len_app0 out ([rratio]:List TRat)) (pc (len_app0 out ([rratio]:List TRat)) (pc (gA1 TRat.cells TRat.d out ([rratio]:List TRat)) pn)))))))))) <| rnZ hE 1 qzd144 (kq [0,194]) 258 <| rnV hE 1 qzd144 (kq [0] ++ [(1,.keep 194)]) 2 (ih _ _ _ h E hE)
  ·refine rnZ hE 2 (kp [2,3]) (kq [0,1]) 66 ?_
   cases h
   exact rnU hE 0 Try.f11 (kp [2,3]) (kq [0,1]) 66
theorem g_survey_Speeds_ok (N:Nat) (cap0:List TRun) (r:qzd55×Int) (h:g_survey_Speeds N cap0=some r):Sound Try.prog 11 [(.os 0 0 cap0.length)] [(qzd39 cap0)] 1 (qzd36 r) [(qzd39 cap0),(qzd41 r)]:=by
 unfold g_survey_Speeds at h
 refine sO Try.f11 29 fun E hE=>?_
 refine rnZ hE 1 (kp [0]) (kq [0]) 33 ?_
 obtain ⟨rCheckTrial,hr,h⟩:=bindSome h
 refine rnH hE 2 [(1,⟨[],true,(aI rCheckTrial),[],0,false,none⟩)] (kp [0,4]) (kq [0]) 81 (pc (g_survey_CheckTrial_ok _ _ _ hr) (pc (z1 cap0.length) pn)) <| rnZ hE 1 (kp [0,4,11]) (kq [0]) 113 <| Runs.nC 0 11 h (fun hq2 h=>?_) (fun hq2 h=>?_)
 ·refine rnZ hE 1 (kp [2,3]) (kq [0]) 161 ?_
  cases h
  exact rnU hE 0 Try.f11 ([(2,.nilos 1)] ++ kp [3]) qzd168 161
 ·refine rnZ hE 2 (kp [0,5]) (kq [0]) 129 <| rnZ hE 2 qzd144 (kq [0]) 177 <| rnV hE 2 ([(5,.nilos 1)] ++ kp [13,14,15]) qzd168 2 (g_survey_Speeds_L1_ok N _ N _ _ _ h E hE)
theorem g_e_sign_ok (N:Nat) (a:TInt) (r:Int) (h:g_e_sign N a=some r):Sound Try.prog 44 [(qzd26 a)] [] 0 (aI r) []:=by
 unfold g_e_sign at h
 refine sO Try.f44 12 fun E hE=>?_
 refine rnZ hE 1 (kp [1]) (kq [0]) 32 ?_
 obtain ⟨rtrim,hr,h⟩:=bindSome h
 refine rnH hE 3 [(2,⟨[],true,(qzd69 rtrim),[],0,false,none⟩)] (kp [1,3]) (kq [0]) 128 (pc o1 (pc (g_e_trim_ok _ _ _ hr) pn)) <| Runs.nC 0 3 h (fun hq2 h=>?_) (fun hq2 h=>?_)
 ·refine rnZ hE 1 (kp [2]) [] 144 ?_
  cases h
  exact rnU hE 0 Try.f44 (kp [2]) [] 144
 ·refine rnP hE 1 (kp [9]) [] 176 (pc o1 pn) <| Runs.nC 0 9 h (fun hq3 h=>?_) (fun hq3 h=>?_)
  ·refine rnZ hE 1 (kp [2]) [] 192 ?_
   cases h
   exact rnU hE 0 Try.f44 (kp [2]) [] 192
  ·refine rnZ hE 3 (kp [2]) [] 192 ?_
   cases h
   exact rnU hE 0 Try.f44 (kp [2]) [] 192
theorem g_e_isZero_ok (N:Nat) (x:TRat) (r:Bool) (h:g_e_isZero N x=some r):Sound Try.prog 26 [(qzd27 x)] [] 0 (aB r) []:=by
 unfold g_e_isZero at h
 refine sO Try.f26 7 fun E hE=>?_
 refine rnZ hE 1 (kp [1]) (kq [0]) 32 ?_
 obtain ⟨rsign,hr,h⟩:=bindSome h
 refine rnH hE 1 [(2,⟨[],true,(aI rsign),[],0,false,none⟩)] (kp [2]) [] 112 (pc o1 (pc (g_e_sign_ok _ _ _ hr) pn)) ?_
 cases h
 exact rnU hE 0 Try.f26 (kp [2]) [] 112
theorem g_e_below_ok (N:Nat) (x:TRat) (r:TInt) (h:g_e_below N x=some r):Sound Try.prog 25 [(qzd27 x)] [] 0 (qzd26 r) []:=by
 unfold g_e_below at h
 refine sO Try.f25 11 fun E hE=>?_
 refine rnZ hE 1 (kp [1,2]) qzd166 32 ?_
 obtain ⟨rsign,hr,h⟩:=bindSome h
 refine rnH hE 2 [(2,⟨[],true,(aI rsign),[],0,false,none⟩)] (kp [1,2,6]) qzd166 96 (pc o1 (pc (g_e_sign_ok _ _ _ hr) pn)) <| Runs.nC 0 6 h (fun hq2 h=>?_) (fun hq2 h=>?_)
 ·refine rnP hE 1 (kp [2]) [(16,.var 16 [.keep,.osl (([1]:List Int).length)]),(96,arW 96 (cU .u16) 0 ([1]:List Int))] 144 (pc o1 (pc (Eq.refl 1) (pc (Eq.refl 1) (pc (get_chunk (cU .u16) 0 ([1]:List Int)) pn)))) ?_
  cases h
  exact Runs.nT hE 0 Try.f25 [96] (kp [2]) [(16,.var 16 [.keep,slW (cU .u16) 0 ([1]:List Int)])] 144 (pc (Eq.refl (([1]:List Int).length)) (pc (z1 (([1]:List Int).length)) (pc (eZ (cU .u16) 0 ([1]:List Int)) pn))) [16] (pc o1 pn)
 ·refine rnP hE 2 (kp [2]) (kq [16]) 144 (pc o1 (pc o1 pn)) ?_
  cases h
  exact Runs.nT hE 0 Try.f25 [] (kp [2]) (kq [16]) 144 pn [16] (pc o1 pn)
theorem g_e_lowest_ok (N:Nat) (x:TRat) (r:TRat) (h:g_e_lowest N x=some r):Sound Try.prog 27 [(qzd27 x)] [] 0 (qzd27 r) []:=by
 unfold g_e_lowest at h
 refine sO Try.f27 8 fun E hE=>?_
 refine rnZ hE 1 (kp [1,2]) qzd166 32 ?_
 obtain ⟨rbelow,hr,h⟩:=bindSome h
 obtain ⟨rfraction,hr2,h⟩:=bindSome h
 refine rnH hE 1 [(3,⟨[],true,(qzd26 rbelow),[],0,false,none⟩),(4,⟨[],true,(qzd27 rfraction),[],0,false,none⟩)] (kp [2]) (kq [16]) 128 (pc o1 (pc o1 (pc (g_e_below_ok _ _ _ hr) (pc (g_e_fraction_ok _ _ _ _ hr2) (pc o1 pn))))) ?_
 obtain rfl:=Option.some.inj h
 exact Runs.nT hE 0 Try.f27 [] (kp [2]) (kq [16]) 128 pn [16] (pc o1 pn)
noncomputable abbrev C_101:=bt Try.f43
def g_e_times_L1_H (N:Nat) (a:List Int) (b:List Int) (K:(List Int)→Int→Option qzd15):Prop:=∀ (out:List Int) (x:Int) (r:(List Int)),K out x=some r→∀ E,EnvOk E 0→Runs Try.prog E 43 67 (SPost E [] (qzd69 r)) [.code (C_101 116),.inLoop (C_101 116),.inBlock 0,.code (C_101 15)] ⟨[(1,(qzd68 b)),(5,(qzd32 out)),(17,(qzd68 a)),(18,(qzd63 a)),(19,(aI x))],[(0,aO 1 (cU .u16) 0 out)],1⟩
def g_e_times_L2_H (N:Nat) (a:List Int) (b:List Int) (x:Int) (K:(List Int)→Int→Int→Option qzd15):Prop:=∀ (out2:List Int) (carry:Int) (x2:Int) (r:(List Int)),K out2 carry x2=some r→∀ E,EnvOk E 0→Runs Try.prog E 43 67 (SPost E [] (qzd69 r)) [.code (C_101 119604),.inLoop (C_101 119604),.inBlock 2,.code (C_101 14951),.inBlock 1,.code (C_101 935),.inLoop (C_101 116),.inBlock 0,.code (C_101 15)] ⟨[(1,(qzd68 b)),(5,(qzd32 out2)),(6,(aI x)),(7,(.atom (.int .u16 (a.getD ((x).toNat) 0)))),(8,(qzd30 carry)),(17,(qzd68 a)),(18,(qzd63 a)),(19,(aI x)),(24,(qzd68 b)),(25,(qzd63 b)),(26,(aI x2))],[(0,aO 1 (cU .u16) 0 out2)],1⟩
end Go.Den
