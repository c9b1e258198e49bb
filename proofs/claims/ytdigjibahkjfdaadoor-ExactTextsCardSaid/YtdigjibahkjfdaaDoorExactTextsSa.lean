/- Each function of the program does what its Lean function computes (part 1). No conditions. -/
import Derived.Test.YtdigjibahkjfdaaDoorExactTextsDen
import Derived.Test.YtdigjibahkjfdaaDoorProg
import Derived.WalkKit
import Derived.Lib.Walk
import Derived.Lib.Strings
import Derived.Lib.Bytealg
set_option linter.unusedVariables false
set_option maxRecDepth 100000
namespace Go.Den
open Go.Ab Go.Proofs
abbrev qzd0 (xq0:(List Int)):=!(((xq0.length:Nat):Int) != 1)
abbrev qzd147 (xq0:ByteArray) (xq1:ByteArray) (xq2:ByteArray) (xq3:ByteArray):=cond (!(streq xq0 xq1)) true (!(streq xq2 xq3))
abbrev qzd1 (xq0:ByteArray) (xq1:ByteArray) (xq2:ByteArray) (xq3:ByteArray) (xq4:Bool) (xq5:TInt×Int) (xq6:TInt×Int):=!(cond (cond (qzd147 xq0 xq1 xq2 xq3) true (!xq4)) true (xq5.2 != xq6.2))
abbrev qzd150 (xq0:TCurve) (xq1:Int):=decide ((xq0.f_Starts.getD ((xq1).toNat) 0) < (-10000000))
abbrev qzd2 (xq0:TCurve) (xq1:Int):=!(cond (qzd150 xq0 xq1) true (decide ((xq0.f_Starts.getD ((xq1).toNat) 0) > 10000000)))
abbrev qzd158 (xq0:List Int):=((xq0.length:Nat):Int)
abbrev qzd149 (xq0:Int) (xq1:List Int):=decide (xq0 < (qzd158 xq1))
abbrev qzd3 (xq0:Int) (xq1:List Int):=!(qzd149 xq0 xq1)
abbrev qzd4 (xq0:TRat):=!(decide (((xq0.f_Num.f_Limbs.length:Nat):Int) > 12))
abbrev qzd5 (xq0:ByteArray) (xq1:Int):=!(decide ((byteAt xq0 ((xq1).toNat)) < 48))
abbrev qzd6 (xq0:ByteArray×Bool) (xq1:Int):=!(decide ((byteAt xq0.1 ((xq1).toNat)) < 48))
abbrev qzd7 (xq0:List Int) (xq1:Int):=xq0 ++ ([(IntKind.u16.wrap (xq1))]:List Int)
abbrev qzd160 (xq0:List Int) (xq1:Int):=IntKind.u32.wrap ((xq0.getD ((xq1).toNat) 0))
abbrev qzd142 (xq0:List Int) (xq1:Int) (xq2:Int) (xq3:Int):=IntKind.u16.wrap ((IntKind.u32.wrap ((IntKind.u32.wrap ((qzd160 xq0 xq1)+(shlI .u32 xq2 16))) - xq3)))
abbrev qzd8 (xq0:List Int) (xq1:Int) (xq2:List Int) (xq3:Int) (xq4:Int):=xq0.set ((xq1).toNat) (qzd142 xq2 xq1 xq3 xq4)
abbrev qzd143 (xq0:Int) (xq1:List Int) (xq2:Int) (xq3:Int):=IntKind.u16.wrap ((IntKind.u32.wrap ((orI .u32 (shlI .u32 xq0 16) (qzd160 xq1 xq2)).tdiv (IntKind.u32.wrap (xq3)))))
abbrev qzd9 (xq0:List Int) (xq1:Int) (xq2:Int) (xq3:List Int) (xq4:Int):=xq0.set ((xq1).toNat) (qzd143 xq2 xq3 xq1 xq4)
abbrev qzd145 (xq0:List Int) (xq1:Int) (xq2:Int):=IntKind.u16.wrap ((shrI .u32 (orI .u32 (qzd160 xq0 xq1) (shlI .u32 (IntKind.u32.wrap ((xq0.getD ((w64 (xq1+1)).toNat) 0))) 16)) xq2))
abbrev qzd10 (xq0:List Int) (xq1:Int) (xq2:List Int) (xq3:Int):=xq0.set ((xq1).toNat) (qzd145 xq2 xq1 xq3)
abbrev qzd157 (xq0:List Int) (xq1:Int):=xq0.getD ((xq1).toNat) 0
abbrev qzd161 (xq0:List Int) (xq1:Int) (xq2:Int):=shlI .u32 (IntKind.u32.wrap ((xq0.getD ((xq1).toNat) 0))) xq2
abbrev qzd139 (xq0:List Int) (xq1:Int) (xq2:List Int) (xq3:Int):=xq0.set ((xq1).toNat) (orI .u16 (qzd157 xq0 xq1) (IntKind.u16.wrap ((qzd161 xq2 xq1 xq3))))
abbrev qzd11 (xq0:List Int) (xq1:Int) (xq2:List Int) (xq3:Int):=qzd139 xq0 xq1 xq2 xq3
abbrev qzd141 (xq0:Int) (xq1:List Int) (xq2:Int) (xq3:List Int) (xq4:Int) (xq5:List Int):=IntKind.u16.wrap ((IntKind.u32.wrap (xq0+(IntKind.u32.wrap ((IntKind.u32.wrap ((qzd160 xq1 xq2) * (qzd160 xq3 xq4)))+(IntKind.u32.wrap ((xq5.getD ((w64 (xq2+xq4)).toNat) 0))))))))
abbrev qzd12 (xq0:List Int) (xq1:Int) (xq2:Int) (xq3:Int) (xq4:List Int) (xq5:List Int):=xq0.set ((w64 (xq1+xq2)).toNat) (qzd141 xq3 xq4 xq1 xq5 xq2 xq0)
abbrev qzd13 (xq0:List Int) (xq1:Int) (xq2:Int):=(xq0.set ((xq1).toNat) (qzd157 xq0 xq2)).set ((xq2).toNat) (qzd157 xq0 xq1)
abbrev qzd14 (xq0:List Int) (xq1:Int) (xq2:List Int) (xq3:Int):=(qzd139 xq0 xq1 xq2 xq3).set ((w64 (xq1+1)).toNat) (IntKind.u16.wrap ((shrI .u32 (qzd161 xq2 xq1 xq3) 16)))
abbrev qzd15 (xq0:ByteArray):=((xq0.size:Nat):Int)
abbrev qzd16 (xq0:List Int) (xq1:Int):=(([]:List Int) ++ ((xq0.take ((xq1).toNat)).drop 0)).length
abbrev qzd17:=(List Int)×(List Int)
abbrev qzd18:=(List Int)
abbrev qzd146 (xq0:List Int):=(List.replicate xq0.length 0:List Int)
abbrev qzd19 (xq0:List Int):=(qzd146 xq0).length
abbrev qzd20 (xq0:List Int):=([]:List Int) ++ xq0
abbrev qzd21 (xq0:List Int) (xq1:Int):=([]:List Int) ++ ((xq0.take ((xq1).toNat)).drop 0)
abbrev qzd22 (xq0:Int) (xq1:Int):=(decide (xq0 < 65536)) && ((decide (xq0 < 65536)) && (!(decide (xq1 > 65535))))
abbrev qzd140 (xq0:List Int):=qzd158 xq0
abbrev qzd23 (xq0:Int) (xq1:List Int):=(w64 (xq0+(qzd140 xq1))).toNat
abbrev qzd152 (xq0:List Int) (xq1:List Int):=w64 ((qzd158 xq0)+(qzd158 xq1))
abbrev qzd24 (xq0:List Int) (xq1:List Int):=(qzd152 xq0 xq1).toNat
abbrev qzd153 (xq0:List Int):=w64 ((qzd158 xq0)+1)
abbrev qzd25 (xq0:List Int):=(qzd153 xq0).toNat
abbrev qzd159 (xq0:List Int):=(((xq0.length - 0):Nat):Int)
abbrev qzd154 (xq0:(List Int)) (xq1:List Int):=w64 (((xq0.length:Nat):Int) - (qzd159 xq1))
abbrev qzd26 (xq0:(List Int)) (xq1:List Int):=(qzd154 xq0 xq1).toNat
abbrev qzd27 (xq0:List Int):=(w64 ((qzd140 xq0) - 1)).toNat
abbrev qzd28 (xq0:List Int) (xq1:Int) (xq2:Int) (xq3:List Int) (xq4:Int) (xq5:Int):=(w64 ((w64 ((xq0.getD ((w64 (xq1+xq2)).toNat) 0)+(w64 ((qzd157 xq3 xq1) * xq4))))+xq5)).tmod 65536
abbrev qzd156 (xq0:List Int) (xq1:List Int):=w64 ((w64 ((qzd158 xq0)+(qzd158 xq1)))+1)
abbrev qzd29 (xq0:List Int) (xq1:List Int):=(qzd156 xq0 xq1).toNat
abbrev qzd30 (xq0:TInt):AV:=.agg (TInt.cells xq0)
abbrev qzd31 (xq0:TRat):AV:=.agg (TRat.cells xq0)
abbrev qzd32 (xq0:Int×(List Int)):AV:=.atom (.int .u16 xq0.1)
abbrev qzd33 (xq0:Int):AV:=.atom (.int .u16 (IntKind.u16.wrap (xq0)))
abbrev qzd34 (xq0:Int):AV:=.atom (.int .u32 xq0)
abbrev qzd35 (xq0:Int):AV:=.atom (.int .u64 xq0)
abbrev qzd36 (xq0:List Int):AV:=.os 0 0 xq0.length
abbrev qzd144 (xq0:ByteArray×Bool) (xq1:Int):=IntKind.u16.wrap ((IntKind.u8.wrap ((byteAt xq0.1 ((xq1).toNat)) - 48)))
abbrev qzd37 (xq0:ByteArray×Bool) (xq1:Int):AV:=.sl 1 (fun zi=>(fun zi=>([[(.atom (.int .u16 (qzd144 xq0 xq1)))]]:List (List AV)).getD zi []) (addz 0 zi))
abbrev qzd155 (xq0:ByteArray) (xq1:Int):=w64 ((IntKind.u8.wrap ((byteAt xq0 ((xq1).toNat)) - 48)))
abbrev qzd38 (xq0:ByteArray) (xq1:Int):AV:=.sl 1 (fun zi=>(fun zi=>([[(aI (qzd155 xq0 xq1))]]:List (List AV)).getD zi []) (addz 0 zi))
abbrev qzd39 (xq0:TInt×TInt×Int):AV:=.tup [(.agg (TInt.cells xq0.1)),(.agg (TInt.cells xq0.2.1)),(aI xq0.2.2)]
abbrev qzd40 (xq0:TInt×Int):AV:=.tup [(.agg (TInt.cells xq0.1)),(aI xq0.2)]
abbrev qzd41 (xq0:TRat×Int):AV:=.tup [(.agg (TRat.cells xq0.1)),(aI xq0.2)]
abbrev qzd42 (xq0:Int×Bool):AV:=.tup [(.atom (.int .u64 xq0.1)),(aB xq0.2)]
abbrev qzd43 (xq0:ByteArray×Bool):AV:=.tup [(aS xq0.1),(aB xq0.2)]
abbrev qzd44 (xq0:ByteArray×ByteArray×Bool):AV:=.tup [(aS xq0.1),(aS xq0.2.1),(aB xq0.2.2)]
abbrev qzd45 (xq0:(List Int)×Int):AV:=.tup [(encL (cU .u16) 0 xq0.1),(.atom (.int .u16 xq0.2))]
abbrev qzd46 (xq0:(List Int)×(List Int)):AV:=.tup [(encL (cU .u16) 0 xq0.1),(encL (cU .u16) 0 xq0.2)]
abbrev qzd47 (xq0:(List Int)×(List Int)):AV:=.tup [(encL cI 0 xq0.1),(encL cI 0 xq0.2)]
abbrev qzd48 (xq0:List Int):=(0,(encL cI 0 xq0))
abbrev qzd49 (xq0:TInt):=(0,vO 2 (TInt.cells xq0))
abbrev qzd50 (xq0:List Int):=(1,(encL cI 0 xq0))
abbrev qzd51 (xq0:List Int):=(14,(aI (qzd140 xq0)))
abbrev qzd52 (xq0:ByteArray):=(5,(aB (cond (decide (((xq0.size:Nat):Int) > 0)) ((byteAt xq0 0) == 45) false)))
abbrev qzd53 (xq0:List Int):=(5,(aI (qzd140 xq0)))
abbrev qzd54:=Int×(List Int)
abbrev qzd55 (xq0:Int):=IntKind.u16.wrap (xq0)
abbrev qzd56 (xq0:Int) (xq1:List Int) (xq2:Nat) (xq3:Int) (xq4:List Int):=IntKind.u16.wrap ((IntKind.u32.wrap (xq0+(IntKind.u32.wrap ((IntKind.u32.wrap ((xq1.getD (addz xq2 (xq3).toNat) 0)))+(qzd160 xq4 xq3))))))
abbrev qzd57 (xq0:Int) (xq1:List Int) (xq2:Int) (xq3:List Int) (xq4:Int) (xq5:List Int):=qzd141 xq0 xq1 xq2 xq3 xq4 xq5
abbrev qzd58 (xq0:List Int) (xq1:Int) (xq2:Int) (xq3:Int):=qzd142 xq0 xq1 xq2 xq3
abbrev qzd59 (xq0:Int) (xq1:List Int) (xq2:Int) (xq3:Int):=qzd143 xq0 xq1 xq2 xq3
abbrev qzd60 (xq0:List Int) (xq1:Int) (xq2:Int):=qzd145 xq0 xq1 xq2
abbrev qzd61 (xq0:List Int) (xq1:Int) (xq2:Int):=IntKind.u16.wrap ((shrI .u32 (qzd161 xq0 xq1 xq2) 16))
abbrev qzd62 (xq0:List Int) (xq1:Nat) (xq2:Int) (xq3:Int) (xq4:Int):=IntKind.u16.wrap ((w64 ((w64 ((w64 ((xq0.getD (addz xq1 (xq2).toNat) 0))) - (w64 ((andI .u64 xq3 65535)))))+xq4)))
abbrev qzd63:=List TRat
abbrev qzd64 (xq0:List Int) (xq1:List Int):=(List.replicate ((qzd152 xq0 xq1).toNat) 0:List Int)
abbrev qzd65 (xq0:List Int):=(List.replicate ((qzd153 xq0).toNat) 0:List Int)
abbrev qzd66 (xq0:(List Int)) (xq1:List Int):=(List.replicate ((qzd154 xq0 xq1).toNat) 0:List Int)
abbrev qzd67 (xq0:List Int) (xq1:List Int):=(List.replicate ((qzd156 xq0 xq1).toNat) 0:List Int)
abbrev qzd68:=TInt×Int
abbrev qzd69:=TRat×Int
abbrev qzd70 (xq0:Int) (xq1:Int) (xq2:Int):=([((w64 ((w64 (xq0+xq1))+xq2)).tmod 65536)]:List Int)
abbrev qzd71 (xq0:Int):=([(IntKind.u16.wrap (xq0))]:List Int)
abbrev qzd72 (xq0:List Int) (xq1:Int):=([(IntKind.u16.wrap ((xq0.getD ((xq1).toNat) 0)))]:List Int)
abbrev qzd73 (xq0:Int):=([(IntKind.u16.wrap ((andI .u64 xq0 65535)))]:List Int)
abbrev qzd74 (xq0:Int):=([(IntKind.u8.wrap ((IntKind.u16.wrap (48+(xq0.tmod 10)))))]:List Int)
abbrev qzd75 (xq0:List Int) (xq1:Int):=([(w64 ((xq0.getD ((xq1).toNat) 0)))]:List Int)
abbrev qzd76 (xq0:Int):=([(w64 ((xq0.tmod 65536)))]:List Int)
abbrev qzd77 (xq0:List Int):=aI (qzd140 xq0)
abbrev qzd148 (xq0:TInt×TInt×Int) (xq1:Bool) (xq2:Bool) (xq3:TRat×Int):=cond (cond (cond (xq0.2.2 == 0) xq1 false) xq2 false) (xq3.2 == 0) false
abbrev qzd78 (xq0:TInt×TInt×Int) (xq1:Bool) (xq2:Bool) (xq3:TRat×Int) (xq4:Bool) (xq5:TRat×Int):=cond (cond (qzd148 xq0 xq1 xq2 xq3) xq4 false) (xq5.2 == 0) false
abbrev qzd79 (xq0:List Int):=decide ((qzd140 xq0) > 0)
abbrev qzd80 (xq0:ByteArray):=decide (((xq0.size:Nat):Int) > 0)
abbrev qzd81 (xq0:ByteArray) (xq1:ByteArray):=decide (((xq0.size:Nat):Int)≥((xq1.size:Nat):Int))
abbrev qzd82 (xq0:List Int):=encL (cU .u16) 0 xq0
abbrev qzd83 (xq0:(List Int)):=encL (cU .u16) 0 xq0
abbrev qzd84 (xq0:(List TRat)):=encL TRat.cells TRat.d xq0
abbrev qzd85:=fun zi=>(fun zi=>([[(aI 10)]]:List (List AV)).getD zi []) (addz 0 zi)
abbrev qzd151:=fun zi=>cI (([]:List Int).getD zi 0)
abbrev qzd86:=qzd151
abbrev qzd87:=kp [0,1,4,5,6]
abbrev qzd88:=kp [0,1,4]
abbrev qzd89:=kp [0,1,5,6,7,8]
abbrev qzd90:=kp [0,1,5,6,7]
abbrev qzd91:=kp [0,1,5,6]
abbrev qzd92:=kp [0,1,5,7,10,11,12,84,85]
abbrev qzd93:=kp [0,1,5,7,14,126,127]
abbrev qzd94:=kp [0,1,5,7,8]
abbrev qzd95:=kp [0,1,5,7,9,10,84,85]
abbrev qzd96:=kp [0,1,5]
abbrev qzd97:=kp [0,1,6,7,8,9,10]
abbrev qzd98:=kp [0,1,6,7,8]
abbrev qzd99:=kp [0,1] ++ [(5,.nilos 0)] ++ kp [6,7]
abbrev qzd100:=kp [0,2,3,4]
abbrev qzd101:=kp [0,2,3]
abbrev qzd102:=kp [0,2,4,5,6,20,21]
abbrev qzd103:=kp [0,2,4,5,6]
abbrev qzd104:=kp [0,2,4,5]
abbrev qzd105:=kp [0,2,4]
abbrev qzd106:=kp [0,2,6,7,8,9]
abbrev qzd107:=kp [0,2] ++ [(3,.nilos 1)] ++ kp [4]
abbrev qzd108:=kp [0,3,4]
abbrev qzd109:=kp [0,4,5]
abbrev qzd110:=kp [0] ++ [(3,.nilos 0)] ++ kp [4]
abbrev qzd111:=kp [1,17,18,19]
abbrev qzd112:=kp [1,3,4,5,21]
abbrev qzd113:=kp [1,3,4]
abbrev qzd114:=kp [1,4,5,6]
abbrev qzd115:=kp [1,5,13,14,15]
abbrev qzd116:=kp [1,5,17,18,19]
abbrev qzd117:=kp [1,5,6,13,14,15]
abbrev qzd118:=kp [1,5,6,20,21,22]
abbrev qzd119:=kp [1,5,6,7,8,17,18,19,24,25,26]
abbrev qzd120:=kp [1,5,6,7,8,9,13,14,15]
abbrev qzd121:=kp [1,5,7,8,9,13,14,15]
abbrev qzd122:=kp [2,3,4,5,6,7]
abbrev qzd123:=kp [2,3,4,5,6]
abbrev qzd124:=kp [2,3,4,5,9,10]
abbrev qzd125:=kp [2,3,4]
abbrev qzd126:=kp [2,3,5]
abbrev qzd127:=kp [2,4,5,6,15,16]
abbrev qzd128:=kp [4,5,6]
abbrev qzd129:=kp [4,5,8,9,81,82]
abbrev qzd130:=kp [4,8,9,10,11,12]
abbrev qzd131:=kq [0,1,2]
abbrev qzd132:=kq [0,16,32,48]
abbrev qzd133:=kq [0,16,32]
abbrev qzd134:=kq [0,16]
abbrev qzd135:=kq [0] ++ [(1,.keep 16),(2,.keep 32),(3,.keep 48)]
abbrev qzd136:=kq [0] ++ [(1,.keep 16),(2,.keep 32)]
abbrev qzd137:=kq [0] ++ [(1,.nil 1 qzd151)]
abbrev qzd138 (xq0:List Int) (xq1:Int) (xq2:List Int) (xq3:Int):=orI .u16 (qzd157 xq0 xq1) (IntKind.u16.wrap ((qzd161 xq2 xq1 xq3)))
theorem g_w01_wide_ok (N:Nat) (x:TRat) (r:Bool) (h:g_w01_wide N x=some r):Sound Tryd.prog 4 [(qzd31 x)] [] 0 (aB r) []:=by
 unfold g_w01_wide at h
 refine sO Tryd.f4 15 fun E hE=>?_
 refine rnZ hE 1 (kp [1]) (kq [0]) 32 <| rnP hE 1 (kp [2]) [] 240 (pc o1 (pc (fun hg:(qzd4 x)=true=>(pc hg pn)) (pc (fun hg:(qzd4 x)=true=>(pc hg (pc o1 pn))) (pc (fun hg:(qzd4 x)=true=>(pc hg pn)) (pc (fun hg:(qzd4 x)=true=>(pc hg pn)) (pc (fun hq:(qzd4 x)=true=>(pc hq pn)) pn)))))) ?_
 cases h
 exact rnU hE 0 Tryd.f4 (kp [2]) [] 240
noncomputable abbrev C_4:=bt Tryd.f50
def g_b_limbs_L1_H (N:Nat) (K:Int→(List Int)→Option qzd18):Prop:=∀ (n2:Int) (out:List Int) (r:(List Int)),K n2 out=some r→∀ E,EnvOk E 0→Runs Tryd.prog E 50 15 (SPost E [] (qzd83 r)) [.code (C_4 56),.inLoop (C_4 56),.inBlock 0,.code (C_4 15)] ⟨[(0,(qzd35 n2)),(3,(qzd36 out))],[(0,aO 1 (cU .u16) 0 out)],1⟩
theorem g_b_limbs_L1_ok (N:Nat) (fuel:Nat):g_b_limbs_L1_H N (g_b_limbs_L1 N fuel):=by
 induction fuel with
 | zero=>intro _ _ r h;rw [g_b_limbs_L1.eq_1] at h;cases h
 | succ fuel ih =>
  intro n2 out r h E hE
  rw [g_b_limbs_L1.eq_2] at h
  refine rnZ hE 2 (kp [0,3,5]) (kq [0]) 33 <| Runs.nC 0 5 h (fun hq2 h=>?_) (fun hq2 h=>?_)
  ·obtain ⟨c,h⟩:=ifSome h
   refine rnP hE 3 (kp [0] ++ [(3,.osl ((out ++ (qzd73 n2)).length))]) [(113,arW 113 (cU .u16) 0 (out ++ (qzd73 n2)))] 145 (pc (Eq.refl out.length) (pc c (pc (z1 1) (pc (oN [[(.atom (.int .u16 (IntKind.u16.wrap ((andI .u64 n2 65535)))))]]) (pc (len_app0 out (qzd73 n2)) (pc (len_app0 out (qzd73 n2)) (pc (gA1 (cU .u16) 0 out (qzd73 n2)) pn))))))) <| rnP hE 1 (kp [0,3]) (kq [113]) 193 (pc (show (0:Int)≤16 by decide) pn) <| rnV hE 1 (kp [0,3]) [(0,.keep 113)] 1 (ih _ _ _ h E hE)
  ·refine rnZ hE 2 (kp [2]) (kq [0]) 65 ?_
   obtain rfl:=Option.some.inj h
   exact Runs.nT hE 0 Tryd.f50 [0] [(2,slW (cU .u16) 0 out)] [] 65 (pc (Eq.refl out.length) (pc (z1 out.length) (pc (eZ (cU .u16) 0 out) pn))) [] pn
theorem g_b_limbs_ok (N:Nat) (n:Int) (r:(List Int)) (h:g_b_limbs N n=some r):Sound Tryd.prog 50 [(qzd35 n)] [] 0 (qzd83 r) []:=by
 unfold g_b_limbs at h
 refine sO Tryd.f50 15 fun E hE=>?_
 refine rnZ hE 1 (kp [0]) [] 16 <| rnZ hE 1 (kp [0,3]) [] 32 <| rnV hE 3 (kp [0] ++ [(3,.nilos 0)]) [(0,.nil 1 (fun zi=>(cU .u16) (([]:List Int).getD zi 0)))] 1 (g_b_limbs_L1_ok N N _ _ _ h E hE)
theorem g_b_Z_ok (N:Nat) (n:Int) (r:TInt) (h:g_b_Z N n=some r):Sound Tryd.prog 19 [(aI n)] [] 0 (qzd30 r) []:=by
 unfold g_b_Z at h
 refine sO Tryd.f19 16 fun E hE=>?_
 refine rnZ hE 1 (kp [0,2]) (kq [0]) 16 <| rnZ hE 2 qzd105 (kq [0]) 48 <| Runs.nC 0 4 h (fun hq2 h=>?_) (fun hq2 h=>?_)
 ·obtain ⟨rlimbs,hr,h⟩:=bindSome h
  refine rnH hE 1 [(5,⟨[],true,(qzd83 rlimbs),[],0,false,none⟩)] (kp [2]) (kq [0]) 176 (pc (g_b_limbs_ok _ _ _ hr) (pc o1 pn)) ?_
  cases h
  exact Runs.nT hE 0 Tryd.f19 [] (kp [2]) [(16,.keep 0)] 176 pn [16] (pc o1 pn)
 ·obtain ⟨rlimbs2,hr2,h⟩:=bindSome h
  refine rnH hE 2 [(2,⟨[],true,(qzd83 rlimbs2),[],0,false,none⟩)] (kp [2]) (kq [0]) 128 (pc (g_b_limbs_ok _ _ _ hr2) (pc o1 pn)) ?_
  cases h
  exact Runs.nT hE 0 Tryd.f19 [] (kp [2]) [(16,.keep 0)] 128 pn [16] (pc o1 pn)
noncomputable abbrev C_6:=bt Tryd.f26
def g_e_trim_L1_H (N:Nat) (K:(List Int)→Option qzd18):Prop:=∀ (n2:List Int) (r:(List Int)),K n2=some r→∀ E,EnvOk E 0→Runs Tryd.prog E 26 21 (SPost E [] (qzd83 r)) [.code (C_6 24),.inLoop (C_6 24),.inBlock 0,.code (C_6 7)] ⟨[(0,(qzd82 n2))],[],0⟩
theorem g_e_trim_L1_ok (N:Nat) (fuel:Nat):g_e_trim_L1_H N (g_e_trim_L1 N fuel):=by
 induction fuel with
 | zero=>intro _ r h;rw [g_e_trim_L1.eq_1] at h;cases h
 | succ fuel ih =>
  intro n2 r h E hE
  rw [g_e_trim_L1.eq_2] at h
  obtain ⟨c,h⟩:=ifSome h
  refine rnP hE 2 (kp [0,14]) [] 192 (pc (fun hg:(qzd79 n2)=true=>(pc hg pn)) (pc (fun hg:(qzd79 n2)=true=>(pc hg pn)) (pc (fun hg:(qzd79 n2)=true=>(pc hg (pc hg (pc (c hg) pn)))) (pc (fun hg:(qzd79 n2)=true=>(pc hg pn)) (pc (fun hg:(qzd79 n2)=true=>(pc hg pn)) (pc (fun hq:(qzd79 n2)=true=>(pc hq pn)) pn)))))) <| Runs.nC 0 14 h (fun hq2 h=>?_) (fun hq2 h=>?_)
  ·obtain ⟨c2,h⟩:=ifSome h
   obtain ⟨c3,h⟩:=ifSome h
   refine rnP hE 2 [(0,slW (cU .u16) 0 ((n2.take (qzd27 n2)).drop 0))] [] 288 (pc c2 (pc c3 (pc (show (w64 ((qzd140 n2) - 1)).toNat - 0=((n2.take (qzd27 n2)).drop 0).length from (len_ext' n2 0 (qzd27 n2) c2)) (pc (get_ext (cU .u16) 0 n2 0 (qzd27 n2)) pn)))) <| rnV hE 2 (kp [0]) [] 0 (ih _ _ h E hE)
  ·refine rnZ hE 2 (kp [2]) [] 224 ?_
   obtain rfl:=Option.some.inj h
   exact rnU hE 0 Tryd.f26 (kp [2]) [] 224
theorem g_e_trim_ok (N:Nat) (n:List Int) (r:(List Int)) (h:g_e_trim N n=some r):Sound Tryd.prog 26 [(qzd82 n)] [] 0 (qzd83 r) []:=by
 unfold g_e_trim at h
 refine sO Tryd.f26 21 fun E hE=>?_
 refine rnZ hE 1 (kp [0]) [] 16 <| rnV hE 3 (kp [0]) [] 0 (g_e_trim_L1_ok N N _ _ h E hE)
noncomputable abbrev C_8:=bt Tryd.f70
def g_e_compare_L1_H (N:Nat) (a:List Int) (b:List Int) (K:Int→Option (Int)):Prop:=∀ (i:Int) (r:Int),K i=some r→∀ E,EnvOk E 0→Runs Tryd.prog E 70 43 (SPost E [] (aI r)) [.code (C_8 116),.inLoop (C_8 116),.inBlock 0,.code (C_8 15)] ⟨[(0,(qzd82 a)),(1,(qzd82 b)),(5,(aI i))],[],0⟩
theorem g_e_compare_L1_ok (N:Nat) (a:List Int) (b:List Int) (fuel:Nat):g_e_compare_L1_H N a b (g_e_compare_L1 N a b fuel):=by
 induction fuel with
 | zero=>intro _ r h;rw [g_e_compare_L1.eq_1] at h;cases h
 | succ fuel ih =>
  intro i r h E hE
  rw [g_e_compare_L1.eq_2] at h
  refine rnZ hE 2 (kp [0,1,5,20]) [] 32 <| Runs.nC 0 20 h (fun hq3 h=>?_) (fun hq3 h=>?_)
  ·obtain ⟨c,h⟩:=ifSome h
   obtain ⟨c2,h⟩:=ifSome h
   refine rnP hE 4 (kp [0,1,5,31]) [] 176 (pc c (pc c2 pn)) <| Runs.nC 0 31 h (fun hq4 h=>?_) (fun hq4 h=>?_)
   ·refine rnP hE 1 (kp [4]) [] 368 (pc c (pc c2 pn)) ?_
    cases h
    exact rnU hE 0 Tryd.f70 (kp [4]) [] 368
   ·refine rnZ hE 2 qzd96 [] 224 <| rnV hE 1 qzd96 [] 0 (ih _ _ h E hE)
  ·refine rnZ hE 2 (kp [4]) [] 48 ?_
   cases h
   exact rnU hE 0 Tryd.f70 (kp [4]) [] 48
theorem g_e_compare_ok (N:Nat) (a:List Int) (b:List Int) (r:Int) (h:g_e_compare N a b=some r):Sound Tryd.prog 70 [(qzd82 a),(qzd82 b)] [] 0 (aI r) []:=by
 unfold g_e_compare at h
 refine sO Tryd.f70 43 fun E hE=>?_
 refine rnZ hE 1 (kp [0,1]) [] 16 <| rnZ hE 2 (kp [0,1,10]) [] 96 <| Runs.nC 0 10 h (fun hq2 h=>?_) (fun hq2 h=>?_)
 ·refine rnZ hE 1 (kp [4]) [] 192 ?_
  cases h
  exact rnU hE 0 Tryd.f70 (kp [4]) [] 192
 ·refine rnZ hE 3 qzd96 [] 160 <| rnV hE 2 qzd96 [] 0 (g_e_compare_L1_ok N _ _ N _ _ h E hE)
noncomputable abbrev C_9:=bt Tryd.f63
theorem g_slices_Clone_uint16_uint16_ok (N:Nat) (s:List Int) (r:(List Int)) (h:g_slices_Clone_uint16_uint16 N s=some r):Sound Tryd.prog 63 [(qzd82 s)] [] 0 (qzd83 r) []:=by
 unfold g_slices_Clone_uint16_uint16 at h
 refine sO Tryd.f63 8 fun E hE=>?_
 refine rnZ hE 1 (kp [0]) [] 16 <| rnZ hE 2 (kp [0,4]) [] 48 <| Runs.sA 0 [.code (C_9 13),.code (C_9 7)] <| Runs.condBn (o:=.tmp 4) (x:=C_9 26) (y:=C_9 27) (n:=s.length) (by kernel_rfl) (by kernel_rfl) (fun hq2=>?_) ?_
 ·replace hq2:=List.length_eq_zero_iff.1 hq2
  replace h:(some ([]:List Int))=some r:=by rw [hq2] at h;simpa using h
  refine rnZ hE 1 (kp [2]) [] 64 ?_
  cases h
  exact Runs.nT hE 0 Tryd.f63 [] [(2,slW (cU .u16) 0 ([]:List Int))] [] 64 (pc (Eq.refl 0) pn) [] pn
 ·obtain ⟨c,h⟩:=ifSome h
  refine rnP hE 2 [(2,.osl ((qzd20 s).length))] [(80,arW 80 (cU .u16) 0 (qzd20 s))] 112 (pc (Eq.refl 0) (pc c (pc (show ∀ zi,zi < s.length→AV.oneL ((fun zi=>(cU .u16) (s.getD zi 0)) zi)=true from (fun _ _=>rfl)) (pc (len_app0 ([]:List Int) s) (pc (len_app0 ([]:List Int) s) (pc (show ∀ zi,zi < (qzd20 s).length→(fun zi=>(cU .u16) ((qzd20 s).getD zi 0)) zi=((fun zm=>if zm < 0 then (fun _=>[]) zm else (fun zi=>(cU .u16) (s.getD zi 0)) (zm - 0))) zi from (get_app_raw (cU .u16) 0 ([]:List Int) s rfl (fun zq hzq=>absurd hzq (Nat.not_lt_zero _)) (fun _ _=>rfl))) pn)))))) ?_
  cases h
  exact Runs.nT hE 0 Tryd.f63 [80] [(2,slW (cU .u16) 0 (qzd20 s))] [] 112 (pc (Eq.refl ((qzd20 s).length)) (pc (z1 ((qzd20 s).length)) (pc (eZ (cU .u16) 0 (qzd20 s)) pn))) [] pn
noncomputable abbrev C_10:=bt Tryd.f27
def g_e_short_L1_H (N:Nat) (a:List Int) (b:Int) (K:(List Int)→Int→Int→Option ((List Int)×Int)):Prop:=∀ (q:List Int) (rest:Int) (i:Int) (r:(List Int)×Int),K q rest i=some r→∀ E,EnvOk E 0→Runs Tryd.prog E 27 43 (SPost E [] (qzd45 r)) [.code (C_10 244),.inLoop (C_10 244),.inBlock 0,.code (C_10 31)] ⟨[(0,(qzd82 a)),(1,(.atom (.int .u16 b))),(6,(qzd36 q)),(7,(qzd34 rest)),(8,(aI i))],[(0,aO 1 (cU .u16) 0 q)],1⟩
theorem g_e_short_L1_ok (N:Nat) (a:List Int) (b:Int) (fuel:Nat):g_e_short_L1_H N a b (g_e_short_L1 N a b fuel):=by
 induction fuel with
 | zero=>intro _ _ _ r h;rw [g_e_short_L1.eq_1] at h;cases h
 | succ fuel ih =>
  intro q rest i r h E hE
  rw [g_e_short_L1.eq_2] at h
  refine rnZ hE 2 (kp [0,1,6,7,8,16]) (kq [0]) 33 <| Runs.nC 0 16 h (fun hq2 h=>?_) (fun hq2 h=>?_)
  ·obtain ⟨c2,h⟩:=ifSome h
   refine rnP hE 4 qzd98 (kq [0]) 177 (pc (show (0:Int)≤16 by decide) (pc c2 pn)) ?_
   obtain ⟨c3,h⟩:=ifSome h
   obtain ⟨c4,h⟩:=ifSome h
   refine rnP hE 1 (kp [0,1] ++ [(6,.osl ((qzd9 q i rest a b).length))] ++ kp [7,8]) [(0,arW 0 (cU .u16) 0 (qzd9 q i rest a b))] 321 (pc c3 (pc c4 (pc (ltOf c4) (pc (len_set0 q ((i).toNat) (qzd59 rest a i b)) (pc (len_set0 q ((i).toNat) (qzd59 rest a i b)) (pc (get_set0 (cU .u16) 0 q ((i).toNat) (qzd59 rest a i b)) pn)))))) <| rnP hE 0 qzd98 (kq [0]) 401 (pc c3 pn) <| rnZ hE 1 qzd98 (kq [0]) 449 <| rnV hE 1 qzd98 (kq [0]) 1 (ih _ _ _ _ h E hE)
  ·obtain ⟨rtrim,hr,h⟩:=bindSome h
   refine rnH hE 2 [(1,⟨[],true,(qzd83 rtrim),[],0,true,none⟩)] (kp [4,5]) [] 129 (pc (g_e_trim_ok _ _ _ hr) (pc (z1 q.length) pn)) ?_
   cases h
   exact rnU hE 0 Tryd.f27 (kp [4,5]) [] 129
theorem g_e_short_ok (N:Nat) (a:List Int) (b:Int) (r:(List Int)×Int) (h:g_e_short N a b=some r):Sound Tryd.prog 27 [(qzd82 a),(.atom (.int .u16 b))] [] 0 (qzd45 r) []:=by
 unfold g_e_short at h
 refine sO Tryd.f27 43 fun E hE=>?_
 refine rnZ hE 1 (kp [0,1]) [] 32 ?_
 obtain ⟨c,h⟩:=ifSome h
 refine rnP hE 1 (kp [0,1] ++ [(6,.osl (qzd19 a))]) [(64,arW 64 (cU .u16) 0 (qzd146 a))] 96 (pc c.1 (pc (Int.le_refl (qzd140 a)) (pc c.2.1 (pc c.2.2 (pc (lR a.length (0:Int)) (pc (lR a.length (0:Int)) (pc (get_rep (cU .u16) 0 0 a.length) pn))))))) <| rnZ hE 1 (kp [0,1,6,7]) (kq [64]) 112 <| rnZ hE 2 qzd98 (kq [64]) 176 <| rnV hE 2 qzd98 [(0,.keep 64)] 1 (g_e_short_L1_ok N _ _ N _ _ _ _ h E hE)
noncomputable abbrev C_12:=bt Tryd.f88
def g_math_bits_Len16_J1_H (N:Nat) (K:Int→Int→Option (Int)):Prop:=∀ (x2:Int) (n:Int) (r:Int),K x2 n=some r→∀ E,EnvOk E 0→Runs Tryd.prog E 88 13 (SPost E [] (aI r)) [.code (C_12 14),.code (C_12 15)] ⟨[(0,(.atom (.int .u16 x2))),(2,(aI n))],[],0⟩
theorem g_math_bits_Len16_J1_ok (N:Nat):g_math_bits_Len16_J1_H N (g_math_bits_Len16_J1 N):=by
 intro x2 n r h E hE
 unfold g_math_bits_Len16_J1 at h
 obtain ⟨c,h⟩:=ifSome h
 refine rnP hE 0 (kp [2]) [] 112 (pc c pn) ?_
 cases h
 exact rnU hE 0 Tryd.f88 (kp [2]) [] 112
theorem g_math_bits_Len16_ok (N:Nat) (x:Int) (r:Int) (h:g_math_bits_Len16 N x=some r):Sound Tryd.prog 88 [(.atom (.int .u16 x))] [] 0 (aI r) []:=by
 unfold g_math_bits_Len16 at h
 refine sO Tryd.f88 13 fun E hE=>?_
 refine rnZ hE 1 (kp [0,2]) [] 16 <| rnZ hE 2 qzd105 [] 48 <| Runs.nC 0 4 h (fun hq2 h=>?_) (fun hq2 h=>?_)
 ·refine rnP hE 1 (kp [0]) [] 96 (pc (show (0:Int)≤8 by decide) pn) <| rnZ hE 0 (kp [0,2]) [] 112 <| rnV hE 1 (kp [0,2]) [] 0 (g_math_bits_Len16_J1_ok N _ _ _ h E hE)
 ·exact rnV hE 2 (kp [0,2]) [] 0 (g_math_bits_Len16_J1_ok N _ _ _ h E hE)
theorem g_math_bits_LeadingZeros16_ok (N:Nat) (x:Int) (r:Int) (h:g_math_bits_LeadingZeros16 N x=some r):Sound Tryd.prog 71 [(.atom (.int .u16 x))] [] 0 (aI r) []:=by
 unfold g_math_bits_LeadingZeros16 at h
 refine sO Tryd.f71 6 fun E hE=>?_
 refine rnZ hE 1 (kp [0]) [] 16 ?_
 obtain ⟨rLen16,hr,h⟩:=bindSome h
 refine rnH hE 1 [(1,⟨[],true,(aI rLen16),[],0,false,none⟩)] (kp [2]) [] 80 (pc (g_math_bits_Len16_ok _ _ _ hr) pn) ?_
 cases h
 exact rnU hE 0 Tryd.f71 (kp [2]) [] 80
noncomputable abbrev C_13:=bt Tryd.f72
def g_e_shifted_L1_H (N:Nat) (a:List Int) (vby:Int) (K:(List Int)→Int→Option qzd18):Prop:=∀ (out:List Int) (x:Int) (r:(List Int)),K out x=some r→∀ E,EnvOk E 0→Runs Tryd.prog E 72 41 (SPost E [(0,aO 1 (cU .u16) 0 r)] (.os 0 0 r.length)) [.code (C_13 116),.inLoop (C_13 116),.inBlock 0,.code (C_13 15)] ⟨[(1,(aI vby)),(5,(qzd36 out)),(13,(qzd82 a)),(qzd51 a),(15,(aI x))],[(0,aO 1 (cU .u16) 0 out)],1⟩
theorem g_e_shifted_L1_ok (N:Nat) (a:List Int) (vby:Int) (fuel:Nat):g_e_shifted_L1_H N a vby (g_e_shifted_L1 N a vby fuel):=by
 induction fuel with
 | zero=>intro _ _ r h;rw [g_e_shifted_L1.eq_1] at h;cases h
 | succ fuel ih =>
  intro out x r h E hE
  rw [g_e_shifted_L1.eq_2] at h
  refine rnZ hE 1 (kp [1,5,13,14,15,16]) (kq [0]) 17 <| Runs.nC 1 16 h (fun hq2 h=>?_) (fun hq2 h=>?_)
  ·obtain ⟨c2,h⟩:=ifSome h
   refine rnP hE 4 (kp [1,5,6,7,13,14,15]) (kq [0]) 97 (pc c2 pn) ?_
   obtain ⟨c3,h⟩:=ifSome h
   refine rnP hE 1 (kp [1,5,6,8,13,14,15]) (kq [0]) 177 (pc c3 pn) ?_
   obtain ⟨c4,h⟩:=ifSome h
   refine rnP hE 1 (kp [1] ++ [(5,.osl ((qzd11 out x a vby).length))] ++ kp [6,8,13,14,15]) [(0,arW 0 (cU .u16) 0 (qzd11 out x a vby))] 321 (pc c4 (pc (ltOf c4) (pc c4 (pc (ltOf c4) (pc (len_set0 out ((x).toNat) (qzd138 out x a vby)) (pc (len_set0 out ((x).toNat) (qzd138 out x a vby)) (pc (get_set0 (cU .u16) 0 out ((x).toNat) (qzd138 out x a vby)) pn))))))) ?_
   obtain ⟨c5,h⟩:=ifSome h
   refine rnP hE 0 (kp [1] ++ [(5,.osl ((qzd14 out x a vby).length))] ++ kp [13,14,15]) [(0,arW 0 (cU .u16) 0 (qzd14 out x a vby))] 449 (pc (show (0:Int)≤16 by decide) (pc c5 (pc (ltOf c5) (pc (len_set0 (qzd11 out x a vby) ((w64 (x+1)).toNat) (qzd61 a x vby)) (pc (len_set0 (qzd11 out x a vby) ((w64 (x+1)).toNat) (qzd61 a x vby)) (pc (get_set0 (cU .u16) 0 (qzd11 out x a vby) ((w64 (x+1)).toNat) (qzd61 a x vby)) pn)))))) <| rnZ hE 1 qzd115 (kq [0]) 481 <| rnV hE 1 qzd115 (kq [0]) 1 (ih _ _ _ h E hE)
  ·refine rnZ hE 2 (kp [4]) (kq [0]) 49 ?_
   obtain rfl:=Option.some.inj h
   exact rnU hE 0 Tryd.f72 (kp [4]) (kq [0]) 49
theorem g_e_shifted_ok (N:Nat) (a:List Int) (vby:Int) (r:(List Int)) (h:g_e_shifted N a vby=some r):Sound Tryd.prog 72 [(qzd82 a),(aI vby)] [] 0 (.os 0 0 r.length) [(0,aO 1 (cU .u16) 0 r)]:=by
 unfold g_e_shifted at h
 refine sO Tryd.f72 41 fun E hE=>?_
 refine rnZ hE 1 (kp [0,1]) [] 16 ?_
 obtain ⟨c,h⟩:=ifSome h
 refine rnP hE 1 (kp [0,1] ++ [(5,.osl ((qzd65 a).length))]) [(64,arW 64 (cU .u16) 0 (qzd65 a))] 96 (pc c.1 (pc (Int.le_refl (qzd153 a)) (pc c.2.1 (pc c.2.2 (pc (lR (qzd25 a) (0:Int)) (pc (lR (qzd25 a) (0:Int)) (pc (get_rep (cU .u16) 0 0 (qzd25 a)) pn))))))) <| rnZ hE 2 qzd115 (kq [64]) 144 <| rnV hE 2 qzd115 [(0,.keep 64)] 1 (g_e_shifted_L1_ok N _ _ N _ _ _ h E hE)
noncomputable abbrev C_14:=bt Tryd.f73
def g_e_digit_L1_H (N:Nat) (uo:Nat) (un:Nat) (v:List Int) (cap0:List Int) (K:Int→Int→Option qzd54):Prop:=∀ (q:Int) (rest:Int) (r:Int×(List Int)),K q rest=some r→∀ E,EnvOk E 1→Runs Tryd.prog E 73 161 (SPost E [(0,aO 1 (cU .u16) 0 r.2)] (qzd32 r)) [.code (C_14 248),.inLoop (C_14 248),.inBlock 0,.code (C_14 63)] ⟨[(0,(.os 0 uo un)),(1,(qzd82 v)),(qzd53 v),(7,(qzd35 q)),(8,(qzd35 rest))],[(0,aO 1 (cU .u16) 0 cap0)],1⟩
def g_e_digit_L2_H (N:Nat) (uo:Nat) (un:Nat) (v:List Int) (q:Int) (K:(List Int)→Int→Int→Int→Option qzd54):Prop:=∀ (cap02:List Int) (carry:Int) (borrow:Int) (x:Int) (r:Int×(List Int)),K cap02 carry borrow x=some r→∀ E,EnvOk E 1→Runs Tryd.prog E 73 161 (SPost E [(0,aO 1 (cU .u16) 0 r.2)] (qzd32 r)) [.code (C_14 2036),.inLoop (C_14 2036),.inBlock 2,.code (C_14 255)] ⟨[(0,(.os 0 uo un)),(1,(qzd82 v)),(qzd53 v),(7,(qzd35 q)),(9,(qzd35 carry)),(10,(aI borrow)),(84,(aI (qzd153 v))),(85,(aI x))],[(0,aO 1 (cU .u16) 0 cap02)],1⟩
def g_e_digit_J3_H (N:Nat) (uo:Nat) (un:Nat) (v:List Int) (q:Int) (cap02:List Int) (borrow:Int) (x:Int) (K:Int→Option qzd54):Prop:=∀ (x2:Int) (r:Int×(List Int)),K x2=some r→∀ E,EnvOk E 1→Runs Tryd.prog E 73 161 (SPost E [(0,aO 1 (cU .u16) 0 r.2)] (qzd32 r)) [.code (C_14 521422),.code (C_14 521423),.inBlock 3,.code (C_14 16295),.inLoop (C_14 2036),.inBlock 2,.code (C_14 255)] ⟨[(0,(.os 0 uo un)),(1,(qzd82 v)),(qzd53 v),(7,(qzd35 q)),(10,(aI borrow)),(11,(aI x)),(12,(qzd35 x2)),(84,(aI (qzd153 v))),(85,(aI x))],[(0,aO 1 (cU .u16) 0 cap02)],1⟩
theorem g_e_digit_J3_ok (N:Nat) (uo:Nat) (un:Nat) (v:List Int) (q:Int) (cap02:List Int) (borrow:Int) (x:Int) (K_g_e_digit_L2:(List Int)→Int→Int→Int→Option qzd54) (hK_g_e_digit_L2:g_e_digit_L2_H N uo un v q K_g_e_digit_L2):g_e_digit_J3_H N uo un v q cap02 borrow x (g_e_digit_J3 N uo un v q cap02 borrow x K_g_e_digit_L2):=by
 intro x2 r h E hE
 unfold g_e_digit_J3 at h
 refine rnP hE 0 (kp [0,1,5,7,9,10,11,12,84,85]) (kq [0]) 49 (pc (show (0:Int)≤16 by decide) pn) ?_
 obtain ⟨c11,h⟩:=ifSome h
 obtain ⟨c12,h⟩:=ifSome h
 refine rnP hE 1 (kp [0,1,5,7,9,11,13,84,85]) (kq [0]) 241 (pc c11 (pc (show (addz uo (x).toNat) < cap02.length by have h1:=c11;have h2:=c12;simp only [addz_eq];omega) pn)) <| rnP hE 1 (kp [0,1,5,7,9,13,84,85]) [(0,arW 0 (cU .u16) 0 (cap02.set (addz uo (x).toNat) (qzd62 cap02 uo x x2 borrow)))] 337 (pc c11 (pc (show (addz uo (x).toNat) < cap02.length by have h1:=c11;have h2:=c12;simp only [addz_eq];omega) (pc (len_set0 cap02 (addz uo (x).toNat) (qzd62 cap02 uo x x2 borrow)) (pc (get_set0 (cU .u16) 0 cap02 (addz uo (x).toNat) (qzd62 cap02 uo x x2 borrow)) pn)))) <| rnP hE 0 qzd95 (kq [0]) 385 (pc (show (0:Int)≤16 by decide) pn) <| rnZ hE 1 qzd95 (kq [0]) 417 <| rnV hE 1 qzd95 (kq [0]) 1 (hK_g_e_digit_L2 _ _ _ _ _ h E hE)
def g_e_digit_L4_H (N:Nat) (uo:Nat) (un:Nat) (v:List Int) (q:Int) (K:(List Int)→Int→Int→Option qzd54):Prop:=∀ (cap03:List Int) (carry2:Int) (x3:Int) (r:Int×(List Int)),K cap03 carry2 x3=some r→∀ E,EnvOk E 1→Runs Tryd.prog E 73 161 (SPost E [(0,aO 1 (cU .u16) 0 r.2)] (qzd32 r)) [.code (C_14 130740),.inLoop (C_14 130740),.inBlock 4,.code (C_14 16343),.code (C_14 511)] ⟨[(0,(.os 0 uo un)),(1,(qzd82 v)),(qzd53 v),(7,(.atom (.int .u64 (IntKind.u64.wrap (q - 1))))),(14,(qzd34 carry2)),(126,(qzd77 v)),(127,(aI x3))],[(0,aO 1 (cU .u16) 0 cap03)],1⟩
def g_e_digit_J5_H (N:Nat) (K:(List Int)→Int→Option qzd54):Prop:=∀ (cap04:List Int) (q2:Int) (r:Int×(List Int)),K cap04 q2=some r→∀ E,EnvOk E 1→Runs Tryd.prog E 73 161 (SPost E [(0,aO 1 (cU .u16) 0 r.2)] (qzd32 r)) [.code (C_14 1022),.code (C_14 1023)] ⟨[(7,(qzd35 q2))],[(0,aO 1 (cU .u16) 0 cap04)],1⟩
theorem g_e_digit_J5_ok (N:Nat):g_e_digit_J5_H N (g_e_digit_J5 N):=by
 intro cap04 q2 r h E hE
 unfold g_e_digit_J5 at h
 refine rnZ hE 0 (kp [4]) (kq [0]) 49 ?_
 cases h
 exact rnU hE 0 Tryd.f73 (kp [4]) (kq [0]) 49
theorem g_e_digit_L4_ok (N:Nat) (uo:Nat) (un:Nat) (v:List Int) (q:Int) (fuel:Nat):g_e_digit_L4_H N uo un v q (g_e_digit_L4 N uo un v q fuel):=by
 induction fuel with
 | zero=>intro _ _ _ r h;rw [g_e_digit_L4.eq_1] at h;cases h
 | succ fuel ih =>
  intro cap03 carry2 x3 r h E hE
  rw [g_e_digit_L4.eq_2] at h
  refine rnZ hE 1 (kp [0,1,5,7,14,126,127,128]) (kq [0]) 17 <| Runs.nC 1 128 h (fun hq6 h=>?_) (fun hq6 h=>?_)
  ·refine rnZ hE 4 (kp [0,1,5,7,14,15,126,127]) (kq [0]) 49 ?_
   obtain ⟨c13,h⟩:=ifSome h
   obtain ⟨c14,h⟩:=ifSome h
   obtain ⟨c15,h⟩:=ifSome h
   refine rnP hE 1 (kp [0,1,5,7,14,15,126,127]) (kq [0]) 273 (pc c13 (pc (show (addz uo (x3).toNat) < cap03.length by have h1:=c13;have h2:=c14;simp only [addz_eq];omega) (pc c15 pn))) <| rnP hE 1 qzd93 [(0,arW 0 (cU .u16) 0 (cap03.set (addz uo (x3).toNat) (qzd56 carry2 cap03 uo x3 v)))] 369 (pc c13 (pc (show (addz uo (x3).toNat) < cap03.length by have h1:=c13;have h2:=c14;simp only [addz_eq];omega) (pc (len_set0 cap03 (addz uo (x3).toNat) (qzd56 carry2 cap03 uo x3 v)) (pc (get_set0 (cU .u16) 0 cap03 (addz uo (x3).toNat) (qzd56 carry2 cap03 uo x3 v)) pn)))) <| rnP hE 0 qzd93 (kq [0]) 417 (pc (show (0:Int)≤16 by decide) pn) <| rnZ hE 1 qzd93 (kq [0]) 449 <| rnV hE 1 qzd93 (kq [0]) 1 (ih _ _ _ _ h E hE)
  ·obtain ⟨c16,h⟩:=ifSome h
   obtain ⟨c17,h⟩:=ifSome h
   refine rnP hE 1 (kp [7]) [(0,arW 0 (cU .u16) 0 (cap03.set (addz uo v.length) (IntKind.u16.wrap ((cap03.getD (addz uo v.length) 0)+(qzd55 carry2)))))] 161 (pc c16 (pc (show (addz uo v.length) < cap03.length by have h1:=c16;have h2:=c17;simp only [addz_eq];omega) (pc c16 (pc (show (addz uo v.length) < cap03.length by have h1:=c16;have h2:=c17;simp only [addz_eq];omega) (pc (len_set0 cap03 (addz uo v.length) (IntKind.u16.wrap ((cap03.getD (addz uo v.length) 0)+(qzd55 carry2)))) (pc (get_set0 (cU .u16) 0 cap03 (addz uo v.length) (IntKind.u16.wrap ((cap03.getD (addz uo v.length) 0)+(qzd55 carry2)))) pn)))))) <| rnV hE 1 (kp [7]) (kq [0]) 1 (g_e_digit_J5_ok N _ _ _ h E hE)
theorem g_e_digit_L2_ok (N:Nat) (uo:Nat) (un:Nat) (v:List Int) (q:Int) (fuel:Nat):g_e_digit_L2_H N uo un v q (g_e_digit_L2 N uo un v q fuel):=by
 induction fuel with
 | zero=>intro _ _ _ _ r h;rw [g_e_digit_L2.eq_1] at h;cases h
 | succ fuel ih =>
  intro cap02 carry borrow x r h E hE
  rw [g_e_digit_L2.eq_2] at h
  refine rnZ hE 1 (kp [0,1,5,7,9,10,84,85,86]) (kq [0]) 17 <| Runs.nC 1 86 h (fun hq3 h=>?_) (fun hq3 h=>?_)
  ·refine rnZ hE 4 (kp [0,1,5,7,9,10,11,84,85]) (kq [0]) 49 <| rnZ hE 1 qzd92 (kq [0]) 81 <| rnZ hE 2 (kp [0,1,5,7,10,11,12,84,85,91]) (kq [0]) 129 <| Runs.nC 0 91 h (fun hq4 h=>?_) (fun hq4 h=>?_)
   ·obtain ⟨c10,h⟩:=ifSome h
    refine rnP hE 0 qzd92 (kq [0]) 289 (pc c10 pn) <| rnV hE 1 qzd92 (kq [0]) 1 (g_e_digit_J3_ok N _ _ _ _ _ _ _ _ ih _ _ h E hE)
   ·exact rnV hE 2 qzd92 (kq [0]) 1 (g_e_digit_J3_ok N _ _ _ _ _ _ _ _ ih _ _ h E hE)
  ·refine rnZ hE 3 (kp [0,1,5,7,123]) (kq [0]) 49 <| Runs.nC 0 123 h (fun hq5 h=>?_) (fun hq5 h=>?_)
   ·refine rnZ hE 1 (kp [0,1,5,7]) (kq [0]) 97 <| rnZ hE 1 (kp [0,1,5,7,14]) (kq [0]) 113 <| rnZ hE 2 qzd93 (kq [0]) 145 <| rnV hE 2 qzd93 (kq [0]) 1 (g_e_digit_L4_ok N _ _ _ _ N _ _ _ _ h E hE)
   ·exact rnV hE 2 (kp [7]) (kq [0]) 1 (g_e_digit_J5_ok N _ _ _ h E hE)
theorem g_e_digit_L1_ok (N:Nat) (uo:Nat) (un:Nat) (v:List Int) (cap0:List Int) (fuel:Nat):g_e_digit_L1_H N uo un v cap0 (g_e_digit_L1 N uo un v cap0 fuel):=by
 induction fuel with
 | zero=>intro _ _ r h;rw [g_e_digit_L1.eq_1] at h;cases h
 | succ fuel ih =>
  intro q rest r h E hE
  rw [g_e_digit_L1.eq_2] at h
  obtain ⟨c6,h⟩:=ifSome h
  obtain ⟨c7,h⟩:=ifSome h
  obtain ⟨c8,h⟩:=ifSome h
  refine rnP hE 2 (kp [0,1,5,7,8,72]) (kq [0]) 417 (pc (fun hg:(decide (rest < 65536))=true=>(pc hg pn)) (pc (fun hg:(qzd22 rest q)=true=>(pc hg pn)) (pc (fun hg:(qzd22 rest q)=true=>(pc hg (pc hg (pc (c6 hg) pn)))) (pc (fun hg:(qzd22 rest q)=true=>(pc hg pn)) (pc (fun hg:(qzd22 rest q)=true=>(pc hg pn)) (pc (fun hg:(qzd22 rest q)=true=>(pc hg (pc hg pn))) (pc (fun hg:(qzd22 rest q)=true=>(pc hg (pc (show (0:Int)≤16 by decide) pn))) (pc (fun hg:(qzd22 rest q)=true=>(pc hg pn)) (pc (fun hg:(qzd22 rest q)=true=>(pc hg (pc hg (pc (c7 hg) pn)))) (pc (fun hg:(qzd22 rest q)=true=>(pc hg (pc (show (addz uo (w64 (((v.length:Nat):Int) - 2)).toNat) < cap0.length by have h1:=(c7 hg);have h2:=(c8 hg);simp only [addz_eq];omega) pn))) (pc (fun hg:(qzd22 rest q)=true=>(pc hg pn)) (pc (fun hg:(qzd22 rest q)=true=>(pc hg (pc hg pn))) (pc (fun hg:(qzd22 rest q)=true=>(pc hg (pc hg pn))) (pc (fun hg:(decide (rest < 65536))=true=>(pc hg (pc hg (pc (fun hq:(!(decide (q > 65535)))=true=>(pc (show (qzd22 rest q)=true from (andI' hg (andI' hg hq))) pn)) pn)))) (pc (fun hq:(decide (rest < 65536))=true=>(pc hq pn)) pn))))))))))))))) <| Runs.nC 0 72 h (fun hq2 h=>?_) (fun hq2 h=>?_)
  ·refine rnZ hE 3 qzd94 (kq [0]) 465 ?_
   obtain ⟨c9,h⟩:=ifSome h
   refine rnP hE 0 qzd94 (kq [0]) 609 (pc c9 pn) <| rnV hE 2 qzd94 (kq [0]) 1 (ih _ _ _ h E hE)
  ·refine rnZ hE 2 (kp [0,1,5,7,9,10]) (kq [0]) 449 <| rnZ hE 2 qzd95 (kq [0]) 497 <| rnV hE 2 qzd95 (kq [0]) 1 (g_e_digit_L2_ok N _ _ _ _ N _ _ _ _ _ h E hE)
theorem g_e_digit_ok (N:Nat) (uo:Nat) (un:Nat) (v:List Int) (cap0:List Int) (r:Int×(List Int)) (h:g_e_digit N uo un v cap0=some r):Sound Tryd.prog 73 [(.os 0 uo un),(qzd82 v)] [(0,aO 1 (cU .u16) 0 cap0)] 1 (qzd32 r) [(0,aO 1 (cU .u16) 0 r.2)]:=by
 unfold g_e_digit at h
 refine sO Tryd.f73 161 fun E hE=>?_
 refine rnZ hE 1 (kp [0,1]) (kq [0]) 17 <| rnZ hE 1 qzd96 (kq [0]) 65 ?_
 obtain ⟨c,h⟩:=ifSome h
 obtain ⟨c2,h⟩:=ifSome h
 obtain ⟨c3,h⟩:=ifSome h
 refine rnP hE 1 qzd91 (kq [0]) 289 (pc c (pc (show (addz uo v.length) < cap0.length by have h1:=c;have h2:=c2;simp only [addz_eq];omega) (pc (show (0:Int)≤16 by decide) (pc c3 (pc (show (addz uo (w64 (((v.length:Nat):Int) - 1)).toNat) < cap0.length by have h1:=c3;have h2:=c2;simp only [addz_eq];omega) pn))))) ?_
 obtain ⟨c4,h⟩:=ifSome h
 obtain ⟨c5,h⟩:=ifSome h
 refine rnP hE 1 qzd94 (kq [0]) 577 (pc c4 (pc c5 (pc c4 (pc c5 pn)))) <| rnV hE 3 qzd94 (kq [0]) 1 (g_e_digit_L1_ok N _ _ _ _ N _ _ _ h E hE)
noncomputable abbrev C_7:=bt Tryd.f48
def g_e_divide_L1_H (N:Nat) (b:List Int) (rLeadingZeros:Int) (rshifted2:(List Int)) (K:(List Int)→(List Int)→Int→Option qzd17):Prop:=∀ (q:List Int) (u:List Int) (j:Int) (r:(List Int)×(List Int)),K q u j=some r→∀ E,EnvOk E 0→Runs Tryd.prog E 48 109 (SPost E [] (qzd46 r)) [.code (C_7 4084),.inLoop (C_7 4084),.inBlock 0,.code (C_7 511)] ⟨[(4,(qzd36 q)),(8,(aI rLeadingZeros)),(9,(.os 1 0 u.length)),(10,(.os 2 0 (b.length - 0))),(11,(aI (qzd159 b))),(12,(aI j))],[(0,aO 1 (cU .u16) 0 q),(1,aO 1 (cU .u16) 0 u),(2,aO 1 (cU .u16) 0 rshifted2)],3⟩
def g_e_divide_L2_H (N:Nat) (b:List Int) (rLeadingZeros:Int) (q:List Int) (u:List Int) (K:(List Int)→Int→Option qzd17):Prop:=∀ (vr:List Int) (x:Int) (r:(List Int)×(List Int)),K vr x=some r→∀ E,EnvOk E 0→Runs Tryd.prog E 48 109 (SPost E [] (qzd46 r)) [.code (C_7 16372),.inLoop (C_7 16372),.inBlock 2,.code (C_7 2047)] ⟨[(4,(qzd36 q)),(5,(.os 1 0 vr.length)),(8,(aI rLeadingZeros)),(9,(.os 2 0 u.length)),(81,(aI (qzd159 b))),(82,(aI x))],[(0,aO 1 (cU .u16) 0 q),(1,aO 1 (cU .u16) 0 vr),(2,aO 1 (cU .u16) 0 u)],3⟩
theorem g_e_divide_L2_ok (N:Nat) (b:List Int) (rLeadingZeros:Int) (q:List Int) (u:List Int) (fuel:Nat):g_e_divide_L2_H N b rLeadingZeros q u (g_e_divide_L2 N b rLeadingZeros q u fuel):=by
 induction fuel with
 | zero=>intro _ _ r h;rw [g_e_divide_L2.eq_1] at h;cases h
 | succ fuel ih =>
  intro vr x r h E hE
  rw [g_e_divide_L2.eq_2] at h
  refine rnZ hE 1 (kp [4,5,8,9,81,82,83]) qzd131 19 <| Runs.nC 1 83 h (fun hq5 h=>?_) (fun hq5 h=>?_)
  ·refine rnZ hE 4 (kp [4,5,8,9,13,81,82]) qzd131 51 ?_
   obtain ⟨c12,h⟩:=ifSome h
   obtain ⟨c13,h⟩:=ifSome h
   obtain ⟨c14,h⟩:=ifSome h
   obtain ⟨c15,h⟩:=ifSome h
   refine rnP hE 0 (kp [4] ++ [(5,.osl ((qzd10 vr x u rLeadingZeros).length))] ++ kp [8,9,81,82]) (kq [0] ++ [(1,arW 1 (cU .u16) 0 (qzd10 vr x u rLeadingZeros))] ++ kq [2]) 371 (pc c12 (pc (ltOf c12) (pc c13 (pc (ltOf c13) (pc (show (0:Int)≤16 by decide) (pc c14 (pc c15 (pc (ltOf c15) (pc (len_set0 vr ((x).toNat) (qzd60 u x rLeadingZeros)) (pc (len_set0 vr ((x).toNat) (qzd60 u x rLeadingZeros)) (pc (get_set0 (cU .u16) 0 vr ((x).toNat) (qzd60 u x rLeadingZeros)) pn))))))))))) <| rnZ hE 1 qzd129 qzd131 403 <| rnV hE 1 qzd129 qzd131 3 (ih _ _ _ h E hE)
  ·obtain ⟨rtrim2,hr9,h⟩:=bindSome h
   obtain ⟨rtrim3,hr10,h⟩:=bindSome h
   refine rnH hE 2 [(1,⟨[],true,(qzd83 rtrim2),[],0,true,none⟩),(3,⟨[],true,(qzd83 rtrim3),[],0,true,none⟩)] (kp [4,5]) [] 115 (pc (g_e_trim_ok _ _ _ hr9) (pc (z1 q.length) (pc (g_e_trim_ok _ _ _ hr10) (pc (z1 vr.length) pn)))) ?_
   cases h
   exact rnU hE 0 Tryd.f48 (kp [4,5]) [] 115
theorem g_e_divide_L1_ok (N:Nat) (b:List Int) (rLeadingZeros:Int) (rshifted2:(List Int)) (fuel:Nat):g_e_divide_L1_H N b rLeadingZeros rshifted2 (g_e_divide_L1 N b rLeadingZeros rshifted2 fuel):=by
 induction fuel with
 | zero=>intro _ _ _ r h;rw [g_e_divide_L1.eq_1] at h;cases h
 | succ fuel ih =>
  intro q u j r h E hE
  rw [g_e_divide_L1.eq_2] at h
  refine rnZ hE 2 (kp [4,8,9,10,11,12,64]) qzd131 35 <| Runs.nC 0 64 h (fun hq4 h=>?_) (fun hq4 h=>?_)
  ·obtain ⟨c5,h⟩:=ifSome h
   obtain ⟨c6,h⟩:=ifSome h
   obtain ⟨c7,h⟩:=ifSome h
   obtain ⟨c8,h⟩:=ifSome h
   obtain ⟨rdigit,hr8,h⟩:=bindSome h
   obtain ⟨c9,h⟩:=ifSome h
   obtain ⟨c10,h⟩:=ifSome h
   refine rnH hE 3 [(10,⟨[1],false,(qzd32 rdigit),[(0,aO 1 (cU .u16) 0 rdigit.2)],0,false,none⟩)] ([(4,.osl ((q.set ((j).toNat) rdigit.1).length))] ++ kp [8] ++ [(9,.osl (rdigit.2.length))] ++ kp [10,11,12]) ([(0,arW 0 (cU .u16) 0 (q.set ((j).toNat) rdigit.1))] ++ kq [1,2]) 243 (pc c5 (pc c6 (pc c7 (pc (show Sound Tryd.prog 73 [(.os 0 ((j).toNat) ((w64 ((w64 (j+(qzd159 b)))+1)).toNat - (j).toNat)),(.sl (b.length - 0) (fun zi=>(cU .u16) (rshifted2.getD (addz 0 zi) 0)))] [(0,aO 1 (cU .u16) 0 u)] 1 (qzd32 rdigit) [(0,aO 1 (cU .u16) 0 rdigit.2)] from (Sound.conv (g_e_digit_ok _ _ _ _ _ _ hr8) (.cons (Alike.refl _) (.cons (Alike.sl (len_ext' rshifted2 0 b.length c8) (get_ext (cU .u16) 0 rshifted2 0 b.length)) .nil)))) (pc (fL (cU .u16) 0 rdigit.2) (pc (show 0+(b.length - 0)≤rshifted2.length by have:=c8;omega) (pc c10 (pc (ltOf c10) (pc (len_set0 q ((j).toNat) rdigit.1) (pc (show u.length=rdigit.2.length from (Eq.symm c9)) (pc (len_set0 q ((j).toNat) rdigit.1) (pc (get_set0 (cU .u16) 0 q ((j).toNat) rdigit.1) pn)))))))))))) <| rnZ hE 1 qzd130 qzd131 291 <| rnV hE 1 qzd130 qzd131 3 (ih _ _ _ _ h E hE)
  ·obtain ⟨c11,h⟩:=ifSome h
   refine rnP hE 2 (kp [4] ++ [(5,.osl ((List.replicate (b.length - 0) 0:List Int).length))] ++ kp [8,9,11]) (kq [0,1] ++ [(51,arW 51 (cU .u16) 0 (List.replicate (b.length - 0) 0:List Int))]) 83 (pc c11.1 (pc (Int.le_refl (qzd159 b)) (pc c11.2.1 (pc c11.2.2 (pc (lR (b.length - 0) (0:Int)) (pc (lR (b.length - 0) (0:Int)) (pc (get_rep (cU .u16) 0 0 (b.length - 0)) pn))))))) <| rnZ hE 2 qzd129 (kq [0,1,51]) 115 <| rnV hE 2 qzd129 (kq [0] ++ [(1,.keep 51),(2,.keep 1)]) 3 (g_e_divide_L2_ok N _ _ _ _ N _ _ _ h E hE)
theorem g_e_divide_ok (N:Nat) (a:List Int) (b:List Int) (r:(List Int)×(List Int)) (h:g_e_divide N a b=some r):Sound Tryd.prog 48 [(qzd82 a),(qzd82 b)] [] 0 (qzd46 r) []:=by
 unfold g_e_divide at h
 refine sO Tryd.f48 109 fun E hE=>?_
 refine rnZ hE 1 (kp [0,1]) [] 32 ?_
 obtain ⟨rcompare,hr,h⟩:=bindSome h
 refine rnH hE 2 [(2,⟨[],true,(aI rcompare),[],0,false,none⟩)] (kp [0,1,17]) [] 96 (pc (g_e_compare_ok _ _ _ _ hr) pn) <| Runs.nC 0 17 h (fun hq2 h=>?_) (fun hq2 h=>?_)
 ·obtain ⟨rClone,hr2,h⟩:=bindSome h
  refine rnH hE 1 [(1,⟨[],true,(qzd83 rClone),[],0,false,none⟩)] (kp [4,5]) [] 160 (pc (g_slices_Clone_uint16_uint16_ok _ _ _ hr2) pn) ?_
  cases h
  exact Runs.nT hE 0 Tryd.f48 [] ([(4,slW (cU .u16) 0 ([]:List Int))] ++ kp [5]) [] 160 (pc (Eq.refl 0) pn) [] pn
 ·refine rnZ hE 3 (kp [0,1,22]) [] 144 <| Runs.nC 0 22 h (fun hq3 h=>?_) (fun hq3 h=>?_)
  ·obtain ⟨c,h⟩:=ifSome h
   obtain ⟨rshort,hr3,h⟩:=bindSome h
   refine rnH hE 1 [(4,⟨[],true,(qzd45 rshort),[],0,false,none⟩)] (kp [6,7]) [] 304 (pc c (pc (g_e_short_ok _ _ _ _ hr3) pn)) ?_
   obtain ⟨rtrim,hr4,h⟩:=bindSome h
   refine rnH hE 1 [(3,⟨[],true,(qzd83 rtrim),[],0,true,none⟩)] (kp [4,5]) [] 400 (pc (show Sound Tryd.prog 26 [(.sl 1 (fun zi=>(fun zi=>([[(.atom (.int .u16 rshort.2))]]:List (List AV)).getD zi []) (addz 0 zi)))] [] 0 (qzd83 rtrim) [] from (Sound.conv (g_e_trim_ok _ _ _ hr4) (.cons (Alike.sl rfl (get_chunk (cU .u16) 0 ([rshort.2]:List Int))) .nil))) (pc (z1 1) pn)) ?_
   cases h
   exact rnU hE 0 Tryd.f48 (kp [4,5]) [] 400
  ·obtain ⟨c2,h⟩:=ifSome h
   obtain ⟨rLeadingZeros,hr5,h⟩:=bindSome h
   refine rnH hE 2 [(6,⟨[],true,(aI rLeadingZeros),[],0,false,none⟩)] (kp [0,1,8]) [] 272 (pc c2 (pc (g_math_bits_LeadingZeros16_ok _ _ _ hr5) pn)) ?_
   obtain ⟨rshifted,hr6,h⟩:=bindSome h
   obtain ⟨rshifted2,hr7,h⟩:=bindSome h
   obtain ⟨c3,h⟩:=ifSome h
   refine rnH hE 1 [(2,⟨[],true,(.os 0 0 rshifted.length),[(0,aO 1 (cU .u16) 0 rshifted)],0,false,none⟩),(5,⟨[],true,(.os 0 0 rshifted2.length),[(0,aO 1 (cU .u16) 0 rshifted2)],0,false,none⟩)] (kp [8,9,10]) (kq [304,352]) 448 (pc (g_e_shifted_ok _ _ _ _ hr6) (pc (g_e_shifted_ok _ _ _ _ hr7) (pc c3 (pc (show 0≤(qzd140 b) from (Int.natCast_nonneg _)) pn)))) <| rnZ hE 1 (kp [8,9,10,11]) (kq [304,352]) 496 ?_
   obtain ⟨c4,h⟩:=ifSome h
   refine rnP hE 1 ([(4,.osl ((qzd66 rshifted b).length))] ++ kp [8,9,10,11]) (kq [304,352] ++ [(560,arW 560 (cU .u16) 0 (qzd66 rshifted b))]) 592 (pc c4.1 (pc (Int.le_refl (qzd154 rshifted b)) (pc c4.2.1 (pc c4.2.2 (pc (lR (qzd26 rshifted b) (0:Int)) (pc (lR (qzd26 rshifted b) (0:Int)) (pc (get_rep (cU .u16) 0 0 (qzd26 rshifted b)) pn))))))) <| rnZ hE 2 qzd130 (kq [304,352,560]) 688 <| rnV hE 2 qzd130 [(0,.keep 560),(1,.keep 304),(2,.keep 352)] 3 (g_e_divide_L1_ok N _ _ _ N _ _ _ _ h E hE)
noncomputable abbrev C_15:=bt Tryd.f32
def g_e_plus_J1_H (N:Nat) (K:(List Int)→(List Int)→Option qzd18):Prop:=∀ (a2:List Int) (b2:List Int) (r:(List Int)),K a2 b2=some r→∀ E,EnvOk E 0→Runs Tryd.prog E 32 56 (SPost E [] (qzd83 r)) [.code (C_15 14),.code (C_15 15)] ⟨[(0,(qzd82 a2)),(1,(qzd82 b2))],[],0⟩
def g_e_plus_L2_H (N:Nat) (a2:List Int) (b2:List Int) (K:(List Int)→Int→Int→Option qzd18):Prop:=∀ (out:List Int) (carry:Int) (x:Int) (r:(List Int)),K out carry x=some r→∀ E,EnvOk E 0→Runs Tryd.prog E 32 56 (SPost E [] (qzd83 r)) [.code (C_15 500),.inLoop (C_15 500),.inBlock 0,.code (C_15 63)] ⟨[(1,(qzd82 b2)),(5,(qzd36 out)),(6,(qzd34 carry)),(20,(qzd82 a2)),(21,(qzd77 a2)),(22,(aI x))],[(0,aO 1 (cU .u16) 0 out)],1⟩
def g_e_plus_J3_H (N:Nat) (a2:List Int) (b2:List Int) (out:List Int) (x:Int) (K:Int→Option qzd18):Prop:=∀ (carry2:Int) (r:(List Int)),K carry2=some r→∀ E,EnvOk E 0→Runs Tryd.prog E 32 56 (SPost E [] (qzd83 r)) [.code (C_15 128206),.code (C_15 128207),.inBlock 1,.code (C_15 4007),.inLoop (C_15 500),.inBlock 0,.code (C_15 63)] ⟨[(1,(qzd82 b2)),(5,(qzd36 out)),(6,(qzd34 carry2)),(20,(qzd82 a2)),(21,(qzd77 a2)),(22,(aI x))],[(0,aO 1 (cU .u16) 0 out)],1⟩
theorem g_e_plus_J3_ok (N:Nat) (a2:List Int) (b2:List Int) (out:List Int) (x:Int) (K_g_e_plus_L2:(List Int)→Int→Int→Option qzd18) (hK_g_e_plus_L2:g_e_plus_L2_H N a2 b2 K_g_e_plus_L2):g_e_plus_J3_H N a2 b2 out x (g_e_plus_J3 N a2 b2 out x K_g_e_plus_L2):=by
 intro carry2 r h E hE
 unfold g_e_plus_J3 at h
 obtain ⟨c4,h⟩:=ifSome h
 refine rnP hE 0 (kp [1] ++ [(5,.osl ((qzd7 out carry2).length))] ++ kp [6,20,21,22]) [(65,arW 65 (cU .u16) 0 (qzd7 out carry2))] 97 (pc (Eq.refl out.length) (pc c4 (pc (z1 1) (pc (oN [[(qzd33 carry2)]]) (pc (len_app0 out (qzd71 carry2)) (pc (len_app0 out (qzd71 carry2)) (pc (gA1 (cU .u16) 0 out (qzd71 carry2)) pn))))))) <| rnP hE 0 qzd118 (kq [65]) 145 (pc (show (0:Int)≤16 by decide) pn) <| rnZ hE 1 qzd118 (kq [65]) 177 <| rnV hE 1 qzd118 [(0,.keep 65)] 1 (hK_g_e_plus_L2 _ _ _ _ h E hE)
theorem g_e_plus_L2_ok (N:Nat) (a2:List Int) (b2:List Int) (fuel:Nat):g_e_plus_L2_H N a2 b2 (g_e_plus_L2 N a2 b2 fuel):=by
 induction fuel with
 | zero=>intro _ _ _ r h;rw [g_e_plus_L2.eq_1] at h;cases h
 | succ fuel ih =>
  intro out carry x r h E hE
  rw [g_e_plus_L2.eq_2] at h
  refine rnZ hE 1 (kp [1,5,6,20,21,22,23]) (kq [0]) 17 <| Runs.nC 1 23 h (fun hq3 h=>?_) (fun hq3 h=>?_)
  ·obtain ⟨c2,h⟩:=ifSome h
   refine rnP hE 4 (kp [1,5,6,7,8,20,21,22]) (kq [0]) 97 (pc c2 pn) <| rnZ hE 1 (kp [1,5,6,7,20,21,22]) (kq [0]) 177 <| rnZ hE 2 (kp [1,5,6,7,20,21,22,34]) (kq [0]) 241 <| Runs.nC 0 34 h (fun hq4 h=>?_) (fun hq4 h=>?_)
   ·obtain ⟨c3,h⟩:=ifSome h
    refine rnP hE 0 qzd118 (kq [0]) 369 (pc c3 pn) <| rnV hE 1 qzd118 (kq [0]) 1 (g_e_plus_J3_ok N _ _ _ _ _ ih _ _ h E hE)
   ·exact rnV hE 2 qzd118 (kq [0]) 1 (g_e_plus_J3_ok N _ _ _ _ _ ih _ _ h E hE)
  ·obtain ⟨c5,h⟩:=ifSome h
   obtain ⟨rtrim,hr,h⟩:=bindSome h
   refine rnH hE 2 [(5,⟨[],true,(qzd83 rtrim),[],0,true,none⟩)] (kp [4]) [] 129 (pc (Eq.refl out.length) (pc c5 (pc (z1 1) (pc (oN [[(qzd33 carry)]]) (pc (show Sound Tryd.prog 26 [(.sl (out.length+1) (fun zi=>((fun zm=>if zm < out.length then (fun zi=>(cU .u16) (out.getD zi 0)) zm else (fun zi=>([[(qzd33 carry)]]:List (List AV)).getD zi []) (zm - out.length))) (addz 0 zi)))] [] 0 (qzd83 rtrim) [] from (Sound.conv (g_e_trim_ok _ _ _ hr) (.cons (Alike.sl (len_app_raw rfl rfl) (gA1 (cU .u16) 0 out (qzd71 carry))) .nil))) (pc (z1 (out.length+1)) pn)))))) ?_
   obtain rfl:=Option.some.inj h
   exact rnU hE 0 Tryd.f32 (kp [4]) [] 129
theorem g_e_plus_J1_ok (N:Nat):g_e_plus_J1_H N (g_e_plus_J1 N):=by
 intro a2 b2 r h E hE
 unfold g_e_plus_J1 at h
 obtain ⟨c,h⟩:=ifSome h
 refine rnP hE 0 (kp [0,1] ++ [(5,.osl ((List.replicate 0 0:List Int).length))]) [(48,arW 48 (cU .u16) 0 (List.replicate 0 0:List Int))] 80 (pc c.1 (pc c.2.2.2 (pc c.2.1 (pc c.2.2.1 (pc (lR 0 (0:Int)) (pc (lR 0 (0:Int)) (pc (get_rep (cU .u16) 0 0 0) pn))))))) <| rnZ hE 1 qzd91 (kq [48]) 96 <| rnZ hE 2 qzd118 (kq [48]) 144 <| rnV hE 2 qzd118 [(0,.keep 48)] 1 (g_e_plus_L2_ok N _ _ N _ _ _ _ h E hE)
theorem g_e_plus_ok (N:Nat) (a:List Int) (b:List Int) (r:(List Int)) (h:g_e_plus N a b=some r):Sound Tryd.prog 32 [(qzd82 a),(qzd82 b)] [] 0 (qzd83 r) []:=by
 unfold g_e_plus at h
 refine sO Tryd.f32 56 fun E hE=>?_
 refine rnZ hE 1 (kp [0,1]) [] 16 <| rnZ hE 2 (kp [0,1,13]) [] 96 <| Runs.nC 0 13 h (fun hq2 h=>?_) (fun hq2 h=>?_)
 ·refine rnZ hE 0 (kp [0,1]) [] 160 <| rnV hE 1 (kp [0,1]) [] 0 (g_e_plus_J1_ok N _ _ _ h E hE)
 ·exact rnV hE 2 (kp [0,1]) [] 0 (g_e_plus_J1_ok N _ _ _ h E hE)
noncomputable abbrev C_16:=bt Tryd.f49
def g_e_minus_L1_H (N:Nat) (a:List Int) (b:List Int) (K:(List Int)→Int→Int→Option qzd18):Prop:=∀ (out:List Int) (borrow:Int) (x:Int) (r:(List Int)),K out borrow x=some r→∀ E,EnvOk E 0→Runs Tryd.prog E 49 50 (SPost E [] (qzd83 r)) [.code (C_16 244),.inLoop (C_16 244),.inBlock 0,.code (C_16 31)] ⟨[(1,(qzd82 b)),(5,(qzd36 out)),(6,(qzd34 borrow)),(13,(qzd82 a)),(qzd51 a),(15,(aI x))],[(0,aO 1 (cU .u16) 0 out)],1⟩
def g_e_minus_J2_H (N:Nat) (a:List Int) (b:List Int) (out:List Int) (x:Int) (K:Int→Option qzd18):Prop:=∀ (y:Int) (r:(List Int)),K y=some r→∀ E,EnvOk E 0→Runs Tryd.prog E 49 50 (SPost E [] (qzd83 r)) [.code (C_16 62670),.code (C_16 62671),.inBlock 1,.code (C_16 1959),.inLoop (C_16 244),.inBlock 0,.code (C_16 31)] ⟨[(1,(qzd82 b)),(5,(qzd36 out)),(7,(aI x)),(8,(.atom (.int .u16 (qzd157 a x)))),(9,(qzd34 y)),(13,(qzd82 a)),(qzd51 a),(15,(aI x))],[(0,aO 1 (cU .u16) 0 out)],1⟩
def g_e_minus_J3_H (N:Nat) (a:List Int) (b:List Int) (out:List Int) (x:Int) (y:Int) (K:Int→Option qzd18):Prop:=∀ (borrow2:Int) (r:(List Int)),K borrow2=some r→∀ E,EnvOk E 0→Runs Tryd.prog E 49 50 (SPost E [] (qzd83 r)) [.code (C_16 125343),.inBlock 1,.code (C_16 1959),.inLoop (C_16 244),.inBlock 0,.code (C_16 31)] ⟨[(1,(qzd82 b)),(5,(qzd36 out)),(6,(qzd34 borrow2)),(7,(aI x)),(8,(.atom (.int .u16 (qzd157 a x)))),(9,(qzd34 y)),(13,(qzd82 a)),(qzd51 a),(15,(aI x))],[(0,aO 1 (cU .u16) 0 out)],1⟩
theorem g_e_minus_J3_ok (N:Nat) (a:List Int) (b:List Int) (out:List Int) (x:Int) (y:Int) (K_g_e_minus_L1:(List Int)→Int→Int→Option qzd18) (hK_g_e_minus_L1:g_e_minus_L1_H N a b K_g_e_minus_L1):g_e_minus_J3_H N a b out x y (g_e_minus_J3 N a b out x y K_g_e_minus_L1):=by
 intro borrow2 r h E hE
 unfold g_e_minus_J3 at h
 obtain ⟨c4,h⟩:=ifSome h
 refine rnP hE 0 (kp [1] ++ [(5,.osl ((qzd8 out x a borrow2 y).length))] ++ kp [6,13,14,15]) [(0,arW 0 (cU .u16) 0 (qzd8 out x a borrow2 y))] 193 (pc (show (0:Int)≤16 by decide) (pc c4 (pc (ltOf c4) (pc (len_set0 out ((x).toNat) (qzd58 a x borrow2 y)) (pc (len_set0 out ((x).toNat) (qzd58 a x borrow2 y)) (pc (get_set0 (cU .u16) 0 out ((x).toNat) (qzd58 a x borrow2 y)) pn)))))) <| rnZ hE 1 qzd117 (kq [0]) 225 <| rnV hE 1 qzd117 (kq [0]) 1 (hK_g_e_minus_L1 _ _ _ _ h E hE)
theorem g_e_minus_J2_ok (N:Nat) (a:List Int) (b:List Int) (out:List Int) (x:Int) (K_g_e_minus_L1:(List Int)→Int→Int→Option qzd18) (hK_g_e_minus_L1:g_e_minus_L1_H N a b K_g_e_minus_L1):g_e_minus_J2_H N a b out x (g_e_minus_J2 N a b out x K_g_e_minus_L1):=by
 intro y r h E hE
 unfold g_e_minus_J2 at h
 refine rnZ hE 0 qzd120 (kq [0]) 17 <| rnZ hE 2 (kp [1,5,6,7,8,9,13,14,15,35]) (kq [0]) 81 <| Runs.nC 0 35 h (fun hq4 h=>?_) (fun hq4 h=>?_)
 ·refine rnZ hE 0 qzd120 (kq [0]) 97 <| rnV hE 0 qzd120 (kq [0]) 1 (g_e_minus_J3_ok N _ _ _ _ _ _ hK_g_e_minus_L1 _ _ h E hE)
 ·exact rnV hE 1 qzd120 (kq [0]) 1 (g_e_minus_J3_ok N _ _ _ _ _ _ hK_g_e_minus_L1 _ _ h E hE)
theorem g_e_minus_L1_ok (N:Nat) (a:List Int) (b:List Int) (fuel:Nat):g_e_minus_L1_H N a b (g_e_minus_L1 N a b fuel):=by
 induction fuel with
 | zero=>intro _ _ _ r h;rw [g_e_minus_L1.eq_1] at h;cases h
 | succ fuel ih =>
  intro out borrow x r h E hE
  rw [g_e_minus_L1.eq_2] at h
  refine rnZ hE 1 (kp [1,5,6,13,14,15,16]) (kq [0]) 17 <| Runs.nC 1 16 h (fun hq2 h=>?_) (fun hq2 h=>?_)
  ·obtain ⟨c2,h⟩:=ifSome h
   refine rnP hE 4 (kp [1,5,6,7,8,13,14,15]) (kq [0]) 97 (pc c2 pn) <| rnZ hE 1 qzd121 (kq [0]) 129 <| rnZ hE 2 (kp [1,5,7,8,9,13,14,15,24]) (kq [0]) 193 <| Runs.nC 0 24 h (fun hq3 h=>?_) (fun hq3 h=>?_)
   ·obtain ⟨c3,h⟩:=ifSome h
    refine rnP hE 0 qzd121 (kq [0]) 321 (pc c3 pn) <| rnV hE 1 qzd121 (kq [0]) 1 (g_e_minus_J2_ok N _ _ _ _ _ ih _ _ h E hE)
   ·exact rnV hE 2 qzd121 (kq [0]) 1 (g_e_minus_J2_ok N _ _ _ _ _ ih _ _ h E hE)
  ·obtain ⟨rtrim,hr,h⟩:=bindSome h
   refine rnH hE 2 [(1,⟨[],true,(qzd83 rtrim),[],0,true,none⟩)] (kp [4]) [] 65 (pc (g_e_trim_ok _ _ _ hr) (pc (z1 out.length) pn)) ?_
   obtain rfl:=Option.some.inj h
   exact rnU hE 0 Tryd.f49 (kp [4]) [] 65
theorem g_e_minus_ok (N:Nat) (a:List Int) (b:List Int) (r:(List Int)) (h:g_e_minus N a b=some r):Sound Tryd.prog 49 [(qzd82 a),(qzd82 b)] [] 0 (qzd83 r) []:=by
 unfold g_e_minus at h
 refine sO Tryd.f49 50 fun E hE=>?_
 refine rnZ hE 1 (kp [0,1]) [] 16 ?_
 obtain ⟨c,h⟩:=ifSome h
 refine rnP hE 1 (kp [0,1] ++ [(5,.osl (qzd19 a))]) [(48,arW 48 (cU .u16) 0 (qzd146 a))] 80 (pc c.1 (pc (Int.le_refl (qzd140 a)) (pc c.2.1 (pc c.2.2 (pc (lR a.length (0:Int)) (pc (lR a.length (0:Int)) (pc (get_rep (cU .u16) 0 0 a.length) pn))))))) <| rnZ hE 1 qzd91 (kq [48]) 96 <| rnZ hE 2 qzd117 (kq [48]) 144 <| rnV hE 2 qzd117 [(0,.keep 48)] 1 (g_e_minus_L1_ok N _ _ N _ _ _ _ h E hE)
theorem g_e_signed_ok (N:Nat) (neg:Bool) (n:List Int) (r:TInt) (h:g_e_signed N neg n=some r):Sound Tryd.prog 34 [(aB neg),(qzd82 n)] [] 0 (qzd30 r) []:=by
 unfold g_e_signed at h
 refine sO Tryd.f34 15 fun E hE=>?_
 refine rnZ hE 1 qzd88 (kq [0]) 16 ?_
 obtain ⟨rtrim,hr,h⟩:=bindSome h
 refine rnH hE 1 [(1,⟨[],true,(qzd83 rtrim),[],0,false,none⟩)] qzd88 (kq [0]) 64 (pc (g_e_trim_ok _ _ _ hr) pn) <| rnZ hE 2 (kp [0,1,4,9]) (kq [0]) 112 <| Runs.nC 0 9 h (fun hq2 h=>?_) (fun hq2 h=>?_)
 ·refine rnP hE 1 (kp [4]) (kq [0]) 144 (pc o1 pn) ?_
  cases h
  exact Runs.nT hE 0 Tryd.f34 [] (kp [4]) [(16,.var 0 [.keep,slW (cU .u16) 0 ([]:List Int)])] 144 (pc (Eq.refl 0) pn) [16] (pc o1 pn)
 ·obtain ⟨rClone,hr2,h⟩:=bindSome h
  refine rnH hE 2 [(2,⟨[],true,(qzd83 rClone),[],0,false,none⟩)] (kp [4]) (kq [0]) 192 (pc (g_slices_Clone_uint16_uint16_ok _ _ _ hr2) (pc o1 pn)) ?_
  cases h
  exact Runs.nT hE 0 Tryd.f34 [] (kp [4]) [(16,.keep 0)] 192 pn [16] (pc o1 pn)
noncomputable abbrev C_5:=bt Tryd.f18
def g_e_DivMod_J1_H (N:Nat) (a:TInt) (b:TInt) (K:(List Int)→(List Int)→Option (TInt×TInt×Int)):Prop:=∀ (n:List Int) (rest:List Int) (r:TInt×TInt×Int),K n rest=some r→∀ E,EnvOk E 0→Runs Tryd.prog E 18 50 (SPost E [] (qzd39 r)) [.code (C_5 126),.code (C_5 127)] ⟨[(2,(.op 0 0 0)),(3,(.op 1 0 0)),(4,(.op 2 0 0)),(5,(.op 3 0 0)),(9,(qzd82 n)),(10,(qzd82 rest))],[(qzd49 a),(1,vO 2 (TInt.cells b)),(2,vO 2 [(aB false),.nil]),(3,vO 2 [(aB false),.nil])],4⟩
theorem g_e_DivMod_J1_ok (N:Nat) (a:TInt) (b:TInt):g_e_DivMod_J1_H N a b (g_e_DivMod_J1 N a b):=by
 intro n rest r h E hE
 unfold g_e_DivMod_J1 at h
 obtain ⟨rsigned,hr6,h⟩:=bindSome h
 obtain ⟨rsigned2,hr7,h⟩:=bindSome h
 refine rnH hE 0 [(6,⟨[],true,(qzd30 rsigned),[],0,false,none⟩),(8,⟨[],true,(qzd30 rsigned2),[],0,false,none⟩)] qzd128 (kq [2,3]) 196 (pc o1 (pc o1 (pc (g_e_signed_ok _ _ _ _ hr6) (pc (g_e_signed_ok _ _ _ _ hr7) (pc o1 (pc o1 pn)))))) ?_
 cases h
 exact Runs.nT hE 0 Tryd.f18 [] qzd128 [(16,.keep 2),(17,.keep 3)] 196 pn [16,17] (pc o1 (pc o1 pn))
theorem g_e_DivMod_ok (N:Nat) (a:TInt) (b:TInt) (r:TInt×TInt×Int) (h:g_e_DivMod N a b=some r):Sound Tryd.prog 18 [(qzd30 a),(qzd30 b)] [] 0 (qzd39 r) []:=by
 unfold g_e_DivMod at h
 refine sO Tryd.f18 50 fun E hE=>?_
 refine rnZ hE 1 (kp [2,3,4,5]) qzd132 80 ?_
 obtain ⟨rtrim,hr,h⟩:=bindSome h
 obtain ⟨rtrim2,hr2,h⟩:=bindSome h
 refine rnH hE 1 [(2,⟨[],true,(qzd83 rtrim),[],0,false,none⟩),(5,⟨[],true,(qzd83 rtrim2),[],0,false,none⟩)] (kp [2,3,4,5,7,8]) qzd132 208 (pc o1 (pc (g_e_trim_ok _ _ _ hr) (pc o1 (pc (g_e_trim_ok _ _ _ hr2) pn)))) <| rnZ hE 2 (kp [2,3,4,5,7,8,19]) qzd132 256 <| Runs.nC 0 19 h (fun hq2 h=>?_) (fun hq2 h=>?_)
 ·refine rnP hE 1 qzd128 (kq [32,48]) 336 (pc o1 (pc o1 pn)) ?_
  cases h
  exact Runs.nT hE 0 Tryd.f18 [] qzd128 [(16,.var 32 [.keep,slW (cU .u16) 0 ([]:List Int)]),(17,.var 48 [.keep,slW (cU .u16) 0 ([]:List Int)])] 336 (pc (Eq.refl 0) (pc (Eq.refl 0) pn)) [16,17] (pc o1 (pc o1 pn))
 ·obtain ⟨rdivide,hr3,h⟩:=bindSome h
  refine rnH hE 2 [(2,⟨[],true,(qzd46 rdivide),[],0,false,none⟩)] (kp [2,3,4,5,8,9,10]) qzd132 384 (pc (g_e_divide_ok _ _ _ _ hr3) pn) <| rnP hE 2 (kp [2,3,4,5,8,9,10,34]) qzd132 496 (pc o1 (pc (fun hg:a.f_Neg=true=>(pc hg pn)) (pc (fun hg:a.f_Neg=true=>(pc hg pn)) (pc (fun hq:a.f_Neg=true=>(pc hq pn)) pn)))) <| Runs.nC 0 34 h (fun hq3 h=>?_) (fun hq3 h=>?_)
  ·obtain ⟨rplus,hr4,h⟩:=bindSome h
   obtain ⟨rminus,hr5,h⟩:=bindSome h
   refine rnH hE 0 [(2,⟨[],true,(qzd83 rplus),[],0,true,none⟩),(5,⟨[],true,(qzd83 rminus),[],0,false,none⟩)] qzd124 qzd132 624 (pc (show Sound Tryd.prog 32 [(encL (cU .u16) 0 rdivide.1),(.sl 1 (fun zi=>(fun zi=>([[(.atom (.int .u16 1))]]:List (List AV)).getD zi []) (addz 0 zi)))] [] 0 (qzd83 rplus) [] from (Sound.conv (g_e_plus_ok _ _ _ _ hr4) (.cons (Alike.refl _) (.cons (Alike.sl rfl (get_chunk (cU .u16) 0 ([1]:List Int))) .nil)))) (pc (z1 1) (pc (g_e_minus_ok _ _ _ _ hr5) pn))) <| rnV hE 1 qzd124 qzd135 4 (g_e_DivMod_J1_ok N _ _ _ _ _ h E hE)
  ·exact rnV hE 2 qzd124 qzd135 4 (g_e_DivMod_J1_ok N _ _ _ _ _ h E hE)
noncomputable abbrev C_20:=bt Tryd.f74
def g_e_natural_L1_H (N:Nat) (K:Int→(List Int)→Option qzd18):Prop:=∀ (n2:Int) (out:List Int) (r:(List Int)),K n2 out=some r→∀ E,EnvOk E 0→Runs Tryd.prog E 74 14 (SPost E [] (qzd83 r)) [.code (C_20 56),.inLoop (C_20 56),.inBlock 0,.code (C_20 15)] ⟨[(0,(qzd35 n2)),(3,(qzd36 out))],[(0,aO 1 (cU .u16) 0 out)],1⟩
theorem g_e_natural_L1_ok (N:Nat) (fuel:Nat):g_e_natural_L1_H N (g_e_natural_L1 N fuel):=by
 induction fuel with
 | zero=>intro _ _ r h;rw [g_e_natural_L1.eq_1] at h;cases h
 | succ fuel ih =>
  intro n2 out r h E hE
  rw [g_e_natural_L1.eq_2] at h
  refine rnZ hE 2 (kp [0,3,5]) (kq [0]) 33 <| Runs.nC 0 5 h (fun hq2 h=>?_) (fun hq2 h=>?_)
  ·obtain ⟨c,h⟩:=ifSome h
   refine rnP hE 3 (kp [0] ++ [(3,.osl ((qzd7 out n2).length))]) [(97,arW 97 (cU .u16) 0 (qzd7 out n2))] 129 (pc (Eq.refl out.length) (pc c (pc (z1 1) (pc (oN [[(qzd33 n2)]]) (pc (len_app0 out (qzd71 n2)) (pc (len_app0 out (qzd71 n2)) (pc (gA1 (cU .u16) 0 out (qzd71 n2)) pn))))))) <| rnP hE 1 (kp [0,3]) (kq [97]) 177 (pc (show (0:Int)≤16 by decide) pn) <| rnV hE 1 (kp [0,3]) [(0,.keep 97)] 1 (ih _ _ _ h E hE)
  ·refine rnZ hE 2 (kp [2]) (kq [0]) 65 ?_
   obtain rfl:=Option.some.inj h
   exact Runs.nT hE 0 Tryd.f74 [0] [(2,slW (cU .u16) 0 out)] [] 65 (pc (Eq.refl out.length) (pc (z1 out.length) (pc (eZ (cU .u16) 0 out) pn))) [] pn
theorem g_e_natural_ok (N:Nat) (n:Int) (r:(List Int)) (h:g_e_natural N n=some r):Sound Tryd.prog 74 [(qzd35 n)] [] 0 (qzd83 r) []:=by
 unfold g_e_natural at h
 refine sO Tryd.f74 14 fun E hE=>?_
 refine rnZ hE 1 (kp [0]) [] 16 <| rnZ hE 1 (kp [0,3]) [] 32 <| rnV hE 3 (kp [0] ++ [(3,.nilos 0)]) [(0,.nil 1 (fun zi=>(cU .u16) (([]:List Int).getD zi 0)))] 1 (g_e_natural_L1_ok N N _ _ _ h E hE)
theorem g_e_Of_ok (N:Nat) (n:Int) (r:TInt) (h:g_e_Of N n=some r):Sound Tryd.prog 51 [(aI n)] [] 0 (qzd30 r) []:=by
 unfold g_e_Of at h
 refine sO Tryd.f51 14 fun E hE=>?_
 refine rnZ hE 1 (kp [0,2]) (kq [0]) 16 <| rnZ hE 2 qzd105 (kq [0]) 48 <| Runs.nC 0 4 h (fun hq2 h=>?_) (fun hq2 h=>?_)
 ·obtain ⟨rnatural,hr,h⟩:=bindSome h
  obtain ⟨rsigned,hr2,h⟩:=bindSome h
  refine rnH hE 1 [(3,⟨[],true,(qzd83 rnatural),[],0,false,none⟩),(4,⟨[],true,(qzd30 rsigned),[],0,false,none⟩)] (kp [2]) (kq [0]) 144 (pc (g_e_natural_ok _ _ _ hr) (pc (g_e_signed_ok _ _ _ _ hr2) (pc o1 pn))) ?_
  obtain rfl:=Option.some.inj h
  exact Runs.nT hE 0 Tryd.f51 [] (kp [2]) [(16,.keep 0)] 144 pn [16] (pc o1 pn)
 ·obtain ⟨rnatural2,hr3,h⟩:=bindSome h
  obtain ⟨rsigned2,hr4,h⟩:=bindSome h
  refine rnH hE 2 [(2,⟨[],true,(qzd83 rnatural2),[],0,false,none⟩),(3,⟨[],true,(qzd30 rsigned2),[],0,false,none⟩)] (kp [2]) (kq [0]) 128 (pc (g_e_natural_ok _ _ _ hr3) (pc (g_e_signed_ok _ _ _ _ hr4) (pc o1 pn))) ?_
  obtain rfl:=Option.some.inj h
  exact Runs.nT hE 0 Tryd.f51 [] (kp [2]) [(16,.keep 0)] 128 pn [16] (pc o1 pn)
noncomputable abbrev C_23:=bt Tryd.f87
def g_e_word_L1_H (N:Nat) (n:List Int) (K:Int→Int→Option (Int×Bool)):Prop:=∀ (out:Int) (i:Int) (r:Int×Bool),K out i=some r→∀ E,EnvOk E 0→Runs Tryd.prog E 87 25 (SPost E [] (qzd42 r)) [.code (C_23 244),.inLoop (C_23 244),.inBlock 0,.code (C_23 31)] ⟨[(0,(qzd82 n)),(4,(qzd35 out)),(5,(aI i))],[],0⟩
theorem g_e_word_L1_ok (N:Nat) (n:List Int) (fuel:Nat):g_e_word_L1_H N n (g_e_word_L1 N n fuel):=by
 induction fuel with
 | zero=>intro _ _ r h;rw [g_e_word_L1.eq_1] at h;cases h
 | succ fuel ih =>
  intro out i r h E hE
  rw [g_e_word_L1.eq_2] at h
  refine rnZ hE 2 (kp [0,4,5,13]) [] 32 <| Runs.nC 0 13 h (fun hq3 h=>?_) (fun hq3 h=>?_)
  ·obtain ⟨c,h⟩:=ifSome h
   refine rnP hE 3 qzd109 [] 176 (pc (show (0:Int)≤16 by decide) (pc c pn)) <| rnZ hE 1 qzd109 [] 224 <| rnV hE 1 qzd109 [] 0 (ih _ _ _ h E hE)
  ·refine rnZ hE 2 (kp [2,3]) [] 80 ?_
   cases h
   exact rnU hE 0 Tryd.f87 (kp [2,3]) [] 80
theorem g_e_word_ok (N:Nat) (n:List Int) (r:Int×Bool) (h:g_e_word N n=some r):Sound Tryd.prog 87 [(qzd82 n)] [] 0 (qzd42 r) []:=by
 unfold g_e_word at h
 refine sO Tryd.f87 25 fun E hE=>?_
 refine rnZ hE 1 (kp [0]) [] 32 <| rnZ hE 2 (kp [0,8]) [] 80 <| Runs.nC 0 8 h (fun hq2 h=>?_) (fun hq2 h=>?_)
 ·refine rnZ hE 1 (kp [2,3]) [] 112 ?_
  cases h
  exact rnU hE 0 Tryd.f87 (kp [2,3]) [] 112
 ·refine rnZ hE 2 (kp [0,4]) [] 96 <| rnZ hE 2 qzd109 [] 160 <| rnV hE 2 qzd109 [] 0 (g_e_word_L1_ok N _ N _ _ _ h E hE)
noncomputable abbrev C_22:=bt Tryd.f65
def g_e_common_L1_H (N:Nat) (K:(List Int)→(List Int)→Option qzd18):Prop:=∀ (a2:List Int) (b2:List Int) (r:(List Int)),K a2 b2=some r→∀ E,EnvOk E 0→Runs Tryd.prog E 65 45 (SPost E [] (qzd83 r)) [.code (C_22 24),.inLoop (C_22 24),.inBlock 0,.code (C_22 7)] ⟨[(0,(qzd82 a2)),(1,(qzd82 b2))],[],0⟩
def g_e_common_L2_H (N:Nat) (K:Int→Int→Option qzd18):Prop:=∀ (x:Int) (y:Int) (r:(List Int)),K x y=some r→∀ E,EnvOk E 0→Runs Tryd.prog E 65 45 (SPost E [] (qzd83 r)) [.code (C_22 25296),.inLoop (C_22 25296),.inBlock 2,.code (C_22 6325),.code (C_22 791),.inBlock 1,.inLoop (C_22 24),.inBlock 0,.code (C_22 7)] ⟨[(5,(qzd35 x)),(7,(qzd35 y))],[],0⟩
theorem g_e_common_L2_ok (N:Nat) (K_g_e_common_L1:(List Int)→(List Int)→Option qzd18) (hK_g_e_common_L1:g_e_common_L1_H N K_g_e_common_L1) (fuel:Nat):g_e_common_L2_H N (g_e_common_L2 N K_g_e_common_L1 fuel):=by
 induction fuel with
 | zero=>intro _ _ r h;rw [g_e_common_L2.eq_1] at h;cases h
 | succ fuel ih =>
  intro x y r h E hE
  rw [g_e_common_L2.eq_2] at h
  refine rnZ hE 2 (kp [5,7,29]) [] 32 <| Runs.nC 0 29 h (fun hq4 h=>?_) (fun hq4 h=>?_)
  ·obtain ⟨c,h⟩:=ifSome h
   refine rnP hE 2 (kp [5,7]) [] 128 (pc c pn) <| rnV hE 2 (kp [5,7]) [] 0 (ih _ _ _ h E hE)
  ·obtain ⟨rnatural,hr3,h⟩:=bindSome h
   refine rnH hE 2 [(1,⟨[],true,(qzd83 rnatural),[],0,false,none⟩)] (kp [4]) [] 80 (pc (g_e_natural_ok _ _ _ hr3) pn) ?_
   obtain rfl:=Option.some.inj h
   exact rnU hE 0 Tryd.f65 (kp [4]) [] 80
theorem g_e_common_L1_ok (N:Nat) (fuel:Nat):g_e_common_L1_H N (g_e_common_L1 N fuel):=by
 induction fuel with
 | zero=>intro _ _ r h;rw [g_e_common_L1.eq_1] at h;cases h
 | succ fuel ih =>
  intro a2 b2 r h E hE
  rw [g_e_common_L1.eq_2] at h
  refine rnZ hE 2 (kp [0,1,13]) [] 48 <| Runs.nC 0 13 h (fun hq2 h=>?_) (fun hq2 h=>?_)
  ·obtain ⟨rword,hr,h⟩:=bindSome h
   refine rnH hE 3 [(1,⟨[],true,(qzd42 rword),[],0,false,none⟩)] qzd91 [] 160 (pc (g_e_word_ok _ _ _ hr) pn) ?_
   obtain ⟨rword2,hr2,h⟩:=bindSome h
   refine rnH hE 1 [(1,⟨[],true,(qzd42 rword2),[],0,false,none⟩)] qzd89 [] 272 (pc (g_e_word_ok _ _ _ hr2) pn) <| rnP hE 2 (kp [0,1,5,7,27]) [] 336 (pc (fun hq:rword.2=true=>(pc hq pn)) pn) <| Runs.nC 0 27 h (fun hq3 h=>?_) (fun hq3 h=>?_)
   ·exact rnV hE 3 (kp [5,7]) [] 0 (g_e_common_L2_ok N _ ih N _ _ _ h E hE)
   ·obtain ⟨rdivide,hr4,h⟩:=bindSome h
    refine rnH hE 2 [(2,⟨[],true,(qzd46 rdivide),[],0,false,none⟩)] (kp [1,10]) [] 464 (pc (g_e_divide_ok _ _ _ _ hr4) pn) <| rnZ hE 0 (kp [0,1]) [] 528 <| rnV hE 2 (kp [0,1]) [] 0 (ih _ _ _ h E hE)
  ·refine rnZ hE 2 (kp [4]) [] 80 ?_
   obtain rfl:=Option.some.inj h
   exact rnU hE 0 Tryd.f65 (kp [4]) [] 80
theorem g_e_common_ok (N:Nat) (a:List Int) (b:List Int) (r:(List Int)) (h:g_e_common N a b=some r):Sound Tryd.prog 65 [(qzd82 a),(qzd82 b)] [] 0 (qzd83 r) []:=by
 unfold g_e_common at h
 refine sO Tryd.f65 45 fun E hE=>?_
 refine rnZ hE 1 (kp [0,1]) [] 16 <| rnV hE 3 (kp [0,1]) [] 0 (g_e_common_L1_ok N N _ _ _ h E hE)
noncomputable abbrev C_21:=bt Tryd.f42
def g_e_fraction_J1_H (N:Nat) (a:TInt) (b:TInt) (K:(List Int)→(List Int)→Option (TRat)):Prop:=∀ (x:List Int) (y:List Int) (r:TRat),K x y=some r→∀ E,EnvOk E 0→Runs Tryd.prog E 42 48 (SPost E [] (qzd31 r)) [.code (C_21 62),.code (C_21 63)] ⟨[(2,(.op 0 0 0)),(3,(.op 1 0 0)),(4,(.op 2 0 0)),(5,(qzd82 x)),(6,(qzd82 y))],[(qzd49 a),(1,vO 2 (TInt.cells b)),(2,vO 4 [(aB false),.nil,(aB false),.nil])],3⟩
theorem g_e_fraction_J1_ok (N:Nat) (a:TInt) (b:TInt):g_e_fraction_J1_H N a b (g_e_fraction_J1 N a b):=by
 intro x y r h E hE
 unfold g_e_fraction_J1 at h
 obtain ⟨rsigned,hr6,h⟩:=bindSome h
 obtain ⟨rsigned2,hr7,h⟩:=bindSome h
 refine rnH hE 0 [(6,⟨[],true,(qzd30 rsigned),[],0,false,none⟩),(8,⟨[],true,(qzd30 rsigned2),[],0,false,none⟩)] (kp [4]) (kq [2]) 179 (pc o1 (pc o1 (pc (g_e_signed_ok _ _ _ _ hr6) (pc (g_e_signed_ok _ _ _ _ hr7) (pc o1 pn))))) ?_
 cases h
 exact Runs.nT hE 0 Tryd.f42 [] (kp [4]) [(16,.keep 2)] 179 pn [16] (pc o1 pn)
theorem g_e_fraction_ok (N:Nat) (a:TInt) (b:TInt) (r:TRat) (h:g_e_fraction N a b=some r):Sound Tryd.prog 42 [(qzd30 a),(qzd30 b)] [] 0 (qzd31 r) []:=by
 unfold g_e_fraction at h
 refine sO Tryd.f42 48 fun E hE=>?_
 refine rnZ hE 1 qzd125 qzd133 48 ?_
 obtain ⟨rtrim,hr,h⟩:=bindSome h
 obtain ⟨rtrim2,hr2,h⟩:=bindSome h
 refine rnH hE 1 [(2,⟨[],true,(qzd83 rtrim),[],0,false,none⟩),(5,⟨[],true,(qzd83 rtrim2),[],0,false,none⟩)] qzd123 qzd133 176 (pc o1 (pc (g_e_trim_ok _ _ _ hr) (pc o1 (pc (g_e_trim_ok _ _ _ hr2) pn)))) ?_
 obtain ⟨rcommon,hr3,h⟩:=bindSome h
 refine rnH hE 1 [(2,⟨[],true,(qzd83 rcommon),[],0,false,none⟩)] qzd122 qzd133 240 (pc (g_e_common_ok _ _ _ _ hr3) pn) ?_
 obtain ⟨c,h⟩:=ifSome h
 refine rnP hE 2 (kp [2,3,4,5,6,7,25]) qzd133 384 (pc (fun hg:(qzd0 rcommon)=true=>(pc hg (pc (c hg) pn))) (pc (fun hg:(qzd0 rcommon)=true=>(pc hg pn)) (pc (fun hg:(qzd0 rcommon)=true=>(pc hg pn)) (pc (fun hq:(qzd0 rcommon)=true=>(pc hq pn)) pn)))) <| Runs.nC 0 25 h (fun hq2 h=>?_) (fun hq2 h=>?_)
 ·obtain ⟨rdivide,hr4,h⟩:=bindSome h
  refine rnH hE 1 [(2,⟨[],true,(qzd46 rdivide),[],0,false,none⟩)] qzd122 qzd133 496 (pc (g_e_divide_ok _ _ _ _ hr4) pn) ?_
  obtain ⟨rdivide2,hr5,h⟩:=bindSome h
  refine rnH hE 0 [(2,⟨[],true,(qzd46 rdivide2),[],0,false,none⟩)] qzd123 qzd133 608 (pc (g_e_divide_ok _ _ _ _ hr5) pn) <| rnV hE 1 qzd123 qzd136 3 (g_e_fraction_J1_ok N _ _ _ _ _ h E hE)
 ·exact rnV hE 2 qzd123 qzd136 3 (g_e_fraction_J1_ok N _ _ _ _ _ h E hE)
theorem g_e_Ratio_ok (N:Nat) (a:Int) (b:Int) (r:TRat×Int) (h:g_e_Ratio N a b=some r):Sound Tryd.prog 20 [(aI a),(aI b)] [] 0 (qzd41 r) []:=by
 unfold g_e_Ratio at h
 refine sO Tryd.f20 14 fun E hE=>?_
 refine rnZ hE 1 qzd88 (kq [0]) 32 <| rnZ hE 2 (kp [0,1,4,7]) (kq [0]) 64 <| Runs.nC 0 7 h (fun hq2 h=>?_) (fun hq2 h=>?_)
 ·refine rnP hE 1 (kp [4,5]) (kq [0]) 112 (pc o1 pn) ?_
  cases h
  exact Runs.nT hE 0 Tryd.f20 [] (kp [4,5]) [(16,.var 0 [.keep,slW (cU .u16) 0 ([]:List Int),.keep,slW (cU .u16) 0 ([]:List Int)])] 112 (pc (Eq.refl 0) (pc (Eq.refl 0) pn)) [16] (pc o1 pn)
 ·obtain ⟨rOf,hr,h⟩:=bindSome h
  obtain ⟨rOf2,hr2,h⟩:=bindSome h
  obtain ⟨rfraction,hr3,h⟩:=bindSome h
  refine rnH hE 2 [(1,⟨[],true,(qzd30 rOf),[],0,false,none⟩),(3,⟨[],true,(qzd30 rOf2),[],0,false,none⟩),(4,⟨[],true,(qzd31 rfraction),[],0,false,none⟩)] (kp [4,5]) (kq [0]) 176 (pc (g_e_Of_ok _ _ _ hr) (pc (g_e_Of_ok _ _ _ hr2) (pc (g_e_fraction_ok _ _ _ _ hr3) (pc o1 pn)))) ?_
  cases h
  exact Runs.nT hE 0 Tryd.f20 [] (kp [4,5]) [(16,.keep 0)] 176 pn [16] (pc o1 pn)
theorem g_b_W_ok (N:Nat) (n:Int) (r:TRat) (h:g_b_W N n=some r):Sound Tryd.prog 23 [(aI n)] [] 0 (qzd31 r) []:=by
 unfold g_b_W at h
 refine sO Tryd.f23 7 fun E hE=>?_
 refine rnZ hE 1 (kp [0,2]) (kq [0]) 16 ?_
 obtain ⟨rZ,hr,h⟩:=bindSome h
 obtain ⟨rZ2,hr2,h⟩:=bindSome h
 refine rnH hE 1 [(1,⟨[],true,(qzd30 rZ),[],0,false,none⟩),(2,⟨[],true,(qzd30 rZ2),[],0,false,none⟩)] (kp [2]) (kq [0]) 96 (pc (g_b_Z_ok _ _ _ hr) (pc (g_b_Z_ok _ _ _ hr2) (pc o1 pn))) ?_
 cases h
 exact Runs.nT hE 0 Tryd.f23 [] (kp [2]) [(16,.keep 0)] 96 pn [16] (pc o1 pn)
noncomputable abbrev C_24:=bt Tryd.f21
def g_b_Ws_L1_H (N:Nat) (l:List Int) (K:qzd63→Int→Option (qzd63)):Prop:=∀ (out:List TRat) (i:Int) (r:qzd63),K out i=some r→∀ E,EnvOk E 0→Runs Tryd.prog E 21 20 (SPost E [] (qzd84 r)) [.code (C_24 116),.inLoop (C_24 116),.inBlock 0,.code (C_24 15)] ⟨[(qzd48 l),(3,(.os 0 0 out.length)),(4,(aI i))],[(0,aO 4 TRat.cells TRat.d out)],1⟩
theorem g_b_Ws_L1_ok (N:Nat) (l:List Int) (fuel:Nat):g_b_Ws_L1_H N l (g_b_Ws_L1 N l fuel):=by
 induction fuel with
 | zero=>intro _ _ r h;rw [g_b_Ws_L1.eq_1] at h;cases h
 | succ fuel ih =>
  intro out i r h E hE
  rw [g_b_Ws_L1.eq_2] at h
  refine rnZ hE 2 (kp [0,3,4,8]) (kq [0]) 65 <| Runs.nC 0 8 h (fun hq2 h=>?_) (fun hq2 h=>?_)
  ·obtain ⟨c,h⟩:=ifSome h
   obtain ⟨rW,hr,h⟩:=bindSome h
   obtain ⟨c2,h⟩:=ifSome h
   refine rnH hE 3 [(5,⟨[],true,(qzd31 rW),[],0,false,none⟩)] (kp [0] ++ [(3,.osl ((out ++ ([rW]:List TRat)).length))] ++ kp [4]) [(177,arW 177 TRat.cells TRat.d (out ++ ([rW]:List TRat)))] 209 (pc c (pc (g_b_W_ok _ _ _ hr) (pc (Eq.refl out.length) (pc c2 (pc (z1 1) (pc (oN [[(aB rW.f_Num.f_Neg),(encL (cU .u16) 0 rW.f_Num.f_Limbs),(aB rW.f_Den.f_Neg),(encL (cU .u16) 0 rW.f_Den.f_Limbs)]]) (pc (len_app0 out ([rW]:List TRat)) (pc (len_app0 out ([rW]:List TRat)) (pc (gA1 TRat.cells TRat.d out ([rW]:List TRat)) pn))))))))) <| rnZ hE 1 qzd108 (kq [177]) 257 <| rnV hE 1 qzd108 [(0,.keep 177)] 1 (ih _ _ _ h E hE)
  ·refine rnZ hE 2 (kp [2]) (kq [0]) 97 ?_
   obtain rfl:=Option.some.inj h
   exact Runs.nT hE 0 Tryd.f21 [0] [(2,slW TRat.cells TRat.d out)] [] 97 (pc (Eq.refl out.length) (pc (z1 out.length) (pc (eZ TRat.cells TRat.d out) pn))) [] pn
theorem g_b_Ws_ok (N:Nat) (l:List Int) (r:qzd63) (h:g_b_Ws N l=some r):Sound Tryd.prog 21 [(encL cI 0 l)] [] 0 (qzd84 r) []:=by
 unfold g_b_Ws at h
 refine sO Tryd.f21 20 fun E hE=>?_
 refine rnZ hE 1 (kp [0]) [] 16 <| rnZ hE 1 (kp [0,3]) [] 32 <| rnZ hE 2 qzd108 [] 48 <| rnV hE 2 qzd110 [(0,.nil 4 (fun zi=>TRat.cells (([]:List TRat).getD zi TRat.d)))] 1 (g_b_Ws_L1_ok N _ N _ _ _ h E hE)
theorem g_e_sign_ok (N:Nat) (a:TInt) (r:Int) (h:g_e_sign N a=some r):Sound Tryd.prog 41 [(qzd30 a)] [] 0 (aI r) []:=by
 unfold g_e_sign at h
 refine sO Tryd.f41 12 fun E hE=>?_
 refine rnZ hE 1 (kp [1]) (kq [0]) 32 ?_
 obtain ⟨rtrim,hr,h⟩:=bindSome h
 refine rnH hE 3 [(2,⟨[],true,(qzd83 rtrim),[],0,false,none⟩)] (kp [1,3]) (kq [0]) 128 (pc o1 (pc (g_e_trim_ok _ _ _ hr) pn)) <| Runs.nC 0 3 h (fun hq2 h=>?_) (fun hq2 h=>?_)
 ·refine rnZ hE 1 (kp [2]) [] 144 ?_
  cases h
  exact rnU hE 0 Tryd.f41 (kp [2]) [] 144
 ·refine rnP hE 1 (kp [9]) [] 176 (pc o1 pn) <| Runs.nC 0 9 h (fun hq3 h=>?_) (fun hq3 h=>?_)
  ·refine rnZ hE 1 (kp [2]) [] 192 ?_
   cases h
   exact rnU hE 0 Tryd.f41 (kp [2]) [] 192
  ·refine rnZ hE 3 (kp [2]) [] 192 ?_
   cases h
   exact rnU hE 0 Tryd.f41 (kp [2]) [] 192
theorem g_e_below_ok (N:Nat) (x:TRat) (r:TInt) (h:g_e_below N x=some r):Sound Tryd.prog 61 [(qzd31 x)] [] 0 (qzd30 r) []:=by
 unfold g_e_below at h
 refine sO Tryd.f61 11 fun E hE=>?_
 refine rnZ hE 1 (kp [1,2]) qzd134 32 ?_
 obtain ⟨rsign,hr,h⟩:=bindSome h
 refine rnH hE 2 [(2,⟨[],true,(aI rsign),[],0,false,none⟩)] (kp [1,2,6]) qzd134 96 (pc o1 (pc (g_e_sign_ok _ _ _ hr) pn)) <| Runs.nC 0 6 h (fun hq2 h=>?_) (fun hq2 h=>?_)
 ·refine rnP hE 1 (kp [2]) [(16,.var 16 [.keep,.osl (([1]:List Int).length)]),(96,arW 96 (cU .u16) 0 ([1]:List Int))] 144 (pc o1 (pc (Eq.refl 1) (pc (Eq.refl 1) (pc (get_chunk (cU .u16) 0 ([1]:List Int)) pn)))) ?_
  cases h
  exact Runs.nT hE 0 Tryd.f61 [96] (kp [2]) [(16,.var 16 [.keep,slW (cU .u16) 0 ([1]:List Int)])] 144 (pc (Eq.refl (([1]:List Int).length)) (pc (z1 (([1]:List Int).length)) (pc (eZ (cU .u16) 0 ([1]:List Int)) pn))) [16] (pc o1 pn)
 ·refine rnP hE 2 (kp [2]) (kq [16]) 144 (pc o1 (pc o1 pn)) ?_
  cases h
  exact Runs.nT hE 0 Tryd.f61 [] (kp [2]) (kq [16]) 144 pn [16] (pc o1 pn)
theorem g_e_signOf_ok (N:Nat) (x:TRat) (r:Int) (h:g_e_signOf N x=some r):Sound Tryd.prog 75 [(qzd31 x)] [] 0 (aI r) []:=by
 unfold g_e_signOf at h
 refine sO Tryd.f75 10 fun E hE=>?_
 refine rnZ hE 1 (kp [1]) (kq [0]) 32 ?_
 obtain ⟨rsign,hr,h⟩:=bindSome h
 obtain ⟨rbelow,hr2,h⟩:=bindSome h
 obtain ⟨rsign2,hr3,h⟩:=bindSome h
 refine rnH hE 1 [(2,⟨[],true,(aI rsign),[],0,false,none⟩),(4,⟨[],true,(qzd30 rbelow),[],0,false,none⟩),(5,⟨[],true,(aI rsign2),[],0,false,none⟩)] (kp [2]) [] 160 (pc o1 (pc (g_e_sign_ok _ _ _ hr) (pc o1 (pc (g_e_below_ok _ _ _ hr2) (pc (g_e_sign_ok _ _ _ hr3) pn))))) ?_
 cases h
 exact rnU hE 0 Tryd.f75 (kp [2]) [] 160
noncomputable abbrev C_27:=bt Tryd.f52
def g_e_CheckCurve_L1_H (N:Nat) (c:TCurve) (K:Int→Option (Int)):Prop:=∀ (x:Int) (r:Int),K x=some r→∀ E,EnvOk E 0→Runs Tryd.prog E 52 52 (SPost E [] (aI r)) [.code (C_27 244),.inLoop (C_27 244),.inBlock 0,.code (C_27 31)] ⟨[(1,(.op 0 0 0)),(17,(encL cI 0 c.f_Starts)),(18,(aI ((c.f_Starts.length:Nat):Int))),(19,(aI x))],[(0,vO 2 (TCurve.cells c))],1⟩
theorem g_e_CheckCurve_L1_ok (N:Nat) (c:TCurve) (fuel:Nat):g_e_CheckCurve_L1_H N c (g_e_CheckCurve_L1 N c fuel):=by
 induction fuel with
 | zero=>intro _ r h;rw [g_e_CheckCurve_L1.eq_1] at h;cases h
 | succ fuel ih =>
  intro x r h E hE
  rw [g_e_CheckCurve_L1.eq_2] at h
  refine rnZ hE 1 (kp [1,17,18,19,20]) (kq [0]) 17 <| Runs.nC 1 20 h (fun hq4 h=>?_) (fun hq4 h=>?_)
  ·obtain ⟨c2,h⟩:=ifSome h
   refine rnP hE 4 (kp [1,3,4,17,18,19]) (kq [0]) 97 (pc c2 pn) ?_
   obtain ⟨c3,h⟩:=ifSome h
   obtain ⟨rsignOf,hr,h⟩:=bindSome h
   refine rnH hE 2 [(12,⟨[],true,(aI rsignOf),[],0,false,none⟩)] (kp [1,3,4,17,18,19,38]) (kq [0]) 337 (pc (fun hg:(!(qzd150 c x))=true=>(pc hg pn)) (pc (fun hq:(!(qzd150 c x))=true=>(pc hq pn)) (pc (fun hg:(qzd2 c x)=true=>(pc hg (pc o1 pn))) (pc (fun hg:(qzd2 c x)=true=>(pc hg (pc hg (pc (c3 hg) pn)))) (pc (fun hg:(qzd2 c x)=true=>(pc hg pn)) (pc (fun hg:(qzd2 c x)=true=>(pc (g_e_signOf_ok _ _ _ (condT hr hg)) (pc hg pn))) (pc (fun hg:(qzd2 c x)=true=>(pc hg pn)) (pc (fun hq:(qzd2 c x)=true=>(pc hq pn)) pn)))))))) <| Runs.nC 0 38 h (fun hq5 h=>?_) (fun hq5 h=>?_)
   ·refine rnZ hE 1 (kp [2]) [] 353 ?_
    cases h
    exact rnU hE 0 Tryd.f52 (kp [2]) [] 353
   ·obtain ⟨c4,h⟩:=ifSome h
    refine rnP hE 2 (kp [1,17,18,19,50]) (kq [0]) 529 (pc (fun hg:(decide (x > 0))=true=>(pc hg (pc o1 pn))) (pc (fun hg:(decide (x > 0))=true=>(pc hg pn)) (pc (fun hg:(decide (x > 0))=true=>(pc hg (pc hg (pc (c4 hg) pn)))) (pc (fun hg:(decide (x > 0))=true=>(pc hg pn)) (pc (fun hg:(decide (x > 0))=true=>(pc hg (pc hg pn))) (pc (fun hq:(decide (x > 0))=true=>(pc hq pn)) pn)))))) <| Runs.nC 0 50 h (fun hq6 h=>?_) (fun hq6 h=>?_)
    ·refine rnZ hE 1 (kp [2]) [] 545 ?_
     cases h
     exact rnU hE 0 Tryd.f52 (kp [2]) [] 545
    ·refine rnZ hE 2 qzd111 (kq [0]) 561 <| rnV hE 1 qzd111 (kq [0]) 1 (ih _ _ h E hE)
  ·refine rnZ hE 2 (kp [2]) [] 33 ?_
   cases h
   exact rnU hE 0 Tryd.f52 (kp [2]) [] 48
theorem g_e_CheckCurve_ok (N:Nat) (c:TCurve) (r:Int) (h:g_e_CheckCurve N c=some r):Sound Tryd.prog 52 [(.agg (TCurve.cells c))] [] 0 (aI r) []:=by
 unfold g_e_CheckCurve at h
 refine sO Tryd.f52 52 fun E hE=>?_
 refine rnZ hE 1 (kp [1]) (kq [0]) 32 <| rnP hE 2 (kp [1,8]) (kq [0]) 96 (pc o1 pn) <| Runs.nC 0 8 h (fun hq2 h=>?_) (fun hq2 h=>?_)
 ·refine rnZ hE 1 (kp [2]) [] 112 ?_
  cases h
  exact rnU hE 0 Tryd.f52 (kp [2]) [] 112
 ·refine rnP hE 3 (kp [1,15]) (kq [0]) 208 (pc o1 (pc o1 pn)) <| Runs.nC 0 15 h (fun hq3 h=>?_) (fun hq3 h=>?_)
  ·refine rnZ hE 1 (kp [2]) [] 224 ?_
   cases h
   exact rnU hE 0 Tryd.f52 (kp [2]) [] 224
  ·refine rnP hE 3 qzd111 (kq [0]) 272 (pc o1 pn) <| rnV hE 2 qzd111 (kq [0]) 1 (g_e_CheckCurve_L1_ok N _ N _ _ h E hE)
theorem g_e_Whole_ok (N:Nat) (a:TInt) (r:TRat) (h:g_e_Whole N a=some r):Sound Tryd.prog 76 [(qzd30 a)] [] 0 (qzd31 r) []:=by
 unfold g_e_Whole at h
 refine sO Tryd.f76 7 fun E hE=>?_
 refine rnZ hE 1 (kp [1,2]) qzd134 32 ?_
 obtain ⟨rfraction,hr,h⟩:=bindSome h
 refine rnH hE 1 [(3,⟨[],true,(qzd31 rfraction),[],0,true,none⟩)] (kp [2]) (kq [16]) 112 (pc o1 (pc (show Sound Tryd.prog 42 [(qzd30 a),(.agg [(aB false),(.sl 1 (fun zi=>(fun zi=>([[(.atom (.int .u16 1))]]:List (List AV)).getD zi []) (addz 0 zi)))])] [] 0 (qzd31 rfraction) [] from (Sound.conv (g_e_fraction_ok _ _ _ _ hr) (.cons (Alike.refl _) (.cons (Alike.agg (.cons (Alike.refl _) (.cons (Alike.sl rfl (get_chunk (cU .u16) 0 ([1]:List Int))) .nil))) .nil)))) (pc (z1 1) (pc o1 pn)))) ?_
 obtain rfl:=Option.some.inj h
 exact Runs.nT hE 0 Tryd.f76 [] (kp [2]) (kq [16]) 112 pn [16] (pc o1 pn)
theorem g_e_number_ok (N:Nat) (n:Int) (r:TRat) (h:g_e_number N n=some r):Sound Tryd.prog 53 [(aI n)] [] 0 (qzd31 r) []:=by
 unfold g_e_number at h
 refine sO Tryd.f53 6 fun E hE=>?_
 refine rnZ hE 1 (kp [0,2]) (kq [0]) 16 ?_
 obtain ⟨rOf,hr,h⟩:=bindSome h
 obtain ⟨rWhole,hr2,h⟩:=bindSome h
 refine rnH hE 1 [(1,⟨[],true,(qzd30 rOf),[],0,false,none⟩),(2,⟨[],true,(qzd31 rWhole),[],0,false,none⟩)] (kp [2]) (kq [0]) 80 (pc (g_e_Of_ok _ _ _ hr) (pc (g_e_Whole_ok _ _ _ hr2) (pc o1 pn))) ?_
 obtain rfl:=Option.some.inj h
 exact Runs.nT hE 0 Tryd.f53 [] (kp [2]) [(16,.keep 0)] 80 pn [16] (pc o1 pn)
theorem g_e_ramps_ok (N:Nat) (c:TCurve) (y:TRat) (r:TCurve×TRat) (h:g_e_ramps N c y=some r):Sound Tryd.prog 54 [(.agg (TCurve.cells c)),(qzd31 y)] [] 0 (.fn (.func 77) [] [(.op 0 0 0),(.op 1 0 0)]) [(0,vO 2 (TCurve.cells r.1)),(1,vO 4 (TRat.cells r.2))]:=by
 unfold g_e_ramps at h
 refine sO Tryd.f54 6 fun E hE=>?_
 refine rnZ hE 1 (kp [2,3]) qzd134 48 <| rnZ hE 1 (kp [4]) qzd134 80 ?_
 cases h
 exact rnU hE 0 Tryd.f54 (kp [4]) (kq [0] ++ [(1,.keep 16)]) 80
noncomputable abbrev C_36:=bt Tryd.f33
def g_e_times_L1_H (N:Nat) (a:List Int) (b:List Int) (K:(List Int)→Int→Option qzd18):Prop:=∀ (out:List Int) (x:Int) (r:(List Int)),K out x=some r→∀ E,EnvOk E 0→Runs Tryd.prog E 33 67 (SPost E [] (qzd83 r)) [.code (C_36 116),.inLoop (C_36 116),.inBlock 0,.code (C_36 15)] ⟨[(1,(qzd82 b)),(5,(qzd36 out)),(17,(qzd82 a)),(18,(qzd77 a)),(19,(aI x))],[(0,aO 1 (cU .u16) 0 out)],1⟩
def g_e_times_L2_H (N:Nat) (a:List Int) (b:List Int) (x:Int) (K:(List Int)→Int→Int→Option qzd18):Prop:=∀ (out2:List Int) (carry:Int) (x2:Int) (r:(List Int)),K out2 carry x2=some r→∀ E,EnvOk E 0→Runs Tryd.prog E 33 67 (SPost E [] (qzd83 r)) [.code (C_36 119604),.inLoop (C_36 119604),.inBlock 2,.code (C_36 14951),.inBlock 1,.code (C_36 935),.inLoop (C_36 116),.inBlock 0,.code (C_36 15)] ⟨[(1,(qzd82 b)),(5,(qzd36 out2)),(6,(aI x)),(7,(.atom (.int .u16 (qzd157 a x)))),(8,(qzd34 carry)),(17,(qzd82 a)),(18,(qzd77 a)),(19,(aI x)),(24,(qzd82 b)),(25,(qzd77 b)),(26,(aI x2))],[(0,aO 1 (cU .u16) 0 out2)],1⟩
theorem g_e_times_L2_ok (N:Nat) (a:List Int) (b:List Int) (x:Int) (K_g_e_times_L1:(List Int)→Int→Option qzd18) (hK_g_e_times_L1:g_e_times_L1_H N a b K_g_e_times_L1) (fuel:Nat):g_e_times_L2_H N a b x (g_e_times_L2 N a b x K_g_e_times_L1 fuel):=by
 induction fuel with
 | zero=>intro _ _ _ r h;rw [g_e_times_L2.eq_1] at h;cases h
 | succ fuel ih =>
  intro out2 carry x2 r h E hE
  rw [g_e_times_L2.eq_2] at h
  refine rnZ hE 1 (kp [1,5,6,7,8,17,18,19,24,25,26,27]) (kq [0]) 17 <| Runs.nC 1 27 h (fun hq3 h=>?_) (fun hq3 h=>?_)
  ·obtain ⟨c3,h⟩:=ifSome h
   refine rnP hE 4 (kp [1,5,6,7,8,9,10,17,18,19,24,25,26]) (kq [0]) 97 (pc c3 pn) ?_
   obtain ⟨c4,h⟩:=ifSome h
   refine rnP hE 1 (kp [1,5,6,7,8,9,17,18,19,24,25,26]) (kq [0]) 353 (pc c4 (pc (ltOf c4) pn)) <| rnP hE 1 (kp [1] ++ [(5,.osl ((qzd12 out2 x x2 carry a b).length))] ++ kp [6,7,8,17,18,19,24,25,26]) [(0,arW 0 (cU .u16) 0 (qzd12 out2 x x2 carry a b))] 481 (pc c4 (pc (ltOf c4) (pc (len_set0 out2 ((w64 (x+x2)).toNat) (qzd57 carry a x b x2 out2)) (pc (len_set0 out2 ((w64 (x+x2)).toNat) (qzd57 carry a x b x2 out2)) (pc (get_set0 (cU .u16) 0 out2 ((w64 (x+x2)).toNat) (qzd57 carry a x b x2 out2)) pn))))) <| rnP hE 0 qzd119 (kq [0]) 529 (pc (show (0:Int)≤16 by decide) pn) <| rnZ hE 1 qzd119 (kq [0]) 561 <| rnV hE 1 qzd119 (kq [0]) 1 (ih _ _ _ _ h E hE)
  ·obtain ⟨c5,h⟩:=ifSome h
   refine rnP hE 1 (kp [1] ++ [(5,.osl ((out2.set (qzd23 x b) (qzd55 carry)).length))] ++ kp [17,18,19]) [(0,arW 0 (cU .u16) 0 (out2.set (qzd23 x b) (qzd55 carry)))] 161 (pc c5 (pc (ltOf c5) (pc (len_set0 out2 (qzd23 x b) (qzd55 carry)) (pc (len_set0 out2 (qzd23 x b) (qzd55 carry)) (pc (get_set0 (cU .u16) 0 out2 (qzd23 x b) (qzd55 carry)) pn))))) <| rnZ hE 1 qzd116 (kq [0]) 193 <| rnV hE 1 qzd116 (kq [0]) 1 (hK_g_e_times_L1 _ _ _ h E hE)
theorem g_e_times_L1_ok (N:Nat) (a:List Int) (b:List Int) (fuel:Nat):g_e_times_L1_H N a b (g_e_times_L1 N a b fuel):=by
 induction fuel with
 | zero=>intro _ _ r h;rw [g_e_times_L1.eq_1] at h;cases h
 | succ fuel ih =>
  intro out x r h E hE
  rw [g_e_times_L1.eq_2] at h
  refine rnZ hE 1 (kp [1,5,17,18,19,20]) (kq [0]) 17 <| Runs.nC 1 20 h (fun hq2 h=>?_) (fun hq2 h=>?_)
  ·obtain ⟨c2,h⟩:=ifSome h
   refine rnP hE 4 (kp [1,5,6,7,17,18,19]) (kq [0]) 97 (pc c2 pn) <| rnZ hE 1 (kp [1,5,6,7,8,17,18,19]) (kq [0]) 113 <| rnZ hE 2 qzd119 (kq [0]) 161 <| rnV hE 2 qzd119 (kq [0]) 1 (g_e_times_L2_ok N _ _ _ _ ih N _ _ _ _ h E hE)
  ·obtain ⟨rtrim,hr,h⟩:=bindSome h
   refine rnH hE 2 [(1,⟨[],true,(qzd83 rtrim),[],0,true,none⟩)] (kp [4]) [] 65 (pc (g_e_trim_ok _ _ _ hr) (pc (z1 out.length) pn)) ?_
   obtain rfl:=Option.some.inj h
   exact rnU hE 0 Tryd.f33 (kp [4]) [] 65
theorem g_e_times_ok (N:Nat) (a:List Int) (b:List Int) (r:(List Int)) (h:g_e_times N a b=some r):Sound Tryd.prog 33 [(qzd82 a),(qzd82 b)] [] 0 (qzd83 r) []:=by
 unfold g_e_times at h
 refine sO Tryd.f33 67 fun E hE=>?_
 refine rnZ hE 1 (kp [0,1]) [] 16 ?_
 obtain ⟨c,h⟩:=ifSome h
 refine rnP hE 1 (kp [0,1] ++ [(5,.osl ((qzd64 a b).length))]) [(96,arW 96 (cU .u16) 0 (qzd64 a b))] 128 (pc c.1 (pc (Int.le_refl (qzd152 a b)) (pc c.2.1 (pc c.2.2 (pc (lR (qzd24 a b) (0:Int)) (pc (lR (qzd24 a b) (0:Int)) (pc (get_rep (cU .u16) 0 0 (qzd24 a b)) pn))))))) <| rnZ hE 2 qzd116 (kq [96]) 176 <| rnV hE 2 qzd116 [(0,.keep 96)] 1 (g_e_times_L1_ok N _ _ N _ _ _ h E hE)
theorem g_e_Mul_ok (N:Nat) (a:TInt) (b:TInt) (r:TInt) (h:g_e_Mul N a b=some r):Sound Tryd.prog 81 [(qzd30 a),(qzd30 b)] [] 0 (qzd30 r) []:=by
 unfold g_e_Mul at h
 refine sO Tryd.f81 18 fun E hE=>?_
 refine rnZ hE 1 qzd125 qzd133 48 ?_
 obtain ⟨rtrim,hr,h⟩:=bindSome h
 obtain ⟨rtrim2,hr2,h⟩:=bindSome h
 obtain ⟨rtimes,hr3,h⟩:=bindSome h
 obtain ⟨rsigned,hr4,h⟩:=bindSome h
 refine rnH hE 1 [(7,⟨[],true,(qzd83 rtrim),[],0,false,none⟩),(10,⟨[],true,(qzd83 rtrim2),[],0,false,none⟩),(11,⟨[],true,(qzd83 rtimes),[],0,false,none⟩),(12,⟨[],true,(qzd30 rsigned),[],0,false,none⟩)] (kp [4]) (kq [32]) 272 (pc o1 (pc o1 (pc o1 (pc (g_e_trim_ok _ _ _ hr) (pc o1 (pc (g_e_trim_ok _ _ _ hr2) (pc (g_e_times_ok _ _ _ _ hr3) (pc (g_e_signed_ok _ _ _ _ hr4) (pc o1 pn))))))))) ?_
 obtain rfl:=Option.some.inj h
 exact Runs.nT hE 0 Tryd.f81 [] (kp [4]) [(16,.keep 32)] 272 pn [16] (pc o1 pn)
theorem g_e_MulRat_ok (N:Nat) (x:TRat) (y:TRat) (r:TRat) (h:g_e_MulRat N x y=some r):Sound Tryd.prog 56 [(qzd31 x),(qzd31 y)] [] 0 (qzd31 r) []:=by
 unfold g_e_MulRat at h
 refine sO Tryd.f56 16 fun E hE=>?_
 refine rnZ hE 1 qzd125 qzd133 48 ?_
 obtain ⟨rMul,hr,h⟩:=bindSome h
 obtain ⟨rbelow,hr2,h⟩:=bindSome h
 obtain ⟨rbelow2,hr3,h⟩:=bindSome h
 obtain ⟨rMul2,hr4,h⟩:=bindSome h
 obtain ⟨rfraction,hr5,h⟩:=bindSome h
 refine rnH hE 1 [(4,⟨[],true,(qzd30 rMul),[],0,false,none⟩),(6,⟨[],true,(qzd30 rbelow),[],0,false,none⟩),(8,⟨[],true,(qzd30 rbelow2),[],0,false,none⟩),(9,⟨[],true,(qzd30 rMul2),[],0,false,none⟩),(10,⟨[],true,(qzd31 rfraction),[],0,false,none⟩)] (kp [4]) (kq [32]) 240 (pc o1 (pc o1 (pc (g_e_Mul_ok _ _ _ _ hr) (pc o1 (pc (g_e_below_ok _ _ _ hr2) (pc o1 (pc (g_e_below_ok _ _ _ hr3) (pc (g_e_Mul_ok _ _ _ _ hr4) (pc (g_e_fraction_ok _ _ _ _ hr5) (pc o1 pn)))))))))) ?_
 obtain rfl:=Option.some.inj h
 exact Runs.nT hE 0 Tryd.f56 [] (kp [4]) [(16,.keep 32)] 240 pn [16] (pc o1 pn)
theorem g_e_isZero_ok (N:Nat) (x:TRat) (r:Bool) (h:g_e_isZero N x=some r):Sound Tryd.prog 79 [(qzd31 x)] [] 0 (aB r) []:=by
 unfold g_e_isZero at h
 refine sO Tryd.f79 7 fun E hE=>?_
 refine rnZ hE 1 (kp [1]) (kq [0]) 32 ?_
 obtain ⟨rsign,hr,h⟩:=bindSome h
 refine rnH hE 1 [(2,⟨[],true,(aI rsign),[],0,false,none⟩)] (kp [2]) [] 112 (pc o1 (pc (g_e_sign_ok _ _ _ hr) pn)) ?_
 cases h
 exact rnU hE 0 Tryd.f79 (kp [2]) [] 112
theorem g_e_lowest_ok (N:Nat) (x:TRat) (r:TRat) (h:g_e_lowest N x=some r):Sound Tryd.prog 30 [(qzd31 x)] [] 0 (qzd31 r) []:=by
 unfold g_e_lowest at h
 refine sO Tryd.f30 8 fun E hE=>?_
 refine rnZ hE 1 (kp [1,2]) qzd134 32 ?_
 obtain ⟨rbelow,hr,h⟩:=bindSome h
 obtain ⟨rfraction,hr2,h⟩:=bindSome h
 refine rnH hE 1 [(3,⟨[],true,(qzd30 rbelow),[],0,false,none⟩),(4,⟨[],true,(qzd31 rfraction),[],0,false,none⟩)] (kp [2]) (kq [16]) 128 (pc o1 (pc o1 (pc (g_e_below_ok _ _ _ hr) (pc (g_e_fraction_ok _ _ _ _ hr2) (pc o1 pn))))) ?_
 obtain rfl:=Option.some.inj h
 exact Runs.nT hE 0 Tryd.f30 [] (kp [2]) (kq [16]) 128 pn [16] (pc o1 pn)
theorem g_e_Add_ok (N:Nat) (a:TInt) (b:TInt) (r:TInt) (h:g_e_Add N a b=some r):Sound Tryd.prog 80 [(qzd30 a),(qzd30 b)] [] 0 (qzd30 r) []:=by
 unfold g_e_Add at h
 refine sO Tryd.f80 40 fun E hE=>?_
 refine rnZ hE 1 qzd125 qzd133 48 ?_
 obtain ⟨rtrim,hr,h⟩:=bindSome h
 obtain ⟨rtrim2,hr2,h⟩:=bindSome h
 refine rnH hE 1 [(2,⟨[],true,(qzd83 rtrim),[],0,false,none⟩),(5,⟨[],true,(qzd83 rtrim2),[],0,false,none⟩)] qzd123 qzd133 176 (pc o1 (pc (g_e_trim_ok _ _ _ hr) (pc o1 (pc (g_e_trim_ok _ _ _ hr2) pn)))) <| rnP hE 2 (kp [2,3,4,5,6,17]) qzd133 256 (pc o1 (pc o1 pn)) <| Runs.nC 0 17 h (fun hq2 h=>?_) (fun hq2 h=>?_)
 ·obtain ⟨rplus,hr3,h⟩:=bindSome h
  obtain ⟨rsigned,hr4,h⟩:=bindSome h
  refine rnH hE 1 [(4,⟨[],true,(qzd83 rplus),[],0,false,none⟩),(5,⟨[],true,(qzd30 rsigned),[],0,false,none⟩)] (kp [4]) (kq [32]) 368 (pc o1 (pc (g_e_plus_ok _ _ _ _ hr3) (pc (g_e_signed_ok _ _ _ _ hr4) (pc o1 pn)))) ?_
  obtain rfl:=Option.some.inj h
  exact Runs.nT hE 0 Tryd.f80 [] (kp [4]) [(16,.keep 32)] 368 pn [16] (pc o1 pn)
 ·obtain ⟨rcompare,hr5,h⟩:=bindSome h
  refine rnH hE 3 [(2,⟨[],true,(aI rcompare),[],0,false,none⟩)] (kp [2,3,4,5,6,27]) qzd133 320 (pc (g_e_compare_ok _ _ _ _ hr5) pn) <| Runs.nC 0 27 h (fun hq3 h=>?_) (fun hq3 h=>?_)
  ·obtain ⟨rminus,hr6,h⟩:=bindSome h
   obtain ⟨rsigned2,hr7,h⟩:=bindSome h
   refine rnH hE 1 [(4,⟨[],true,(qzd83 rminus),[],0,false,none⟩),(5,⟨[],true,(qzd30 rsigned2),[],0,false,none⟩)] (kp [4]) (kq [32]) 432 (pc o1 (pc (g_e_minus_ok _ _ _ _ hr6) (pc (g_e_signed_ok _ _ _ _ hr7) (pc o1 pn)))) ?_
   obtain rfl:=Option.some.inj h
   exact Runs.nT hE 0 Tryd.f80 [] (kp [4]) [(16,.keep 32)] 432 pn [16] (pc o1 pn)
  ·obtain ⟨rminus2,hr8,h⟩:=bindSome h
   obtain ⟨rsigned3,hr9,h⟩:=bindSome h
   refine rnH hE 2 [(4,⟨[],true,(qzd83 rminus2),[],0,false,none⟩),(5,⟨[],true,(qzd30 rsigned3),[],0,false,none⟩)] (kp [4]) (kq [32]) 432 (pc o1 (pc (g_e_minus_ok _ _ _ _ hr8) (pc (g_e_signed_ok _ _ _ _ hr9) (pc o1 pn)))) ?_
   obtain rfl:=Option.some.inj h
   exact Runs.nT hE 0 Tryd.f80 [] (kp [4]) [(16,.keep 32)] 432 pn [16] (pc o1 pn)
theorem g_e_AddRat_ok (N:Nat) (x:TRat) (y:TRat) (r:TRat) (h:g_e_AddRat N x y=some r):Sound Tryd.prog 55 [(qzd31 x),(qzd31 y)] [] 0 (qzd31 r) []:=by
 unfold g_e_AddRat at h
 refine sO Tryd.f55 32 fun E hE=>?_
 refine rnZ hE 1 qzd125 qzd133 48 ?_
 obtain ⟨risZero,hr,h⟩:=bindSome h
 refine rnH hE 2 [(1,⟨[],true,(aB risZero),[],0,false,none⟩)] (kp [2,3,4,8]) qzd133 80 (pc o1 (pc (g_e_isZero_ok _ _ _ hr) pn)) <| Runs.nC 0 8 h (fun hq2 h=>?_) (fun hq2 h=>?_)
 ·obtain ⟨rlowest,hr2,h⟩:=bindSome h
  refine rnH hE 1 [(1,⟨[],true,(qzd31 rlowest),[],0,false,none⟩)] (kp [4]) (kq [32]) 128 (pc o1 (pc (g_e_lowest_ok _ _ _ hr2) (pc o1 pn))) ?_
  obtain rfl:=Option.some.inj h
  exact Runs.nT hE 0 Tryd.f55 [] (kp [4]) [(16,.keep 32)] 128 pn [16] (pc o1 pn)
 ·obtain ⟨risZero2,hr3,h⟩:=bindSome h
  refine rnH hE 3 [(1,⟨[],true,(aB risZero2),[],0,false,none⟩)] (kp [2,3,4,12]) qzd133 112 (pc o1 (pc (g_e_isZero_ok _ _ _ hr3) pn)) <| Runs.nC 0 12 h (fun hq3 h=>?_) (fun hq3 h=>?_)
  ·obtain ⟨rlowest2,hr4,h⟩:=bindSome h
   refine rnH hE 1 [(1,⟨[],true,(qzd31 rlowest2),[],0,false,none⟩)] (kp [4]) (kq [32]) 160 (pc o1 (pc (g_e_lowest_ok _ _ _ hr4) (pc o1 pn))) ?_
   obtain rfl:=Option.some.inj h
   exact Runs.nT hE 0 Tryd.f55 [] (kp [4]) [(16,.keep 32)] 160 pn [16] (pc o1 pn)
  ·obtain ⟨rbelow,hr5,h⟩:=bindSome h
   obtain ⟨rbelow2,hr6,h⟩:=bindSome h
   refine rnH hE 2 [(1,⟨[],true,(qzd30 rbelow),[],0,false,none⟩),(3,⟨[],true,(qzd30 rbelow2),[],0,false,none⟩)] qzd123 (kq [0,16,32,176,192]) 240 (pc o1 (pc (g_e_below_ok _ _ _ hr5) (pc o1 (pc (g_e_below_ok _ _ _ hr6) (pc o1 (pc o1 pn)))))) ?_
   obtain ⟨rMul,hr7,h⟩:=bindSome h
   obtain ⟨rMul2,hr8,h⟩:=bindSome h
   obtain ⟨rAdd,hr9,h⟩:=bindSome h
   obtain ⟨rMul3,hr10,h⟩:=bindSome h
   obtain ⟨rfraction,hr11,h⟩:=bindSome h
   refine rnH hE 1 [(3,⟨[],true,(qzd30 rMul),[],0,false,none⟩),(7,⟨[],true,(qzd30 rMul2),[],0,false,none⟩),(8,⟨[],true,(qzd30 rAdd),[],0,false,none⟩),(11,⟨[],true,(qzd30 rMul3),[],0,false,none⟩),(12,⟨[],true,(qzd31 rfraction),[],0,false,none⟩)] (kp [4]) (kq [32]) 464 (pc o1 (pc o1 (pc (g_e_Mul_ok _ _ _ _ hr7) (pc o1 (pc o1 (pc (g_e_Mul_ok _ _ _ _ hr8) (pc (g_e_Add_ok _ _ _ _ hr9) (pc o1 (pc o1 (pc (g_e_Mul_ok _ _ _ _ hr10) (pc (g_e_fraction_ok _ _ _ _ hr11) (pc o1 pn)))))))))))) ?_
   obtain rfl:=Option.some.inj h
   exact Runs.nT hE 0 Tryd.f55 [] (kp [4]) [(16,.keep 32)] 464 pn [16] (pc o1 pn)
theorem g_e_opposite_ok (N:Nat) (a:TInt) (r:TInt) (h:g_e_opposite N a=some r):Sound Tryd.prog 96 [(qzd30 a)] [] 0 (qzd30 r) []:=by
 unfold g_e_opposite at h
 refine sO Tryd.f96 9 fun E hE=>?_
 refine rnZ hE 1 (kp [1,2]) qzd134 32 <| rnP hE 1 (kp [2]) (kq [16]) 144 (pc o1 (pc o1 (pc o1 pn))) ?_
 cases h
 exact Runs.nT hE 0 Tryd.f96 [] (kp [2]) (kq [16]) 144 pn [16] (pc o1 pn)
theorem g_e_negative_ok (N:Nat) (x:TRat) (r:TRat) (h:g_e_negative N x=some r):Sound Tryd.prog 89 [(qzd31 x)] [] 0 (qzd31 r) []:=by
 unfold g_e_negative at h
 refine sO Tryd.f89 9 fun E hE=>?_
 refine rnZ hE 1 (kp [1,2]) qzd134 32 ?_
 obtain ⟨ropposite,hr,h⟩:=bindSome h
 obtain ⟨rbelow,hr2,h⟩:=bindSome h
 obtain ⟨rfraction,hr3,h⟩:=bindSome h
 refine rnH hE 1 [(2,⟨[],true,(qzd30 ropposite),[],0,false,none⟩),(4,⟨[],true,(qzd30 rbelow),[],0,false,none⟩),(5,⟨[],true,(qzd31 rfraction),[],0,false,none⟩)] (kp [2]) (kq [16]) 144 (pc o1 (pc (g_e_opposite_ok _ _ _ hr) (pc o1 (pc (g_e_below_ok _ _ _ hr2) (pc (g_e_fraction_ok _ _ _ _ hr3) (pc o1 pn)))))) ?_
 obtain rfl:=Option.some.inj h
 exact Runs.nT hE 0 Tryd.f89 [] (kp [2]) (kq [16]) 144 pn [16] (pc o1 pn)
theorem g_e_SubRat_ok (N:Nat) (x:TRat) (y:TRat) (r:TRat) (h:g_e_SubRat N x y=some r):Sound Tryd.prog 78 [(qzd31 x),(qzd31 y)] [] 0 (qzd31 r) []:=by
 unfold g_e_SubRat at h
 refine sO Tryd.f78 9 fun E hE=>?_
 refine rnZ hE 1 qzd125 qzd133 48 ?_
 obtain ⟨rnegative,hr,h⟩:=bindSome h
 obtain ⟨rAddRat,hr2,h⟩:=bindSome h
 refine rnH hE 1 [(2,⟨[],true,(qzd31 rnegative),[],0,false,none⟩),(3,⟨[],true,(qzd31 rAddRat),[],0,false,none⟩)] (kp [4]) (kq [32]) 128 (pc o1 (pc o1 (pc (g_e_negative_ok _ _ _ hr) (pc (g_e_AddRat_ok _ _ _ _ hr2) (pc o1 pn))))) ?_
 obtain rfl:=Option.some.inj h
 exact Runs.nT hE 0 Tryd.f78 [] (kp [4]) [(16,.keep 32)] 128 pn [16] (pc o1 pn)
noncomputable def C_41 (n:Nat):Code:=cat (bodyOf Tryd.f77) (pth n)
theorem g_e_ramps_1_L1_ok (N:Nat) (RD:TRat→TRat→TRat→Option TRat) (cap1:TCurve) (cap2:TRat) (fuel:Nat):∀ (cap02:TRat) (before:TRat) (x:Int) (r:TRat),g_e_ramps_1_L1 N RD cap1 cap2 fuel cap02 before x=some r→∀ E,EnvOk E 3→∀ lY,(∀ (ych:TRat) (yfr:TRat) (yx yr:TRat),RD ych yfr yx=some yr→YOK Tryd.prog E ⟨lY,[.agg (TRat.cells ych),.agg (TRat.cells yfr)],0,vO 4 (TRat.cells yx),vO 4 (TRat.cells yr)⟩)→Runs Tryd.prog E 77 43 (SPost E [(0,vO 4 (TRat.cells r)),(1,vO 2 (TCurve.cells cap1)),(2,vO 4 (TRat.cells cap2))] (.tup [])) [.code (C_41 28),.inLoop (C_41 28),.inBlock 0] ⟨[(0,(.atom (.func (.yield lY) #[] #[]))),(1,(.op 1 0 0)),(2,(.op 2 0 0)),(4,(.op 3 0 0)),(10,(encL cI 0 cap1.f_Starts)),(11,(aI ((cap1.f_Starts.length:Nat):Int))),(12,(aI x))],[(0,vO 4 (TRat.cells cap02)),(1,vO 2 (TCurve.cells cap1)),(2,vO 4 (TRat.cells cap2)),(3,vO 4 (TRat.cells before))],4⟩:=by
 induction fuel with
 | zero=>intro _ _ _ r h;rw [g_e_ramps_1_L1.eq_1] at h;cases h
 | succ fuel ih =>
  intro cap02 before x r h E hE lY hY
  rw [g_e_ramps_1_L1.eq_2] at h
  refine Runs.sA 1 [.code (C_41 56),.code (C_41 57),.inLoop (C_41 28),.inBlock 0] ?_
  refine Runs.sR hE ⟨[(0,(.atom (.func (.yield lY) #[] #[]))),(1,(.op 1 0 0)),(2,(.op 2 0 0)),(4,(.op 3 0 0)),(10,(encL cI 0 cap1.f_Starts)),(11,(aI ((cap1.f_Starts.length:Nat):Int))),(12,(aI x)),(13,(aB (decide (x < ((cap1.f_Starts.length:Nat):Int)))))],[(0,vO 4 (TRat.cells cap02)),(1,vO 2 (TCurve.cells cap1)),(2,vO 4 (TRat.cells cap2)),(3,vO 4 (TRat.cells before))],20⟩ (C_41 56) [] [] (kp [0,1,2,4,10,11,12,13]) (kq [0,1,2,3]) 20 [] trivial ?_
  refine Runs.sA 1 [.code (C_41 114),.code (C_41 115),.inLoop (C_41 28),.inBlock 0] ?_
  refine Runs.sC 13 (C_41 228) (C_41 229) (decide (x < ((cap1.f_Starts.length:Nat):Int))) (fun hq2=>?_) (fun hq2=>?_)
  ·have h:=condT h hq2
   refine Runs.sA 4 [.code (C_41 920),.code (C_41 921),.inBlock 1,.code (C_41 231),.inLoop (C_41 28),.inBlock 0] ?_
   obtain ⟨c,h⟩:=ifSome h
   refine Runs.sR hE ⟨[(0,(.atom (.func (.yield lY) #[] #[]))),(1,(.op 1 0 0)),(2,(.op 2 0 0)),(4,(.op 3 0 0)),(5,(aI x)),(6,(aI (cap1.f_Starts.getD ((x).toNat) 0))),(10,(encL cI 0 cap1.f_Starts)),(11,(aI ((cap1.f_Starts.length:Nat):Int))),(12,(aI x))],[(0,vO 4 (TRat.cells cap02)),(1,vO 2 (TCurve.cells cap1)),(2,vO 4 (TRat.cells cap2)),(3,vO 4 (TRat.cells before))],100⟩ (C_41 920) [] [] (kp [0,1,2,4,5,6,10,11,12]) (kq [0,1,2,3]) 100 [0≤x∧x < ((cap1.f_Starts.length:Nat):Int)] ⟨c,trivial⟩ ?_
   refine Runs.sA 1 [.code (C_41 1842),.code (C_41 1843),.inBlock 1,.code (C_41 231),.inLoop (C_41 28),.inBlock 0] ?_
   obtain ⟨rnumber2,hr2,h⟩:=bindSome h
   obtain ⟨rSubRat,hr3,h⟩:=bindSome h
   refine Runs.sR hE ⟨[(0,(.atom (.func (.yield lY) #[] #[]))),(1,(.op 1 0 0)),(2,(.op 2 0 0)),(4,(.op 3 0 0)),(5,(aI x)),(7,(.op 164 0 0)),(10,(encL cI 0 cap1.f_Starts)),(11,(aI ((cap1.f_Starts.length:Nat):Int))),(12,(aI x))],[(0,vO 4 (TRat.cells cap02)),(1,vO 2 (TCurve.cells cap1)),(2,vO 4 (TRat.cells cap2)),(3,vO 4 (TRat.cells before)),(164,vO 4 (TRat.cells rSubRat))],196⟩ (C_41 1842) [(2,⟨[],true,(.agg (TRat.cells rnumber2)),[],0,false,none⟩),(3,⟨[],true,(.agg (TRat.cells rSubRat)),[],0,false,none⟩)] [] (kp [0,1,2,4,5,7,10,11,12]) (kq [0,1,2,3,164]) 196 [0 < 1,Sound Tryd.prog 53 [(aI (cap1.f_Starts.getD ((x).toNat) 0))] [] 0 (.agg (TRat.cells rnumber2)) [],Sound Tryd.prog 78 [(.agg (TRat.cells cap2)),(.agg (TRat.cells rnumber2))] [] 0 (.agg (TRat.cells rSubRat)) [],0 < 1] ⟨o1,(g_e_number_ok N (cap1.f_Starts.getD ((x).toNat) 0) rnumber2 hr2),(g_e_SubRat_ok N cap2 rnumber2 rSubRat hr3),o1,trivial⟩ ?_
   refine Runs.sA 2 [.code (C_41 7372),.code (C_41 7373),.code (C_41 3687),.inBlock 1,.code (C_41 231),.inLoop (C_41 28),.inBlock 0] ?_
   obtain ⟨rsignOf,hr4,h⟩:=bindSome h
   obtain ⟨c2,h⟩:=ifSome h
   obtain ⟨rSubRat2,hr5,h⟩:=bindSome h
   rcases condSplit h with ⟨hG,h⟩ | ⟨hG,h⟩
   ·obtain ⟨ry,hry,h⟩:=bindSome h
    refine Runs.sRY hE ⟨[(0,(.atom (.func (.yield lY) #[] #[]))),(1,(.op 1 0 0)),(2,(.op 2 0 0)),(4,(.op 3 0 0)),(5,(aI x)),(10,(encL cI 0 cap1.f_Starts)),(11,(aI ((cap1.f_Starts.length:Nat):Int))),(12,(aI x)),(36,(aB (cond (decide (rsignOf < 0)) true (!true))))],[(0,vO 4 (TRat.cells ry)),(1,vO 2 (TCurve.cells cap1)),(2,vO 4 (TRat.cells cap2)),(3,vO 4 (TRat.cells before))],452⟩ (C_41 7372) [(1,⟨[],true,(aI rsignOf),[],0,false,none⟩),(11,⟨[],true,(.agg (TRat.cells rSubRat2)),[],0,false,none⟩),(13,⟨[],true,.unk,[],1,false,some ⟨lY,[(.agg (TRat.cells rSubRat2)),(.agg (TRat.cells rSubRat))],0,vO 4 (TRat.cells cap02),vO 4 (TRat.cells ry)⟩⟩),(14,⟨[],true,.unk,[],1,false,none⟩)] [] (kp [0,1,2,4,5,10,11,12,36]) (kq [0,1,2,3]) 452 [0 < 1,Sound Tryd.prog 75 [(.agg (TRat.cells rSubRat))] [] 0 (aI rsignOf) [],(!(decide (rsignOf < 0)))=true→AllP [(!(decide (rsignOf < 0)))=true,0 < 1],(!(decide (rsignOf < 0)))=true→AllP [(!(decide (rsignOf < 0)))=true,(!(decide (rsignOf < 0)))=true,0≤x∧x < ((cap1.f_Slopes.length:Nat):Int)],(!(decide (rsignOf < 0)))=true→AllP [(!(decide (rsignOf < 0)))=true],(!(decide (rsignOf < 0)))=true→AllP [0 < 1],(!(decide (rsignOf < 0)))=true→AllP [Sound Tryd.prog 78 [(.agg [(aB (((cap1.f_Slopes.getD ((x).toNat) TRat.d).f_Num).f_Neg)),(encL (cU .u16) 0 (((cap1.f_Slopes.getD ((x).toNat) TRat.d).f_Num).f_Limbs)),(aB (((cap1.f_Slopes.getD ((x).toNat) TRat.d).f_Den).f_Neg)),(encL (cU .u16) 0 (((cap1.f_Slopes.getD ((x).toNat) TRat.d).f_Den).f_Limbs))]),(.agg (TRat.cells before))] [] 0 (.agg (TRat.cells rSubRat2)) [],(!(decide (rsignOf < 0)))=true,(!(decide (rsignOf < 0)))=true],(!(decide (rsignOf < 0)))=true→AllP [0 < 1],(!(decide (rsignOf < 0)))=true,(lY=lY∧(#[]:Array Value)=#[]∧(#[]:Array Value)=#[]∧([(.agg (TRat.cells rSubRat2)),(.agg (TRat.cells rSubRat))]:List AV)=[(.agg (TRat.cells rSubRat2)),(.agg (TRat.cells rSubRat))]∧(vO 4 (TRat.cells cap02):Ob)=vO 4 (TRat.cells cap02)),(!(decide (rsignOf < 0)))=true,(!(decide (rsignOf < 0)))=true,(!(decide (rsignOf < 0)))=true,(!(decide (rsignOf < 0)))=true] ⟨o1,(g_e_signOf_ok N rSubRat rsignOf hr4),(fun hg=>⟨hg,o1,trivial⟩),(fun hg=>⟨hg,hg,(c2 hg),trivial⟩),(fun hg=>⟨hg,trivial⟩),(fun hg=>⟨o1,trivial⟩),(fun hg=>⟨(g_e_SubRat_ok N (⟨((cap1.f_Slopes.getD ((x).toNat) TRat.d).f_Num),((cap1.f_Slopes.getD ((x).toNat) TRat.d).f_Den)⟩:TRat) before rSubRat2 (condT hr5 hg)),hg,hg,trivial⟩),(fun hg=>⟨o1,trivial⟩),hG,⟨rfl,rfl,rfl,rfl,rfl⟩,hG,hG,hG,hG,trivial⟩ ⟨trivial,⟨trivial,⟨hY rSubRat2 rSubRat cap02 ry hry,⟨trivial,trivial⟩⟩⟩⟩ ?_
    refine Runs.sC 36 (C_41 14746) (C_41 14747) (cond (decide (rsignOf < 0)) true (!true)) (fun hq3=>?_) (fun hq3=>?_)
    ·have h:=condT h hq3
     obtain rfl:=Option.some.inj h
     refine Runs.sW hE ⟨[],[(0,vO 4 (TRat.cells ry)),(1,vO 2 (TCurve.cells cap1)),(2,vO 4 (TRat.cells cap2))],452⟩ [] [] (kq [0,1,2]) 452 [] trivial ?_
     exact Runs.sT Tryd.f77 [] [] trivial
    ·have h:=condF h hq3
     refine Runs.sA 1 [.code (C_41 3687),.inBlock 1,.code (C_41 231),.inLoop (C_41 28),.inBlock 0] ?_
     obtain ⟨c3,h⟩:=ifSome h
     refine Runs.sR hE ⟨[(0,(.atom (.func (.yield lY) #[] #[]))),(1,(.op 1 0 0)),(2,(.op 2 0 0)),(4,(.op 3 0 0)),(10,(encL cI 0 cap1.f_Starts)),(11,(aI ((cap1.f_Starts.length:Nat):Int))),(12,(aI x))],[(0,vO 4 (TRat.cells ry)),(1,vO 2 (TCurve.cells cap1)),(2,vO 4 (TRat.cells cap2)),(3,vO 4 [(aB (((cap1.f_Slopes.getD ((x).toNat) TRat.d).f_Num).f_Neg)),(encL (cU .u16) 0 (((cap1.f_Slopes.getD ((x).toNat) TRat.d).f_Num).f_Limbs)),(aB (((cap1.f_Slopes.getD ((x).toNat) TRat.d).f_Den).f_Neg)),(encL (cU .u16) 0 (((cap1.f_Slopes.getD ((x).toNat) TRat.d).f_Den).f_Limbs))])],548⟩ (C_41 3687) [] [] (kp [0,1,2,4,10,11,12]) (kq [0,1,2,3]) 548 [0 < 1,0≤x∧x < ((cap1.f_Slopes.length:Nat):Int),0 < 1] ⟨o1,c3,o1,trivial⟩ ?_
     refine Runs.sA 1 [.code (C_41 231),.inLoop (C_41 28),.inBlock 0] ?_
     refine Runs.sR hE ⟨[(0,(.atom (.func (.yield lY) #[] #[]))),(1,(.op 1 0 0)),(2,(.op 2 0 0)),(4,(.op 3 0 0)),(10,(encL cI 0 cap1.f_Starts)),(11,(aI ((cap1.f_Starts.length:Nat):Int))),(12,(aI (w64 (x+1))))],[(0,vO 4 (TRat.cells ry)),(1,vO 2 (TCurve.cells cap1)),(2,vO 4 (TRat.cells cap2)),(3,vO 4 [(aB (((cap1.f_Slopes.getD ((x).toNat) TRat.d).f_Num).f_Neg)),(encL (cU .u16) 0 (((cap1.f_Slopes.getD ((x).toNat) TRat.d).f_Num).f_Limbs)),(aB (((cap1.f_Slopes.getD ((x).toNat) TRat.d).f_Den).f_Neg)),(encL (cU .u16) 0 (((cap1.f_Slopes.getD ((x).toNat) TRat.d).f_Den).f_Limbs))])],580⟩ (C_41 231) [] [] (kp [0,1,2,4,10,11,12]) (kq [0,1,2,3]) 580 [] trivial ?_
     refine Runs.sA 1 [.code (C_41 28),.inLoop (C_41 28),.inBlock 0] ?_
     exact Runs.sW hE _ [] (kp [0,1,2,4,10,11,12]) (kq [0,1,2,3]) 4 [] trivial (ih ry (⟨((cap1.f_Slopes.getD ((x).toNat) TRat.d).f_Num),((cap1.f_Slopes.getD ((x).toNat) TRat.d).f_Den)⟩:TRat) (w64 (x+1)) _ h E hE lY hY)
   ·refine Runs.sR hE ⟨[(0,(.atom (.func (.yield lY) #[] #[]))),(1,(.op 1 0 0)),(2,(.op 2 0 0)),(4,(.op 3 0 0)),(5,(aI x)),(10,(encL cI 0 cap1.f_Starts)),(11,(aI ((cap1.f_Starts.length:Nat):Int))),(12,(aI x)),(36,(aB (cond (decide (rsignOf < 0)) true false)))],[(0,vO 4 (TRat.cells cap02)),(1,vO 2 (TCurve.cells cap1)),(2,vO 4 (TRat.cells cap2)),(3,vO 4 (TRat.cells before))],452⟩ (C_41 7372) [(1,⟨[],true,(aI rsignOf),[],0,false,none⟩),(11,⟨[],true,(.agg (TRat.cells rSubRat2)),[],0,false,none⟩),(13,⟨[],true,(aB false),[],2,false,none⟩),(14,⟨[],true,(aB false),[],2,false,none⟩)] [] (kp [0,1,2,4,5,10,11,12,36]) (kq [0,1,2,3]) 452 [0 < 1,Sound Tryd.prog 75 [(.agg (TRat.cells rSubRat))] [] 0 (aI rsignOf) [],(!(decide (rsignOf < 0)))=true→AllP [(!(decide (rsignOf < 0)))=true,0 < 1],(!(decide (rsignOf < 0)))=true→AllP [(!(decide (rsignOf < 0)))=true,(!(decide (rsignOf < 0)))=true,0≤x∧x < ((cap1.f_Slopes.length:Nat):Int)],(!(decide (rsignOf < 0)))=true→AllP [(!(decide (rsignOf < 0)))=true],(!(decide (rsignOf < 0)))=true→AllP [0 < 1],(!(decide (rsignOf < 0)))=true→AllP [Sound Tryd.prog 78 [(.agg [(aB (((cap1.f_Slopes.getD ((x).toNat) TRat.d).f_Num).f_Neg)),(encL (cU .u16) 0 (((cap1.f_Slopes.getD ((x).toNat) TRat.d).f_Num).f_Limbs)),(aB (((cap1.f_Slopes.getD ((x).toNat) TRat.d).f_Den).f_Neg)),(encL (cU .u16) 0 (((cap1.f_Slopes.getD ((x).toNat) TRat.d).f_Den).f_Limbs))]),(.agg (TRat.cells before))] [] 0 (.agg (TRat.cells rSubRat2)) [],(!(decide (rsignOf < 0)))=true,(!(decide (rsignOf < 0)))=true],(!(decide (rsignOf < 0)))=true→AllP [0 < 1],(!(decide (rsignOf < 0)))=false,(!(decide (rsignOf < 0)))=false,(!(decide (rsignOf < 0)))=true→AllP [(!(decide (rsignOf < 0)))=true]] ⟨o1,(g_e_signOf_ok N rSubRat rsignOf hr4),(fun hg=>⟨hg,o1,trivial⟩),(fun hg=>⟨hg,hg,(c2 hg),trivial⟩),(fun hg=>⟨hg,trivial⟩),(fun hg=>⟨o1,trivial⟩),(fun hg=>⟨(g_e_SubRat_ok N (⟨((cap1.f_Slopes.getD ((x).toNat) TRat.d).f_Num),((cap1.f_Slopes.getD ((x).toNat) TRat.d).f_Den)⟩:TRat) before rSubRat2 (condT hr5 hg)),hg,hg,trivial⟩),(fun hg=>⟨o1,trivial⟩),hG,hG,(fun hq=>⟨hq,trivial⟩),trivial⟩ ?_
    refine Runs.sC 36 (C_41 14746) (C_41 14747) (cond (decide (rsignOf < 0)) true false) (fun hq4=>?_) (fun hq4=>?_)
    ·have h:=condT h hq4
     obtain rfl:=Option.some.inj h
     refine Runs.sW hE ⟨[],[(0,vO 4 (TRat.cells cap02)),(1,vO 2 (TCurve.cells cap1)),(2,vO 4 (TRat.cells cap2))],452⟩ [] [] (kq [0,1,2]) 452 [] trivial ?_
     exact Runs.sT Tryd.f77 [] [] trivial
    ·have h:=condF h hq4
     refine Runs.sA 1 [.code (C_41 3687),.inBlock 1,.code (C_41 231),.inLoop (C_41 28),.inBlock 0] ?_
     obtain ⟨c4,h⟩:=ifSome h
     refine Runs.sR hE ⟨[(0,(.atom (.func (.yield lY) #[] #[]))),(1,(.op 1 0 0)),(2,(.op 2 0 0)),(4,(.op 3 0 0)),(10,(encL cI 0 cap1.f_Starts)),(11,(aI ((cap1.f_Starts.length:Nat):Int))),(12,(aI x))],[(0,vO 4 (TRat.cells cap02)),(1,vO 2 (TCurve.cells cap1)),(2,vO 4 (TRat.cells cap2)),(3,vO 4 [(aB (((cap1.f_Slopes.getD ((x).toNat) TRat.d).f_Num).f_Neg)),(encL (cU .u16) 0 (((cap1.f_Slopes.getD ((x).toNat) TRat.d).f_Num).f_Limbs)),(aB (((cap1.f_Slopes.getD ((x).toNat) TRat.d).f_Den).f_Neg)),(encL (cU .u16) 0 (((cap1.f_Slopes.getD ((x).toNat) TRat.d).f_Den).f_Limbs))])],548⟩ (C_41 3687) [] [] (kp [0,1,2,4,10,11,12]) (kq [0,1,2,3]) 548 [0 < 1,0≤x∧x < ((cap1.f_Slopes.length:Nat):Int),0 < 1] ⟨o1,c4,o1,trivial⟩ ?_
     refine Runs.sA 1 [.code (C_41 231),.inLoop (C_41 28),.inBlock 0] ?_
     refine Runs.sR hE ⟨[(0,(.atom (.func (.yield lY) #[] #[]))),(1,(.op 1 0 0)),(2,(.op 2 0 0)),(4,(.op 3 0 0)),(10,(encL cI 0 cap1.f_Starts)),(11,(aI ((cap1.f_Starts.length:Nat):Int))),(12,(aI (w64 (x+1))))],[(0,vO 4 (TRat.cells cap02)),(1,vO 2 (TCurve.cells cap1)),(2,vO 4 (TRat.cells cap2)),(3,vO 4 [(aB (((cap1.f_Slopes.getD ((x).toNat) TRat.d).f_Num).f_Neg)),(encL (cU .u16) 0 (((cap1.f_Slopes.getD ((x).toNat) TRat.d).f_Num).f_Limbs)),(aB (((cap1.f_Slopes.getD ((x).toNat) TRat.d).f_Den).f_Neg)),(encL (cU .u16) 0 (((cap1.f_Slopes.getD ((x).toNat) TRat.d).f_Den).f_Limbs))])],580⟩ (C_41 231) [] [] (kp [0,1,2,4,10,11,12]) (kq [0,1,2,3]) 580 [] trivial ?_
     refine Runs.sA 1 [.code (C_41 28),.inLoop (C_41 28),.inBlock 0] ?_
     exact Runs.sW hE _ [] (kp [0,1,2,4,10,11,12]) (kq [0,1,2,3]) 4 [] trivial (ih cap02 (⟨((cap1.f_Slopes.getD ((x).toNat) TRat.d).f_Num),((cap1.f_Slopes.getD ((x).toNat) TRat.d).f_Den)⟩:TRat) (w64 (x+1)) _ h E hE lY hY)
  ·have h:=condF h hq2
   refine Runs.sA 1 [] ?_
   obtain rfl:=Option.some.inj h
   refine Runs.sW hE ⟨[],[(0,vO 4 (TRat.cells cap02)),(1,vO 2 (TCurve.cells cap1)),(2,vO 4 (TRat.cells cap2))],51⟩ [] [] (kq [0,1,2]) 51 [] trivial ?_
   exact Runs.sF Tryd.f77 [] [] trivial
theorem g_e_ramps_1_ok (N:Nat) (RD:TRat→TRat→TRat→Option TRat) (cap0:TRat) (cap1:TCurve) (cap2:TRat) (r:TRat) (h:g_e_ramps_1 N RD cap0 cap1 cap2=some r):∀ E,EnvOk E 3→∀ lY,(∀ (ych:TRat) (yfr:TRat) (yx yr:TRat),RD ych yfr yx=some yr→YOK Tryd.prog E ⟨lY,[.agg (TRat.cells ych),.agg (TRat.cells yfr)],0,vO 4 (TRat.cells yx),vO 4 (TRat.cells yr)⟩)→Runs Tryd.prog E 77 43 (SPost E [(0,vO 4 (TRat.cells r)),(1,vO 2 (TCurve.cells cap1)),(2,vO 4 (TRat.cells cap2))] (.tup [])) [.code (C_41 1)] ⟨initTm [(.atom (.func (.yield lY) #[] #[])),(.op 1 0 0),(.op 2 0 0)] 0,[(0,vO 4 (TRat.cells cap0)),(1,vO 2 (TCurve.cells cap1)),(2,vO 4 (TRat.cells cap2))],3⟩:=by
 intro E hE lY hY
 unfold g_e_ramps_1 at h
 refine Runs.sA 1 [.code (C_41 2),.code (C_41 3)] ?_
 obtain ⟨rnumber,hr,h⟩:=bindSome h
 refine Runs.sR hE ⟨[(0,(.atom (.func (.yield lY) #[] #[]))),(1,(.op 1 0 0)),(2,(.op 2 0 0)),(4,(.op 19 0 0))],[(0,vO 4 (TRat.cells cap0)),(1,vO 2 (TCurve.cells cap1)),(2,vO 4 (TRat.cells cap2)),(19,vO 4 (TRat.cells rnumber))],51⟩ (C_41 2) [(0,⟨[],true,(.agg (TRat.cells rnumber)),[],0,false,none⟩)] [] (kp [0,1,2,4]) (kq [0,1,2,19]) 51 [Sound Tryd.prog 53 [(aI 0)] [] 0 (.agg (TRat.cells rnumber)) [],0 < 1] ⟨(g_e_number_ok N 0 rnumber hr),o1,trivial⟩ ?_
 refine Runs.sA 1 [.code (C_41 6),.code (C_41 7)] ?_
 refine Runs.sR hE ⟨[(0,(.atom (.func (.yield lY) #[] #[]))),(1,(.op 1 0 0)),(2,(.op 2 0 0)),(4,(.op 19 0 0)),(10,(encL cI 0 cap1.f_Starts)),(11,(aI ((cap1.f_Starts.length:Nat):Int))),(12,(aI 0))],[(0,vO 4 (TRat.cells cap0)),(1,vO 2 (TCurve.cells cap1)),(2,vO 4 (TRat.cells cap2)),(19,vO 4 (TRat.cells rnumber))],115⟩ (C_41 6) [] [] (kp [0,1,2,4,10,11,12]) (kq [0,1,2,19]) 115 [0 < 1] ⟨o1,trivial⟩ ?_
 refine Runs.sA 2 [.code (C_41 28),.inLoop (C_41 28),.inBlock 0] ?_
 exact Runs.sW hE _ [] (kp [0,1,2,4,10,11,12]) (kq [0,1,2] ++ [(3,.keep 19)]) 4 [] trivial (g_e_ramps_1_L1_ok N RD cap1 cap2 N cap0 rnumber 0 _ h E hE lY hY)
noncomputable def C_26 (n:Nat):Code:=cat (bodyOf Tryd.f22) (pth n)
theorem g_e_Value_R_ok (N:Nat) (change:TRat) (far:TRat) (sum:TRat) (r:TRat) (h:g_e_Value_R N change far sum=some r):∀ E,EnvOk E 1 →
  WI Tryd.prog E 28 (rfA (C_26 122)) ⟨[(7,(.op 0 0 0)),(20,(.agg (TRat.cells change))),(21,(.agg (TRat.cells far)))],[(0,vO 4 (TRat.cells sum))],1⟩ ⟨[(7,(.op 0 0 0)),(8,(.op 1 0 0)),(9,(.op 33 0 0))],[(0,vO 4 (TRat.cells sum)),(1,vO 4 (TRat.cells change)),(33,vO 4 (TRat.cells far))],65⟩∧WI Tryd.prog E 28 (rfB (C_26 122)) ⟨[(7,(.op 0 0 0)),(8,(.op 1 0 0)),(9,(.op 33 0 0))],[(0,vO 4 (TRat.cells sum)),(1,vO 4 (TRat.cells change)),(33,vO 4 (TRat.cells far))],65⟩ ⟨[],[(0,vO 4 (TRat.cells r))],161⟩:=by
 unfold g_e_Value_R at h
 obtain ⟨rMulRat,hr,h⟩:=bindSome h
 obtain ⟨rAddRat,hr2,h⟩:=bindSome h
 obtain rfl:=Option.some.inj h
 exact fun E hE=>⟨(WI.sS (cat (rfA (C_26 122)) (pth 2)) (cat (rfA (C_26 122)) (pth 3)) (WI.sR hE ⟨[(7,(.op 0 0 0)),(20,(.agg (TRat.cells change))),(21,(.agg (TRat.cells far)))],[(0,vO 4 (TRat.cells sum))],1⟩ ⟨[(7,(.op 0 0 0)),(8,(.op 1 0 0)),(21,(.agg (TRat.cells far)))],[(0,vO 4 (TRat.cells sum)),(1,vO 4 (TRat.cells change))],33⟩ (cat (rfA (C_26 122)) (pth 2)) [] [] (kp [7,8,21]) (kq [0,1]) 33 [0 < 1] ⟨o1,trivial⟩) (WI.sR hE ⟨[(7,(.op 0 0 0)),(8,(.op 1 0 0)),(21,(.agg (TRat.cells far)))],[(0,vO 4 (TRat.cells sum)),(1,vO 4 (TRat.cells change))],33⟩ ⟨[(7,(.op 0 0 0)),(8,(.op 1 0 0)),(9,(.op 33 0 0))],[(0,vO 4 (TRat.cells sum)),(1,vO 4 (TRat.cells change)),(33,vO 4 (TRat.cells far))],65⟩ (cat (rfA (C_26 122)) (pth 3)) [] [] (kp [7,8,9]) (kq [0,1,33]) 65 [0 < 1] ⟨o1,trivial⟩)),(WI.sB 1 (cat (rfB (C_26 122)) (pth 2)) (WI.sR hE ⟨[(7,(.op 0 0 0)),(8,(.op 1 0 0)),(9,(.op 33 0 0))],[(0,vO 4 (TRat.cells sum)),(1,vO 4 (TRat.cells change)),(33,vO 4 (TRat.cells far))],65⟩ ⟨[],[(0,vO 4 (TRat.cells rAddRat))],161⟩ (cat (rfB (C_26 122)) (pth 2)) [(3,⟨[],true,(.agg (TRat.cells rMulRat)),[],0,false,none⟩),(4,⟨[],true,(.agg (TRat.cells rAddRat)),[],0,false,none⟩)] [] [] (kq [0]) 161 [0 < 1,0 < 1,0 < 1,Sound Tryd.prog 56 [(.agg (TRat.cells change)),(.agg (TRat.cells far))] [] 0 (.agg (TRat.cells rMulRat)) [],Sound Tryd.prog 55 [(.agg (TRat.cells sum)),(.agg (TRat.cells rMulRat))] [] 0 (.agg (TRat.cells rAddRat)) [],0 < 1] ⟨o1,o1,o1,(g_e_MulRat_ok N change far rMulRat hr),(g_e_AddRat_ok N sum rMulRat rAddRat hr2),o1,trivial⟩))⟩
theorem g_e_Value_ok (N:Nat) (c:TCurve) (y:TRat) (r:TRat×Int) (h:g_e_Value N c y=some r):Sound Tryd.prog 22 [(.agg (TCurve.cells c)),(.agg (TRat.cells y))] [] 0 (.tup [(.agg (TRat.cells r.1)),(aI r.2)]) []:=by
 unfold g_e_Value at h
 refine Sound.of_runs (fu:=Tryd.f22) (c:=C_26 1) (nt:=28) (by kernel_rfl) (by kernel_rfl) (by kernel_rfl) (by kernel_rfl) (fun hm=>rfl) ?_
 intro E hE
 refine Runs.sA 1 [.code (C_26 2),.code (C_26 3)] ?_
 refine Runs.sR hE ⟨[(2,(.op 0 0 0)),(3,(.op 16 0 0)),(4,(.op 32 0 0))],[(0,vO 2 (TCurve.cells c)),(16,vO 4 (TRat.cells y)),(32,vO 4 [(aB false),.nil,(aB false),.nil])],64⟩ (C_26 2) [] [] (kp [2,3,4]) (kq [0,16,32]) 64 [] trivial ?_
 refine Runs.sA 2 [.code (C_26 12),.code (C_26 13),.code (C_26 7)] ?_
 obtain ⟨rCheckCurve,hr,h⟩:=bindSome h
 refine Runs.sR hE ⟨[(2,(.op 0 0 0)),(3,(.op 16 0 0)),(4,(.op 32 0 0)),(6,(aI rCheckCurve))],[(0,vO 2 (TCurve.cells c)),(16,vO 4 (TRat.cells y)),(32,vO 4 [(aB false),.nil,(aB false),.nil])],112⟩ (C_26 12) [(1,⟨[],true,(aI rCheckCurve),[],0,false,none⟩)] [] (kp [2,3,4,6]) (kq [0,16,32]) 112 [0 < 1,Sound Tryd.prog 52 [(.agg (TCurve.cells c))] [] 0 (aI rCheckCurve) []] ⟨o1,(g_e_CheckCurve_ok N c rCheckCurve hr),trivial⟩ ?_
 refine Runs.sA 1 [.code (C_26 26),.code (C_26 27),.code (C_26 7)] ?_
 refine Runs.sR hE ⟨[(2,(.op 0 0 0)),(3,(.op 16 0 0)),(4,(.op 32 0 0)),(6,(aI rCheckCurve)),(13,(aB (rCheckCurve != 0)))],[(0,vO 2 (TCurve.cells c)),(16,vO 4 (TRat.cells y)),(32,vO 4 [(aB false),.nil,(aB false),.nil])],144⟩ (C_26 26) [] [] (kp [2,3,4,6,13]) (kq [0,16,32]) 144 [] trivial ?_
 refine Runs.sC 13 (C_26 54) (C_26 55) (rCheckCurve != 0) (fun hq2=>?_) (fun hq2=>?_)
 ·have h:=condT h hq2
  refine Runs.sA 1 [.code (C_26 108),.code (C_26 109),.code (C_26 7)] ?_
  refine Runs.sR hE ⟨[(4,(.op 32 0 0)),(5,(aI rCheckCurve))],[(32,vO 4 [(aB false),.nil,(aB false),.nil])],208⟩ (C_26 108) [] [] (kp [4,5]) (kq [32]) 208 [0 < 1] ⟨o1,trivial⟩ ?_
  obtain rfl:=Option.some.inj h
  refine Runs.sW hE ⟨[(4,(.op 16 0 0)),(5,(aI rCheckCurve))],[(16,vO 4 [(aB false),(encL (cU .u16) 0 ([]:List Int)),(aB false),(encL (cU .u16) 0 ([]:List Int))])],208⟩ [] (kp [4,5]) [(16,.var 32 [.keep,.sl (([]:List Int).length) (fun zi=>(cU .u16) (([]:List Int).getD zi 0)),.keep,.sl (([]:List Int).length) (fun zi=>(cU .u16) (([]:List Int).getD zi 0))])] 208 [([]:List Int).length=0,([]:List Int).length=0] ⟨rfl,rfl,trivial⟩ ?_
  exact Runs.sT Tryd.f22 [16] [0 < 1] ⟨o1,trivial⟩
 ·have h:=condF h hq2
  refine Runs.sA 2 [.code (C_26 14),.code (C_26 15)] ?_
  obtain ⟨rnumber,hr2,h⟩:=bindSome h
  refine Runs.sR hE ⟨[(2,(.op 0 0 0)),(3,(.op 16 0 0)),(4,(.op 32 0 0)),(7,(.op 160 0 0))],[(0,vO 2 (TCurve.cells c)),(16,vO 4 (TRat.cells y)),(32,vO 4 [(aB false),.nil,(aB false),.nil]),(160,vO 4 (TRat.cells rnumber))],192⟩ (C_26 14) [(0,⟨[],true,(.agg (TRat.cells rnumber)),[],0,false,none⟩)] [] (kp [2,3,4,7]) (kq [0,16,32,160]) 192 [Sound Tryd.prog 53 [(aI 0)] [] 0 (.agg (TRat.cells rnumber)) [],0 < 1] ⟨(g_e_number_ok N 0 rnumber hr2),o1,trivial⟩ ?_
  refine Runs.sA 2 [.code (C_26 60),.code (C_26 61),.code (C_26 31)] ?_
  obtain ⟨rramps,hr3,h⟩:=bindSome h
  refine Runs.sR hE ⟨[(4,(.op 32 0 0)),(7,(.op 160 0 0)),(19,(.fn (.func 77) [] [(.op 224 0 0),(.op 225 0 0)]))],[(32,vO 4 [(aB false),.nil,(aB false),.nil]),(160,vO 4 (TRat.cells rnumber)),(224,vO 2 (TCurve.cells rramps.1)),(225,vO 4 (TRat.cells rramps.2))],240⟩ (C_26 60) [(2,⟨[],false,(.fn (.func 77) [] [(.op 0 0 0),(.op 1 0 0)]),[(0,vO 2 (TCurve.cells rramps.1)),(1,vO 4 (TRat.cells rramps.2))],0,false,none⟩)] [] (kp [4,7,19]) (kq [32,160,224,225]) 240 [0 < 1,0 < 1,Sound Tryd.prog 54 [(.agg (TCurve.cells c)),(.agg (TRat.cells y))] [] 0 (.fn (.func 77) [] [(.op 0 0 0),(.op 1 0 0)]) [(0,vO 2 (TCurve.cells rramps.1)),(1,vO 4 (TRat.cells rramps.2))]] ⟨o1,o1,(g_e_ramps_ok N c y rramps hr3),trivial⟩ ?_
  refine Runs.sA 1 [.code (C_26 122),.inBlock 0,.code (C_26 31)] ?_
  obtain ⟨rr,hrr,h⟩:=bindSome h
  refine Runs.range (m1:=3) (m9:=1) (nt1:=43) (orc:=⟨[160,224,225],false,.tup [],[(0,vO 4 (TRat.cells rr)),(1,vO 2 (TCurve.cells rramps.1)),(2,vO 4 (TRat.cells rramps.2))],0,false,none⟩) (avs:=fun l=>[.atom (.func (.yield l) #[] #[]),.op 1 0 0,.op 2 0 0]) (σc:=[(0,vO 4 (TRat.cells rnumber)),(1,vO 2 (TCurve.cells rramps.1)),(2,vO 4 (TRat.cells rramps.2))]) (σ':=[(0,vO 4 (TRat.cells rr)),(1,vO 2 (TCurve.cells rramps.1)),(2,vO 4 (TRat.cells rramps.2))]) (res:=.tup []) (x:=.tup []) (gid:=77) (fu:=Tryd.f77) (c1:=C_41 1) (rds:=[160,224,225]) (upd:=backU [160,224,225] 240 [(0,vO 4 (TRat.cells rr)),(1,vO 2 (TCurve.cells rramps.1)),(2,vO 4 (TRat.cells rramps.2))] 0 [160,224,225] ++ (newU [160,224,225] 240 [(0,vO 4 (TRat.cells rr)),(1,vO 2 (TCurve.cells rramps.1)),(2,vO 4 (TRat.cells rramps.2))] ++ [])) hE rfl rfl (by kernel_rfl) (by kernel_rfl) (by kernel_rfl) (fun _=>by kernel_rfl) (fun l=>by kernel_rfl) (fun E1 l rq hm hl hfp hst hpd hps has hbd hsz hsn=>?_) (by decide) (by decide) (by show (1:Nat)≤256;decide) (fun E9 D hE9 HB hmm hD hfp hDE=>?_)
  ·refine g_e_ramps_1_ok N (g_e_Value_R N) rnumber rramps.1 rramps.2 rr hrr E1 ⟨hm,fun h=>absurd h (by decide)⟩ l (fun ych yfr yx yr hy=>?_)
   have W:=g_e_Value_R_ok N ych yfr yx yr hy
   refine yok_of (nt:=28) hl hfp hst hpd (by rw [hm];decide) rfl rfl (by show (4:Nat)≠0;decide) rfl (by rw [hps];rfl) (st0:=⟨[(7,(.op 0 0 0)),(20,(.agg (TRat.cells ych))),(21,(.agg (TRat.cells yfr)))],[(0,vO 4 (TRat.cells yx))],1⟩) rfl rfl ?_ ?_ (fun E' hE'=>by rw [has];exact (W E' hE').1) (fun E' hE'=>by rw [hbd];exact (W E' hE').2)
   ·rfl
   ·intro w S μ vs hrl hmu;exact round_in2 hps hsz (by decide) (by decide) (by decide) (by decide) (by decide) (hsn 7) hrl hmu
  ·refine RunsD.sA 2 [.code (C_26 62),.code (C_26 63)] ?_
   refine RunsD.sR hE9 ⟨[(4,(.op 32 0 0)),(5,(aI 0))],[(32,vO 4 (TRat.cells rr))],304⟩ (C_26 62) [] [] (kp [4,5]) (kq [32]) 304 [0 < 1,0 < 1] ⟨o1,o1,trivial⟩ ?_
   obtain rfl:=Option.some.inj h
   refine RunsD.sW hE9 ⟨[(4,(.op 16 0 0)),(5,(aI 0))],[(16,vO 4 (TRat.cells rr))],304⟩ [] (kp [4,5]) [(16,.keep 32)] 304 [] trivial ?_
   exact RunsD.sT HB hmm hD hfp hDE Tryd.f22 [16] [0 < 1] ⟨o1,trivial⟩
noncomputable abbrev C_45:=bt Tryd.f14
def g_b_SameInt_L1_H (N:Nat) (a:TInt) (b:TInt) (K:Int→Option (Bool)):Prop:=∀ (i:Int) (r:Bool),K i=some r→∀ E,EnvOk E 0→Runs Tryd.prog E 14 38 (SPost E [] (aB r)) [.code (C_45 116),.inLoop (C_45 116),.inBlock 0,.code (C_45 15)] ⟨[(2,(.op 0 0 0)),(3,(.op 1 0 0)),(5,(aI i))],[(qzd49 a),(1,vO 2 (TInt.cells b))],2⟩
theorem g_b_SameInt_L1_ok (N:Nat) (a:TInt) (b:TInt) (fuel:Nat):g_b_SameInt_L1_H N a b (g_b_SameInt_L1 N a b fuel):=by
 induction fuel with
 | zero=>intro _ r h;rw [g_b_SameInt_L1.eq_1] at h;cases h
 | succ fuel ih =>
  intro i r h E hE
  rw [g_b_SameInt_L1.eq_2] at h
  refine rnP hE 2 (kp [2,3,5,24]) (kq [0,1]) 82 (pc o1 pn) <| Runs.nC 0 24 h (fun hq3 h=>?_) (fun hq3 h=>?_)
  ·obtain ⟨c,h⟩:=ifSome h
   obtain ⟨c2,h⟩:=ifSome h
   refine rnP hE 4 (kp [2,3,5,37]) (kq [0,1]) 258 (pc o1 (pc c (pc o1 (pc c2 pn)))) <| Runs.nC 0 37 h (fun hq4 h=>?_) (fun hq4 h=>?_)
   ·refine rnZ hE 1 (kp [4]) [] 274 ?_
    obtain rfl:=Option.some.inj h
    exact rnU hE 0 Tryd.f14 (kp [4]) [] 274
   ·refine rnZ hE 2 qzd126 (kq [0,1]) 306 <| rnV hE 1 qzd126 (kq [0,1]) 2 (ih _ _ h E hE)
  ·refine rnZ hE 2 (kp [4]) [] 98 ?_
   obtain rfl:=Option.some.inj h
   exact rnU hE 0 Tryd.f14 (kp [4]) [] 98
theorem g_b_SameInt_ok (N:Nat) (a:TInt) (b:TInt) (r:Bool) (h:g_b_SameInt N a b=some r):Sound Tryd.prog 14 [(qzd30 a),(qzd30 b)] [] 0 (aB r) []:=by
 unfold g_b_SameInt at h
 refine sO Tryd.f14 38 fun E hE=>?_
 refine rnZ hE 1 (kp [2,3]) qzd134 48 <| rnP hE 2 (kp [2,3,19]) qzd134 272 (pc o1 (pc o1 (pc (fun hg:(!(!(a.f_Neg == b.f_Neg)))=true=>(pc hg (pc o1 pn))) (pc (fun hg:(!(!(a.f_Neg == b.f_Neg)))=true=>(pc hg pn)) (pc (fun hg:(!(!(a.f_Neg == b.f_Neg)))=true=>(pc hg (pc o1 pn))) (pc (fun hg:(!(!(a.f_Neg == b.f_Neg)))=true=>(pc hg pn)) (pc (fun hg:(!(!(a.f_Neg == b.f_Neg)))=true=>(pc hg (pc hg pn))) (pc (fun hq:(!(!(a.f_Neg == b.f_Neg)))=true=>(pc hq pn)) pn)))))))) <| Runs.nC 0 19 h (fun hq2 h=>?_) (fun hq2 h=>?_)
 ·refine rnZ hE 1 (kp [4]) [] 288 ?_
  obtain rfl:=Option.some.inj h
  exact rnU hE 0 Tryd.f14 (kp [4]) [] 288
 ·refine rnZ hE 3 qzd126 qzd134 288 <| rnV hE 2 qzd126 (kq [0] ++ [(1,.keep 16)]) 2 (g_b_SameInt_L1_ok N _ _ N _ _ h E hE)
noncomputable abbrev C_46:=bt Tryd.f25
def g_b_Q_J1_H (N:Nat) (K:Int→Int→Option (TRat)):Prop:=∀ (a2:Int) (b2:Int) (r:TRat),K a2 b2=some r→∀ E,EnvOk E 0→Runs Tryd.prog E 25 34 (SPost E [] (qzd31 r)) [.code (C_46 14),.code (C_46 15)] ⟨[(0,(aI a2)),(1,(aI b2)),(4,(.op 0 0 0))],[(0,vO 4 [(aB false),.nil,(aB false),.nil])],1⟩
def g_b_Q_L2_H (N:Nat) (a2:Int) (b2:Int) (K:Int→Int→Option (TRat)):Prop:=∀ (x:Int) (y:Int) (r:TRat),K x y=some r→∀ E,EnvOk E 0→Runs Tryd.prog E 25 34 (SPost E [] (qzd31 r)) [.code (C_46 248),.inLoop (C_46 248),.inBlock 0,.code (C_46 63)] ⟨[(0,(aI a2)),(1,(aI b2)),(4,(.op 0 0 0)),(5,(aI x)),(6,(aI y))],[(0,vO 4 [(aB false),.nil,(aB false),.nil])],1⟩
theorem g_b_Q_L2_ok (N:Nat) (a2:Int) (b2:Int) (fuel:Nat):g_b_Q_L2_H N a2 b2 (g_b_Q_L2 N a2 b2 fuel):=by
 induction fuel with
 | zero=>intro _ _ r h;rw [g_b_Q_L2.eq_1] at h;cases h
 | succ fuel ih =>
  intro x y r h E hE
  rw [g_b_Q_L2.eq_2] at h
  refine rnZ hE 2 (kp [0,1,4,5,6,20]) (kq [0]) 33 <| Runs.nC 0 20 h (fun hq4 h=>?_) (fun hq4 h=>?_)
  ·obtain ⟨c,h⟩:=ifSome h
   refine rnP hE 2 qzd87 (kq [0]) 129 (pc c pn) <| rnV hE 2 qzd87 (kq [0]) 1 (ih _ _ _ h E hE)
  ·obtain ⟨c2,h⟩:=ifSome h
   obtain ⟨rZ,hr,h⟩:=bindSome h
   obtain ⟨rZ2,hr2,h⟩:=bindSome h
   refine rnH hE 2 [(3,⟨[],true,(qzd30 rZ),[],0,false,none⟩),(7,⟨[],true,(qzd30 rZ2),[],0,false,none⟩)] (kp [4]) (kq [0]) 193 (pc c2 (pc (g_b_Z_ok _ _ _ hr) (pc c2 (pc (g_b_Z_ok _ _ _ hr2) (pc o1 pn))))) ?_
   cases h
   exact Runs.nT hE 0 Tryd.f25 [] (kp [4]) [(16,.keep 0)] 193 pn [16] (pc o1 pn)
theorem g_b_Q_J1_ok (N:Nat):g_b_Q_J1_H N (g_b_Q_J1 N):=by
 intro a2 b2 r h E hE
 unfold g_b_Q_J1 at h
 refine rnZ hE 0 qzd87 (kq [0]) 65 <| rnZ hE 2 (kp [0,1,4,5,6,16]) (kq [0]) 97 <| Runs.nC 0 16 h (fun hq3 h=>?_) (fun hq3 h=>?_)
 ·refine rnZ hE 0 qzd87 (kq [0]) 145 <| rnV hE 3 qzd87 (kq [0]) 1 (g_b_Q_L2_ok N _ _ N _ _ _ h E hE)
 ·exact rnV hE 4 qzd87 (kq [0]) 1 (g_b_Q_L2_ok N _ _ N _ _ _ h E hE)
theorem g_b_Q_ok (N:Nat) (a:Int) (b:Int) (r:TRat) (h:g_b_Q N a b=some r):Sound Tryd.prog 25 [(aI a),(aI b)] [] 0 (qzd31 r) []:=by
 unfold g_b_Q at h
 refine sO Tryd.f25 34 fun E hE=>?_
 refine rnZ hE 1 qzd88 (kq [0]) 16 <| rnZ hE 2 (kp [0,1,4,8]) (kq [0]) 48 <| Runs.nC 0 8 h (fun hq2 h=>?_) (fun hq2 h=>?_)
 ·refine rnZ hE 0 qzd88 (kq [0]) 144 <| rnV hE 1 qzd88 (kq [0]) 1 (g_b_Q_J1_ok N _ _ _ h E hE)
 ·exact rnV hE 2 qzd88 (kq [0]) 1 (g_b_Q_J1_ok N _ _ _ h E hE)
theorem g_b_SameRat_ok (N:Nat) (a:TRat) (b:TRat) (r:Bool) (h:g_b_SameRat N a b=some r):Sound Tryd.prog 24 [(qzd31 a),(qzd31 b)] [] 0 (aB r) []:=by
 unfold g_b_SameRat at h
 refine sO Tryd.f24 17 fun E hE=>?_
 refine rnZ hE 1 (kp [2,3]) qzd134 48 ?_
 obtain ⟨rSameInt,hr,h⟩:=bindSome h
 obtain ⟨rSameInt2,hr2,h⟩:=bindSome h
 refine rnH hE 1 [(4,⟨[],true,(aB rSameInt),[],0,false,none⟩),(10,⟨[],true,(aB rSameInt2),[],0,false,none⟩)] (kp [4]) [] 256 (pc o1 (pc o1 (pc (g_b_SameInt_ok _ _ _ _ hr) (pc (fun hg:rSameInt=true=>(pc hg (pc o1 pn))) (pc (fun hg:rSameInt=true=>(pc hg (pc o1 pn))) (pc (fun hg:rSameInt=true=>(pc (g_b_SameInt_ok _ _ _ _ (condT hr2 hg)) (pc hg (pc hg pn)))) (pc (fun hq:rSameInt=true=>(pc hq pn)) pn))))))) ?_
 cases h
 exact rnU hE 0 Tryd.f24 (kp [4]) [] 256
theorem g_w01_awake_ok (N:Nat) (r:Bool) (h:g_w01_awake N=some r):Sound Tryd.prog 5 [] [] 0 (aB r) []:=by
 unfold g_w01_awake at h
 refine sO Tryd.f5 60 fun E hE=>?_
 refine rnZ hE 1 [] [] 16 ?_
 obtain ⟨rZ,hr,h⟩:=bindSome h
 obtain ⟨rZ2,hr2,h⟩:=bindSome h
 obtain ⟨rDivMod,hr3,h⟩:=bindSome h
 refine rnH hE 1 [(0,⟨[],true,(qzd30 rZ),[],0,false,none⟩),(1,⟨[],true,(qzd30 rZ2),[],0,false,none⟩),(2,⟨[],true,(qzd39 rDivMod),[],0,false,none⟩)] (kp [1,2,3]) (kq [128,144]) 208 (pc (g_b_Z_ok _ _ _ hr) (pc (g_b_Z_ok _ _ _ hr2) (pc (g_e_DivMod_ok _ _ _ _ hr3) (pc o1 (pc o1 pn))))) ?_
 obtain ⟨rRatio,hr4,h⟩:=bindSome h
 refine rnH hE 1 [(0,⟨[],true,(qzd41 rRatio),[],0,false,none⟩)] (kp [1,2,3,4,5]) (kq [128,144,272]) 320 (pc (g_e_Ratio_ok _ _ _ _ hr4) (pc o1 pn)) ?_
 obtain ⟨rWs,hr5,h⟩:=bindSome h
 refine rnH hE 1 [(2,⟨[],true,(qzd84 rWs),[],0,true,none⟩)] (kp [1,2,3,4,5,6]) (kq [128,144,272] ++ [(320,arW 320 cI 0 ([0,10]:List Int)),(384,.var 384 [.osl (([0,10]:List Int).length),.keep])]) 416 (pc (show Sound Tryd.prog 21 [(.sl 2 (fun zi=>(fun zi=>([[(aI 2)],[(aI 0)]]:List (List AV)).getD zi []) (addz 0 zi)))] [] 0 (qzd84 rWs) [] from (Sound.conv (g_b_Ws_ok _ _ _ hr5) (.cons (Alike.sl rfl (get_chunk cI 0 ([2,0]:List Int))) .nil))) (pc (z1 2) (pc o1 (pc (Eq.refl 2) (pc (get_chunk cI 0 ([0,10]:List Int)) (pc (Eq.refl 2) pn)))))) ?_
 obtain ⟨rW,hr6,h⟩:=bindSome h
 obtain ⟨rValue,hr7,h⟩:=bindSome h
 refine rnH hE 1 [(1,⟨[],true,(qzd31 rW),[],0,false,none⟩),(2,⟨[],true,(qzd41 rValue),[],0,true,none⟩)] (kp [1,2,3,4,5,7,8]) (kq [128,144,272,512]) 560 (pc o1 (pc (g_b_W_ok _ _ _ hr6) (pc (g_e_Value_ok _ _ _ _ hr7) (pc (z1 (([0,10]:List Int).length)) (pc o1 pn))))) ?_
 obtain ⟨rZ3,hr8,h⟩:=bindSome h
 obtain ⟨rSameInt,hr9,h⟩:=bindSome h
 obtain ⟨rZ4,hr10,h⟩:=bindSome h
 obtain ⟨rSameInt2,hr11,h⟩:=bindSome h
 obtain ⟨rQ,hr12,h⟩:=bindSome h
 obtain ⟨rSameRat,hr13,h⟩:=bindSome h
 obtain ⟨rW2,hr14,h⟩:=bindSome h
 obtain ⟨rSameRat2,hr15,h⟩:=bindSome h
 refine rnH hE 1 [(4,⟨[],true,(qzd30 rZ3),[],0,false,none⟩),(5,⟨[],true,(aB rSameInt),[],0,false,none⟩),(9,⟨[],true,(qzd30 rZ4),[],0,false,none⟩),(10,⟨[],true,(aB rSameInt2),[],0,false,none⟩),(18,⟨[],true,(qzd31 rQ),[],0,false,none⟩),(19,⟨[],true,(aB rSameRat),[],0,false,none⟩),(27,⟨[],true,(qzd31 rW2),[],0,false,none⟩),(28,⟨[],true,(aB rSameRat2),[],0,false,none⟩)] (kp [0]) [] 1056 (pc (fun hg:(rDivMod.2.2 == 0)=true=>(pc o1 pn)) (pc (fun hg:(rDivMod.2.2 == 0)=true=>(pc (g_b_Z_ok _ _ _ (condT hr8 hg)) pn)) (pc (fun hg:(rDivMod.2.2 == 0)=true=>(pc (g_b_SameInt_ok _ _ _ _ (condT hr9 hg)) (pc hg (pc hg pn)))) (pc (fun hq:(rDivMod.2.2 == 0)=true=>(pc hq pn)) (pc (fun hg:(cond (rDivMod.2.2 == 0) rSameInt false)=true=>(pc o1 pn)) (pc (fun hg:(cond (rDivMod.2.2 == 0) rSameInt false)=true=>(pc (g_b_Z_ok _ _ _ (condT hr10 hg)) pn)) (pc (fun hg:(cond (rDivMod.2.2 == 0) rSameInt false)=true=>(pc (g_b_SameInt_ok _ _ _ _ (condT hr11 hg)) (pc hg (pc hg pn)))) (pc (fun hq:(cond (rDivMod.2.2 == 0) rSameInt false)=true=>(pc hq pn)) (pc (fun hg:(cond (cond (rDivMod.2.2 == 0) rSameInt false) rSameInt2 false)=true=>(pc hg pn)) (pc (fun hq:(cond (cond (rDivMod.2.2 == 0) rSameInt false) rSameInt2 false)=true=>(pc hq pn)) (pc (fun hg:(qzd148 rDivMod rSameInt rSameInt2 rRatio)=true=>(pc o1 pn)) (pc (fun hg:(qzd148 rDivMod rSameInt rSameInt2 rRatio)=true=>(pc (g_b_Q_ok _ _ _ _ (condT hr12 hg)) pn)) (pc (fun hg:(qzd148 rDivMod rSameInt rSameInt2 rRatio)=true=>(pc (g_b_SameRat_ok _ _ _ _ (condT hr13 hg)) (pc hg (pc hg pn)))) (pc (fun hq:(qzd148 rDivMod rSameInt rSameInt2 rRatio)=true=>(pc hq pn)) (pc (fun hg:(cond (qzd148 rDivMod rSameInt rSameInt2 rRatio) rSameRat false)=true=>(pc hg pn)) (pc (fun hq:(cond (qzd148 rDivMod rSameInt rSameInt2 rRatio) rSameRat false)=true=>(pc hq pn)) (pc (fun hg:(qzd78 rDivMod rSameInt rSameInt2 rRatio rSameRat rValue)=true=>(pc o1 pn)) (pc (fun hg:(qzd78 rDivMod rSameInt rSameInt2 rRatio rSameRat rValue)=true=>(pc (g_b_W_ok _ _ _ (condT hr14 hg)) pn)) (pc (fun hg:(qzd78 rDivMod rSameInt rSameInt2 rRatio rSameRat rValue)=true=>(pc (g_b_SameRat_ok _ _ _ _ (condT hr15 hg)) (pc hg (pc hg pn)))) (pc (fun hq:(qzd78 rDivMod rSameInt rSameInt2 rRatio rSameRat rValue)=true=>(pc hq pn)) pn)))))))))))))))))))) ?_
 cases h
 exact rnU hE 0 Tryd.f5 (kp [0]) [] 1056
noncomputable abbrev C_49:=bt Tryd.f28
def g_slices_Reverse_byte_byte_L1_H (N:Nat) (K:(List Int)→Int→Int→Option qzd18):Prop:=∀ (cap02:List Int) (i:Int) (j:Int) (r:(List Int)),K cap02 i j=some r→∀ E,EnvOk E 1→Runs Tryd.prog E 28 28 (SPost E [(0,aO 1 (cU .u8) 0 r)] (.tup [])) [.code (C_49 12),.inLoop (C_49 12),.inBlock 0] ⟨[(0,(qzd36 cap02)),(2,(aI i)),(3,(aI j))],[(0,aO 1 (cU .u8) 0 cap02)],1⟩
theorem g_slices_Reverse_byte_byte_L1_ok (N:Nat) (fuel:Nat):g_slices_Reverse_byte_byte_L1_H N (g_slices_Reverse_byte_byte_L1 N fuel):=by
 induction fuel with
 | zero=>intro _ _ _ r h;rw [g_slices_Reverse_byte_byte_L1.eq_1] at h;cases h
 | succ fuel ih =>
  intro cap02 i j r h E hE
  rw [g_slices_Reverse_byte_byte_L1.eq_2] at h
  refine rnZ hE 2 (kp [0,2,3,9]) (kq [0]) 49 <| Runs.nC 0 9 h (fun hq2 h=>?_) (fun hq2 h=>?_)
  ·obtain ⟨c,h⟩:=ifSome h
   obtain ⟨c2,h⟩:=ifSome h
   refine rnP hE 3 ([(0,.osl ((qzd13 cap02 i j).length))] ++ kp [2,3]) [(0,arW 0 (cU .u8) 0 (qzd13 cap02 i j))] 305 (pc c (pc (ltOf c) (pc c2 (pc (ltOf c2) (pc c2 (pc (ltOf c2) (pc c (pc (ltOf c) (pc (show cap02.length=(qzd13 cap02 i j).length from (len_set_raw (len_set_raw rfl))) (pc (show cap02.length=(qzd13 cap02 i j).length from (len_set_raw (len_set_raw rfl))) (pc (get_set_raw (cU .u8) 0 (cap02.set ((i).toNat) (qzd157 cap02 j)) ((j).toNat) (qzd157 cap02 i) (get_set0 (cU .u8) 0 cap02 ((i).toNat) (qzd157 cap02 j))) pn))))))))))) <| rnZ hE 1 qzd101 (kq [0]) 401 <| rnV hE 1 qzd101 (kq [0]) 1 (ih _ _ _ _ h E hE)
  ·obtain rfl:=Option.some.inj h
   exact Runs.nF hE 1 Tryd.f28 [] [] (kq [0]) 49 pn [] pn
theorem g_slices_Reverse_byte_byte_ok (N:Nat) (cap0:List Int) (r:(List Int)) (h:g_slices_Reverse_byte_byte N cap0=some r):Sound Tryd.prog 28 [(qzd36 cap0)] [(0,aO 1 (cU .u8) 0 cap0)] 1 (.tup []) [(0,aO 1 (cU .u8) 0 r)]:=by
 unfold g_slices_Reverse_byte_byte at h
 refine sO Tryd.f28 28 fun E hE=>?_
 refine rnZ hE 1 qzd101 (kq [0]) 81 <| rnV hE 2 qzd101 (kq [0]) 1 (g_slices_Reverse_byte_byte_L1_ok N N _ _ _ _ h E hE)
noncomputable abbrev C_51:=bt Tryd.f57
def g_strings_trimLeftByte_L1_H (N:Nat) (c:Int) (K:ByteArray→Option (ByteArray)):Prop:=∀ (s2:ByteArray) (r:ByteArray),K s2=some r→∀ E,EnvOk E 0→Runs Tryd.prog E 57 17 (SPost E [] (aS r)) [.code (C_51 24),.inLoop (C_51 24),.inBlock 0,.code (C_51 7)] ⟨[(0,(aS s2)),(1,(.atom (.int .u8 c)))],[],0⟩
theorem g_strings_trimLeftByte_L1_ok (N:Nat) (c:Int) (fuel:Nat):g_strings_trimLeftByte_L1_H N c (g_strings_trimLeftByte_L1 N c fuel):=by
 induction fuel with
 | zero=>intro _ r h;rw [g_strings_trimLeftByte_L1.eq_1] at h;cases h
 | succ fuel ih =>
  intro s2 r h E hE
  rw [g_strings_trimLeftByte_L1.eq_2] at h
  obtain ⟨c2,h⟩:=ifSome h
  refine rnP hE 2 (kp [0,1,13]) [] 144 (pc (fun hg:(qzd80 s2)=true=>(pc hg (pc (c2 hg) pn))) (pc (fun hg:(qzd80 s2)=true=>(pc hg (pc hg pn))) (pc (fun hq:(qzd80 s2)=true=>(pc hq pn)) pn))) <| Runs.nC 0 13 h (fun hq2 h=>?_) (fun hq2 h=>?_)
  ·obtain ⟨c3,h⟩:=ifSome h
   refine rnP hE 2 (kp [0,1]) [] 192 (pc c3 (pc (show 0≤(1:Int) by decide) pn)) <| rnV hE 2 (kp [0,1]) [] 0 (ih _ _ h E hE)
  ·refine rnZ hE 2 (kp [4]) [] 176 ?_
   obtain rfl:=Option.some.inj h
   exact rnU hE 0 Tryd.f57 (kp [4]) [] 176
theorem g_strings_trimLeftByte_ok (N:Nat) (s:ByteArray) (c:Int) (r:ByteArray) (h:g_strings_trimLeftByte N s c=some r):Sound Tryd.prog 57 [(aS s),(.atom (.int .u8 c))] [] 0 (aS r) []:=by
 unfold g_strings_trimLeftByte at h
 refine sO Tryd.f57 17 fun E hE=>?_
 refine rnZ hE 1 (kp [0,1]) [] 16 <| rnV hE 3 (kp [0,1]) [] 0 (g_strings_trimLeftByte_L1_ok N _ N _ _ h E hE)
theorem g_strings_TrimLeft_ok (N:Nat) (s:ByteArray) (cutset:ByteArray) (r:ByteArray) (h:g_strings_TrimLeft N s cutset=some r):Sound Tryd.prog 29 [(aS s),(aS cutset)] [] 0 (aS r) []:=by
 unfold g_strings_TrimLeft at h
 refine sO Tryd.f29 37 fun E hE=>?_
 refine rnZ hE 1 (kp [0,1]) [] 16 <| rnP hE 2 (kp [0,1,12]) [] 112 (pc (fun hg:(!(streq s ByteArray.empty))=true=>(pc hg pn)) (pc (fun hq:(!(streq s ByteArray.empty))=true=>(pc hq pn)) pn)) <| Runs.nC 0 12 h (fun hq2 h=>?_) (fun hq2 h=>?_)
 ·refine rnZ hE 1 (kp [4]) [] 144 ?_
  obtain rfl:=Option.some.inj h
  exact rnU hE 0 Tryd.f29 (kp [4]) [] 144
 ·obtain ⟨c,h⟩:=ifSome h
  refine rnP hE 3 (kp [0,1,21]) [] 240 (pc (fun hg:((qzd15 cutset) == 1)=true=>(pc hg (pc (c hg) pn))) (pc (fun hg:((qzd15 cutset) == 1)=true=>(pc hg pn)) (pc (fun hq:((qzd15 cutset) == 1)=true=>(pc hq pn)) pn))) <| Runs.nC 0 21 h (fun hq3 h=>?_) (fun hq3 h=>?_)
  ·obtain ⟨c2,h⟩:=ifSome h
   obtain ⟨rtrimLeftByte,hr,h⟩:=bindSome h
   refine rnH hE 1 [(3,⟨[],true,(aS rtrimLeftByte),[],0,false,none⟩)] (kp [4]) [] 320 (pc c2 (pc (g_strings_trimLeftByte_ok _ _ _ _ hr) pn)) ?_
   obtain rfl:=Option.some.inj h
   exact rnU hE 0 Tryd.f29 (kp [4]) [] 320
  ·cases h
noncomputable abbrev C_48:=bt Tryd.f6
def g_e_Format_L1_H (N:Nat) (a:TInt) (K:(List Int)→(List Int)→Option (ByteArray)):Prop:=∀ (n:List Int) (digits:List Int) (r:ByteArray),K n digits=some r→∀ E,EnvOk E 0→Runs Tryd.prog E 6 43 (SPost E [] (aS r)) [.code (C_48 248),.inLoop (C_48 248),.inBlock 0,.code (C_48 63)] ⟨[(1,(.op 0 0 0)),(3,(qzd82 n)),(4,(.os 1 0 digits.length))],[(qzd49 a),(1,aO 1 (cU .u8) 0 digits)],2⟩
def g_e_Format_L2_H (N:Nat) (a:TInt) (rshort:(List Int)×Int) (K:(List Int)→Int→Int→Option (ByteArray)):Prop:=∀ (digits2:List Int) (rest:Int) (x:Int) (r:ByteArray),K digits2 rest x=some r→∀ E,EnvOk E 0→Runs Tryd.prog E 6 43 (SPost E [] (aS r)) [.code (C_48 31836),.inLoop (C_48 31836),.inBlock 2,.inBlock 1,.inLoop (C_48 248),.inBlock 0,.code (C_48 63)] ⟨[(1,(.op 0 0 0)),(3,(encL (cU .u16) 0 rshort.1)),(4,(.os 1 0 digits2.length)),(5,(.atom (.int .u16 rest))),(21,(aI x))],[(qzd49 a),(1,aO 1 (cU .u8) 0 digits2)],2⟩
theorem g_e_Format_L2_ok (N:Nat) (a:TInt) (rshort:(List Int)×Int) (K_g_e_Format_L1:(List Int)→(List Int)→Option (ByteArray)) (hK_g_e_Format_L1:g_e_Format_L1_H N a K_g_e_Format_L1) (fuel:Nat):g_e_Format_L2_H N a rshort (g_e_Format_L2 N a rshort K_g_e_Format_L1 fuel):=by
 induction fuel with
 | zero=>intro _ _ _ r h;rw [g_e_Format_L2.eq_1] at h;cases h
 | succ fuel ih =>
  intro digits2 rest x r h E hE
  rw [g_e_Format_L2.eq_2] at h
  refine rnZ hE 1 (kp [1,3,4,5,21,22]) (kq [0,1]) 18 <| Runs.nC 1 22 h (fun hq4 h=>?_) (fun hq4 h=>?_)
  ·obtain ⟨c,h⟩:=ifSome h
   refine rnP hE 4 (kp [1,3] ++ [(4,.osl ((digits2 ++ (qzd74 rest)).length))] ++ kp [5,21]) (kq [0] ++ [(114,arW 114 (cU .u8) 0 (digits2 ++ (qzd74 rest)))]) 146 (pc (show (10:Int)≠0 by decide) (pc (Eq.refl digits2.length) (pc c (pc (z1 1) (pc (oN [[(.atom (.int .u8 (IntKind.u8.wrap ((IntKind.u16.wrap (48+(rest.tmod 10)))))))]]) (pc (len_app0 digits2 (qzd74 rest)) (pc (len_app0 digits2 (qzd74 rest)) (pc (gA1 (cU .u8) 0 digits2 (qzd74 rest)) pn)))))))) <| rnP hE 0 qzd112 (kq [0,114]) 194 (pc (show (10:Int)≠0 by decide) pn) <| rnZ hE 1 qzd112 (kq [0,114]) 226 <| rnV hE 1 qzd112 (kq [0] ++ [(1,.keep 114)]) 2 (ih _ _ _ _ h E hE)
  ·exact rnV hE 3 qzd113 (kq [0,1]) 2 (hK_g_e_Format_L1 _ _ _ h E hE)
theorem g_e_Format_L1_ok (N:Nat) (a:TInt) (fuel:Nat):g_e_Format_L1_H N a (g_e_Format_L1 N a fuel):=by
 induction fuel with
 | zero=>intro _ _ r h;rw [g_e_Format_L1.eq_1] at h;cases h
 | succ fuel ih =>
  intro n digits r h E hE
  rw [g_e_Format_L1.eq_2] at h
  refine rnZ hE 2 (kp [1,3,4,15]) (kq [0,1]) 50 <| Runs.nC 0 15 h (fun hq3 h=>?_) (fun hq3 h=>?_)
  ·refine rnZ hE 3 qzd113 (kq [0,1]) 66 ?_
   obtain ⟨rshort,hr2,h⟩:=bindSome h
   refine rnH hE 1 [(1,⟨[],true,(qzd45 rshort),[],0,false,none⟩)] (kp [1,3,4,5]) (kq [0,1]) 178 (pc (g_e_short_ok _ _ _ _ hr2) pn) <| rnZ hE 1 qzd112 (kq [0,1]) 194 <| rnV hE 2 qzd112 (kq [0,1]) 2 (g_e_Format_L2_ok N _ _ _ ih N _ _ _ _ h E hE)
  ·obtain ⟨rReverse,hr3,h⟩:=bindSome h
   obtain ⟨c2,h⟩:=ifSome h
   refine rnH hE 2 [(1,⟨[1],false,(.tup []),[(0,aO 1 (cU .u8) 0 rReverse)],0,false,none⟩)] (kp [1] ++ [(4,.osl (rReverse.length))]) (kq [0,1]) 82 (pc (g_slices_Reverse_byte_byte_ok _ _ _ hr3) (pc (show digits.length=rReverse.length from (Eq.symm c2)) pn)) ?_
   obtain ⟨rTrimLeft,hr4,h⟩:=bindSome h
   refine rnH hE 1 [(2,⟨[],true,(aS rTrimLeft),[],0,false,none⟩)] (kp [1,6]) (kq [0]) 146 (pc (show ∀ zi,zi < rReverse.length→isU8 ((fun zi=>cU .u8 (rReverse.getD zi 0)) zi)=true from (fun _ _=>rfl)) (pc (z1 rReverse.length) (pc (show ∀ zi,zi < rReverse.length→AV.oneL ((fun zi=>cU .u8 (rReverse.getD zi 0)) zi)=true from (fun _ _=>rfl)) (pc (g_strings_TrimLeft_ok _ _ _ _ hr4) pn)))) <| rnP hE 2 (kp [6,39]) [] 178 (pc o1 pn) <| Runs.nC 0 39 h (fun hq5 h=>?_) (fun hq5 h=>?_)
   ·obtain ⟨c3,h⟩:=ifSome h
    refine rnP hE 1 (kp [2]) [] 226 (pc c3 pn) ?_
    cases h
    exact rnU hE 0 Tryd.f6 (kp [2]) [] 226
   ·refine rnZ hE 2 (kp [2]) [] 210 ?_
    obtain rfl:=Option.some.inj h
    exact rnU hE 0 Tryd.f6 (kp [2]) [] 210
theorem g_e_Format_ok (N:Nat) (a:TInt) (r:ByteArray) (h:g_e_Format N a=some r):Sound Tryd.prog 6 [(qzd30 a)] [] 0 (aS r) []:=by
 unfold g_e_Format at h
 refine sO Tryd.f6 43 fun E hE=>?_
 refine rnZ hE 1 (kp [1]) (kq [0]) 32 ?_
 obtain ⟨rtrim,hr,h⟩:=bindSome h
 refine rnH hE 1 [(2,⟨[],true,(qzd83 rtrim),[],0,false,none⟩)] (kp [1,3]) (kq [0]) 96 (pc o1 (pc (g_e_trim_ok _ _ _ hr) pn)) <| rnZ hE 2 (kp [1,3,12]) (kq [0]) 144 <| Runs.nC 0 12 h (fun hq2 h=>?_) (fun hq2 h=>?_)
 ·refine rnZ hE 1 (kp [2]) [] 160 ?_
  cases h
  exact rnU hE 0 Tryd.f6 (kp [2]) [] 160
 ·refine rnZ hE 2 qzd113 (kq [0]) 160 <| rnV hE 3 (kp [1,3] ++ [(4,.nilos 1)]) (kq [0] ++ [(1,.nil 1 (fun zi=>(cU .u8) (([]:List Int).getD zi 0)))]) 2 (g_e_Format_L1_ok N _ N _ _ _ h E hE)
theorem g_e_FormatRat_ok (N:Nat) (x:TRat) (r:ByteArray) (h:g_e_FormatRat N x=some r):Sound Tryd.prog 7 [(qzd31 x)] [] 0 (aS r) []:=by
 unfold g_e_FormatRat at h
 refine sO Tryd.f7 20 fun E hE=>?_
 refine rnZ hE 1 (kp [1]) (kq [0]) 32 ?_
 obtain ⟨rlowest,hr,h⟩:=bindSome h
 refine rnH hE 1 [(1,⟨[],true,(qzd31 rlowest),[],0,false,none⟩)] (kp [1]) (kq [0]) 80 (pc o1 (pc (g_e_lowest_ok _ _ _ hr) (pc o1 pn))) ?_
 obtain ⟨rFormat,hr2,h⟩:=bindSome h
 refine rnH hE 1 [(2,⟨[],true,(aS rFormat),[],0,false,none⟩)] (kp [1,3]) (kq [0]) 144 (pc o1 (pc (g_e_Format_ok _ _ _ hr2) pn)) <| rnZ hE 2 (kp [1,3,10]) (kq [0]) 176 <| Runs.nC 0 10 h (fun hq2 h=>?_) (fun hq2 h=>?_)
 ·obtain ⟨rFormat2,hr3,h⟩:=bindSome h
  refine rnH hE 1 [(2,⟨[],true,(aS rFormat2),[],0,false,none⟩)] (kp [2]) [] 240 (pc o1 (pc (g_e_Format_ok _ _ _ hr3) pn)) ?_
  obtain rfl:=Option.some.inj h
  exact rnU hE 0 Tryd.f7 (kp [2]) [] 240
 ·obtain ⟨rFormat3,hr4,h⟩:=bindSome h
  obtain ⟨c,h⟩:=ifSome h
  obtain ⟨c2,h⟩:=ifSome h
  refine rnH hE 2 [(2,⟨[],true,(aS rFormat3),[],0,false,none⟩)] (kp [2]) [] 288 (pc o1 (pc (g_e_Format_ok _ _ _ hr4) (pc c (pc c2 pn)))) ?_
  cases h
  exact rnU hE 0 Tryd.f7 (kp [2]) [] 288
theorem g_internal_stringslite_HasPrefix_ok (N:Nat) (s:ByteArray) (vprefix:ByteArray) (r:Bool) (h:g_internal_stringslite_HasPrefix N s vprefix=some r):Sound Tryd.prog 85 [(aS s),(aS vprefix)] [] 0 (aB r) []:=by
 unfold g_internal_stringslite_HasPrefix at h
 refine sO Tryd.f85 18 fun E hE=>?_
 refine rnZ hE 1 (kp [0,1]) [] 16 ?_
 obtain ⟨c,h⟩:=ifSome h
 refine rnP hE 1 (kp [4]) [] 240 (pc (fun hg:(qzd81 s vprefix)=true=>(pc hg pn)) (pc (fun hg:(qzd81 s vprefix)=true=>(pc hg (pc hg (pc (c hg) (pc (show 0≤(qzd15 vprefix) from (Int.natCast_nonneg _)) pn))))) (pc (fun hg:(qzd81 s vprefix)=true=>(pc hg (pc hg pn))) (pc (fun hq:(qzd81 s vprefix)=true=>(pc hq pn)) pn)))) ?_
 cases h
 exact rnU hE 0 Tryd.f85 (kp [4]) [] 240
theorem g_internal_stringslite_CutPrefix_ok (N:Nat) (s:ByteArray) (vprefix:ByteArray) (r:ByteArray×Bool) (h:g_internal_stringslite_CutPrefix N s vprefix=some r):Sound Tryd.prog 62 [(aS s),(aS vprefix)] [] 0 (qzd43 r) []:=by
 unfold g_internal_stringslite_CutPrefix at h
 refine sO Tryd.f62 15 fun E hE=>?_
 refine rnZ hE 1 (kp [0,1]) [] 32 ?_
 obtain ⟨rHasPrefix,hr,h⟩:=bindSome h
 refine rnH hE 2 [(2,⟨[],true,(aB rHasPrefix),[],0,false,none⟩)] (kp [0,1,9]) [] 96 (pc (g_internal_stringslite_HasPrefix_ok _ _ _ _ hr) pn) <| Runs.nC 0 9 h (fun hq2 h=>?_) (fun hq2 h=>?_)
 ·refine rnZ hE 1 (kp [4,5]) [] 144 ?_
  cases h
  exact rnU hE 0 Tryd.f62 (kp [4,5]) [] 144
 ·obtain ⟨c,h⟩:=ifSome h
  refine rnP hE 2 (kp [4,5]) [] 192 (pc c (pc (show 0≤(qzd15 vprefix) from (Int.natCast_nonneg _)) pn)) ?_
  cases h
  exact rnU hE 0 Tryd.f62 (kp [4,5]) [] 192
theorem g_strings_CutPrefix_ok (N:Nat) (s:ByteArray) (vprefix:ByteArray) (r:ByteArray×Bool) (h:g_strings_CutPrefix N s vprefix=some r):Sound Tryd.prog 31 [(aS s),(aS vprefix)] [] 0 (qzd43 r) []:=by
 unfold g_strings_CutPrefix at h
 refine sO Tryd.f31 11 fun E hE=>?_
 refine rnZ hE 1 (kp [0,1]) [] 32 ?_
 obtain ⟨rCutPrefix,hr,h⟩:=bindSome h
 refine rnH hE 1 [(2,⟨[],true,(qzd43 rCutPrefix),[],0,false,none⟩)] (kp [4,5]) [] 144 (pc (g_internal_stringslite_CutPrefix_ok _ _ _ _ hr) pn) ?_
 cases h
 exact rnU hE 0 Tryd.f31 (kp [4,5]) [] 144
noncomputable abbrev C_53:=bt Tryd.f8
def g_e_Parse_L1_H (N:Nat) (s:ByteArray) (rCutPrefix:ByteArray×Bool) (K:(List Int)→Int→Option qzd68):Prop:=∀ (n:List Int) (x:Int) (r:TInt×Int),K n x=some r→∀ E,EnvOk E 0→Runs Tryd.prog E 8 53 (SPost E [] (qzd40 r)) [.code (C_53 500),.inLoop (C_53 500),.inBlock 0,.code (C_53 63)] ⟨[(0,(aS s)),(2,(.op 0 0 0)),(4,(aS rCutPrefix.1)),(5,(aB rCutPrefix.2)),(6,(qzd82 n)),(20,(aI ((rCutPrefix.1.size:Nat):Int))),(21,(aI x))],[(0,vO 2 [(aB false),.nil])],1⟩
theorem g_e_Parse_L1_ok (N:Nat) (s:ByteArray) (rCutPrefix:ByteArray×Bool) (fuel:Nat):g_e_Parse_L1_H N s rCutPrefix (g_e_Parse_L1 N s rCutPrefix fuel):=by
 induction fuel with
 | zero=>intro _ _ r h;rw [g_e_Parse_L1.eq_1] at h;cases h
 | succ fuel ih =>
  intro n x r h E hE
  rw [g_e_Parse_L1.eq_2] at h
  refine rnZ hE 1 (kp [0,2,4,5,6,20,21,22]) (kq [0]) 17 <| Runs.nC 1 22 h (fun hq3 h=>?_) (fun hq3 h=>?_)
  ·refine rnZ hE 4 (kp [0,2,4,5,6,7,20,21]) (kq [0]) 49 ?_
   obtain ⟨c,h⟩:=ifSome h
   refine rnP hE 1 (kp [0,2,4,5,6,8,20,21]) (kq [0]) 113 (pc c pn) <| rnP hE 2 (kp [0,2,4,5,6,8,20,21,32]) (kq [0]) 209 (pc (fun hg:(qzd6 rCutPrefix x)=true=>(pc hg pn)) (pc (fun hq:(qzd6 rCutPrefix x)=true=>(pc hq pn)) pn)) <| Runs.nC 0 32 h (fun hq4 h=>?_) (fun hq4 h=>?_)
   ·refine rnP hE 1 (kp [2,3]) (kq [0]) 257 (pc o1 pn) ?_
    cases h
    exact Runs.nT hE 0 Tryd.f8 [] (kp [2,3]) [(16,.var 0 [.keep,slW (cU .u16) 0 ([]:List Int)])] 257 (pc (Eq.refl 0) pn) [16] (pc o1 pn)
   ·obtain ⟨rtimes,hr2,h⟩:=bindSome h
    obtain ⟨rtrim,hr3,h⟩:=bindSome h
    obtain ⟨rplus,hr4,h⟩:=bindSome h
    refine rnH hE 1 [(2,⟨[],true,(qzd83 rtimes),[],0,true,none⟩),(7,⟨[],true,(qzd83 rtrim),[],0,true,none⟩),(8,⟨[],true,(qzd83 rplus),[],0,false,none⟩)] qzd102 (kq [0]) 369 (pc (show Sound Tryd.prog 33 [(qzd82 n),(.sl 1 (fun zi=>(fun zi=>([[(.atom (.int .u16 10))]]:List (List AV)).getD zi []) (addz 0 zi)))] [] 0 (qzd83 rtimes) [] from (Sound.conv (g_e_times_ok _ _ _ _ hr2) (.cons (Alike.refl _) (.cons (Alike.sl rfl (get_chunk (cU .u16) 0 ([10]:List Int))) .nil)))) (pc (z1 1) (pc (show Sound Tryd.prog 26 [(qzd37 rCutPrefix x)] [] 0 (qzd83 rtrim) [] from (Sound.conv (g_e_trim_ok _ _ _ hr3) (.cons (Alike.sl rfl (get_chunk (cU .u16) 0 ([(qzd144 rCutPrefix x)]:List Int))) .nil))) (pc (z1 1) (pc (g_e_plus_ok _ _ _ _ hr4) pn))))) <| rnZ hE 1 qzd102 (kq [0]) 401 <| rnV hE 1 qzd102 (kq [0]) 1 (ih _ _ _ h E hE)
  ·obtain ⟨rsigned,hr5,h⟩:=bindSome h
   refine rnH hE 2 [(2,⟨[],true,(qzd30 rsigned),[],0,false,none⟩)] (kp [0,2,9]) (kq [0,65]) 97 (pc (g_e_signed_ok _ _ _ _ hr5) (pc o1 pn)) ?_
   obtain ⟨rFormat,hr6,h⟩:=bindSome h
   refine rnH hE 2 [(1,⟨[],true,(aS rFormat),[],0,false,none⟩)] (kp [2,9,50]) (kq [0,65]) 161 (pc o1 (pc (g_e_Format_ok _ _ _ hr6) pn)) <| Runs.nC 0 50 h (fun hq5 h=>?_) (fun hq5 h=>?_)
   ·refine rnP hE 1 (kp [2,3]) (kq [0]) 209 (pc o1 pn) ?_
    cases h
    exact Runs.nT hE 0 Tryd.f8 [] (kp [2,3]) [(16,.var 0 [.keep,slW (cU .u16) 0 ([]:List Int)])] 209 (pc (Eq.refl 0) pn) [16] (pc o1 pn)
   ·refine rnP hE 2 (kp [2,3]) (kq [0]) 209 (pc o1 (pc o1 pn)) ?_
    cases h
    exact Runs.nT hE 0 Tryd.f8 [] (kp [2,3]) [(16,.keep 0)] 209 pn [16] (pc o1 pn)
theorem g_e_Parse_ok (N:Nat) (s:ByteArray) (r:TInt×Int) (h:g_e_Parse N s=some r):Sound Tryd.prog 8 [(aS s)] [] 0 (qzd40 r) []:=by
 unfold g_e_Parse at h
 refine sO Tryd.f8 53 fun E hE=>?_
 refine rnZ hE 1 (kp [0,2]) (kq [0]) 32 <| rnZ hE 2 (kp [0,2,12]) (kq [0]) 80 <| Runs.nC 0 12 h (fun hq2 h=>?_) (fun hq2 h=>?_)
 ·refine rnP hE 1 (kp [2,3]) (kq [0]) 128 (pc o1 pn) ?_
  cases h
  exact Runs.nT hE 0 Tryd.f8 [] (kp [2,3]) [(16,.var 0 [.keep,slW (cU .u16) 0 ([]:List Int)])] 128 (pc (Eq.refl 0) pn) [16] (pc o1 pn)
 ·obtain ⟨rCutPrefix,hr,h⟩:=bindSome h
  refine rnH hE 2 [(1,⟨[],true,(qzd43 rCutPrefix),[],0,false,none⟩)] qzd104 (kq [0]) 192 (pc (g_strings_CutPrefix_ok _ _ _ _ hr) pn) <| rnZ hE 1 qzd103 (kq [0]) 208 <| rnZ hE 2 qzd102 (kq [0]) 256 <| Runs.nW hE 2 [] (kp [0,2,4,5] ++ [(6,slW (cU .u16) 0 ([]:List Int))] ++ kp [20,21]) (kq [0]) 1 (pc (Eq.refl 0) pn) (g_e_Parse_L1_ok N _ _ N _ _ _ h E hE)
theorem g_r01_digit_ok (N:Nat) (a:List Int) (i:Int) (r:Int) (h:g_r01_digit N a i=some r):Sound Tryd.prog 47 [(encL cI 0 a),(aI i)] [] 0 (aI r) []:=by
 unfold g_r01_digit at h
 refine sO Tryd.f47 13 fun E hE=>?_
 refine rnZ hE 1 (kp [0,1]) [] 16 <| rnZ hE 2 (kp [0,1,8]) [] 80 <| Runs.nC 0 8 h (fun hq2 h=>?_) (fun hq2 h=>?_)
 ·obtain ⟨c,h⟩:=ifSome h
  refine rnP hE 1 (kp [4]) [] 160 (pc c pn) ?_
  cases h
  exact rnU hE 0 Tryd.f47 (kp [4]) [] 160
 ·refine rnZ hE 2 (kp [4]) [] 96 ?_
  cases h
  exact rnU hE 0 Tryd.f47 (kp [4]) [] 96
noncomputable abbrev C_60:=bt Tryd.f37
def g_r01_trim_L1_H (N:Nat) (a:List Int) (K:Int→Option qzd18):Prop:=∀ (n:Int) (r:(List Int)),K n=some r→∀ E,EnvOk E 0→Runs Tryd.prog E 37 23 (SPost E [] (encL cI 0 r)) [.code (C_60 56),.inLoop (C_60 56),.inBlock 0,.code (C_60 15)] ⟨[(qzd48 a),(3,(aI n))],[],0⟩
theorem g_r01_trim_L1_ok (N:Nat) (a:List Int) (fuel:Nat):g_r01_trim_L1_H N a (g_r01_trim_L1 N a fuel):=by
 induction fuel with
 | zero=>intro _ r h;rw [g_r01_trim_L1.eq_1] at h;cases h
 | succ fuel ih =>
  intro n r h E hE
  rw [g_r01_trim_L1.eq_2] at h
  obtain ⟨c,h⟩:=ifSome h
  refine rnP hE 2 (kp [0,3,15]) [] 160 (pc (fun hg:(decide (n > 0))=true=>(pc hg pn)) (pc (fun hg:(decide (n > 0))=true=>(pc hg (pc hg (pc (c hg) pn)))) (pc (fun hg:(decide (n > 0))=true=>(pc hg pn)) (pc (fun hg:(decide (n > 0))=true=>(pc hg pn)) (pc (fun hq:(decide (n > 0))=true=>(pc hq pn)) pn))))) <| Runs.nC 0 15 h (fun hq2 h=>?_) (fun hq2 h=>?_)
  ·refine rnZ hE 2 (kp [0,3]) [] 208 <| rnV hE 2 (kp [0,3]) [] 0 (ih _ _ h E hE)
  ·obtain ⟨c2,h⟩:=ifSome h
   obtain ⟨c3,h⟩:=ifSome h
   obtain ⟨c4,h⟩:=ifSome h
   refine rnP hE 2 [(2,.osl (qzd16 a n))] [(224,arW 224 cI 0 (qzd21 a n))] 256 (pc c2 (pc c3 (pc (Eq.refl 0) (pc c4 (pc (show ∀ zi,zi < ((n).toNat - 0)→AV.oneL ((fun zi=>cI (a.getD (addz 0 zi) 0)) zi)=true from (fun _ _=>rfl)) (pc (show (0+((n).toNat - 0))=(qzd21 a n).length from (len_app_raw rfl (len_ext' a 0 ((n).toNat) c2))) (pc (show 0+((n).toNat - 0)=(qzd21 a n).length from (len_app_raw rfl (len_ext' a 0 ((n).toNat) c2))) (pc (show ∀ zi,zi < (qzd21 a n).length→(fun zi=>cI ((qzd21 a n).getD zi 0)) zi=((fun zm=>if zm < 0 then (fun _=>[]) zm else (fun zi=>cI (a.getD (addz 0 zi) 0)) (zm - 0))) zi from (get_app_raw cI 0 ([]:List Int) ((a.take ((n).toNat)).drop 0) rfl (fun zq hzq=>absurd hzq (Nat.not_lt_zero _)) (fun zq hzq=>get_ext cI 0 a 0 ((n).toNat) zq hzq))) pn)))))))) ?_
   cases h
   exact Runs.nT hE 0 Tryd.f37 [224] [(2,slW cI 0 (qzd21 a n))] [] 256 (pc (Eq.refl (qzd16 a n)) (pc (z1 (qzd16 a n)) (pc (eZ cI 0 (qzd21 a n)) pn))) [] pn
theorem g_r01_trim_ok (N:Nat) (a:List Int) (r:(List Int)) (h:g_r01_trim N a=some r):Sound Tryd.prog 37 [(encL cI 0 a)] [] 0 (encL cI 0 r) []:=by
 unfold g_r01_trim at h
 refine sO Tryd.f37 23 fun E hE=>?_
 refine rnZ hE 1 (kp [0]) [] 16 <| rnZ hE 1 (kp [0,3]) [] 64 <| rnV hE 3 (kp [0,3]) [] 0 (g_r01_trim_L1_ok N _ N _ _ h E hE)
noncomputable abbrev C_58:=bt Tryd.f36
def g_r01_times_L1_H (N:Nat) (a:List Int) (b:List Int) (K:(List Int)→Int→Option qzd18):Prop:=∀ (out:List Int) (i:Int) (r:(List Int)),K out i=some r→∀ E,EnvOk E 0→Runs Tryd.prog E 36 61 (SPost E [] (encL cI 0 r)) [.code (C_58 116),.inLoop (C_58 116),.inBlock 0,.code (C_58 15)] ⟨[(qzd48 a),(qzd50 b),(5,(qzd36 out)),(6,(aI i))],[(0,aO 1 cI 0 out)],1⟩
def g_r01_times_L2_H (N:Nat) (a:List Int) (b:List Int) (i:Int) (K:(List Int)→Int→Int→Option qzd18):Prop:=∀ (out2:List Int) (carry:Int) (k:Int) (r:(List Int)),K out2 carry k=some r→∀ E,EnvOk E 0→Runs Tryd.prog E 36 61 (SPost E [] (encL cI 0 r)) [.code (C_58 14924),.inLoop (C_58 14924),.inBlock 2,.inBlock 1,.code (C_58 467),.inLoop (C_58 116),.inBlock 0,.code (C_58 15)] ⟨[(qzd48 a),(qzd50 b),(5,(qzd36 out2)),(6,(aI i)),(7,(aI carry)),(8,(aI k))],[(0,aO 1 cI 0 out2)],1⟩
theorem g_r01_times_L2_ok (N:Nat) (a:List Int) (b:List Int) (i:Int) (K_g_r01_times_L1:(List Int)→Int→Option qzd18) (hK_g_r01_times_L1:g_r01_times_L1_H N a b K_g_r01_times_L1) (fuel:Nat):g_r01_times_L2_H N a b i (g_r01_times_L2 N a b i K_g_r01_times_L1 fuel):=by
 induction fuel with
 | zero=>intro _ _ _ r h;rw [g_r01_times_L2.eq_1] at h;cases h
 | succ fuel ih =>
  intro out2 carry k r h E hE
  rw [g_r01_times_L2.eq_2] at h
  refine rnP hE 2 (kp [0,1,5,6,7,8,30]) (kq [0]) 129 (pc (fun hg:(qzd3 k b)=true=>(pc hg pn)) (pc (fun hq:(qzd3 k b)=true=>(pc hq pn)) pn)) <| Runs.nC 0 30 h (fun hq3 h=>?_) (fun hq3 h=>?_)
  ·obtain ⟨c2,h⟩:=ifSome h
   obtain ⟨c3,h⟩:=ifSome h
   obtain ⟨rdigit,hr,h⟩:=bindSome h
   refine rnH hE 4 [(12,⟨[],true,(aI rdigit),[],0,false,none⟩)] (kp [0,1,5,6,8,9]) (kq [0]) 417 (pc c2 (pc (ltOf c2) (pc c3 (pc (g_r01_digit_ok _ _ _ _ hr) pn)))) <| rnP hE 1 (kp [0,1] ++ [(5,.osl ((out2.set ((w64 (i+k)).toNat) (qzd28 out2 i k a rdigit carry)).length))] ++ kp [6,8,9]) [(0,arW 0 cI 0 (out2.set ((w64 (i+k)).toNat) (qzd28 out2 i k a rdigit carry)))] 545 (pc (show (65536:Int)≠0 by decide) (pc c2 (pc (ltOf c2) (pc (len_set0 out2 ((w64 (i+k)).toNat) (qzd28 out2 i k a rdigit carry)) (pc (len_set0 out2 ((w64 (i+k)).toNat) (qzd28 out2 i k a rdigit carry)) (pc (get_set0 cI 0 out2 ((w64 (i+k)).toNat) (qzd28 out2 i k a rdigit carry)) pn)))))) <| rnP hE 0 qzd89 (kq [0]) 593 (pc (show (65536:Int)≠0 by decide) pn) <| rnZ hE 1 qzd89 (kq [0]) 641 <| rnV hE 1 qzd89 (kq [0]) 1 (ih _ _ _ _ h E hE)
  ·refine rnZ hE 2 qzd91 (kq [0]) 177 <| rnV hE 1 qzd91 (kq [0]) 1 (hK_g_r01_times_L1 _ _ _ h E hE)
theorem g_r01_times_L1_ok (N:Nat) (a:List Int) (b:List Int) (fuel:Nat):g_r01_times_L1_H N a b (g_r01_times_L1 N a b fuel):=by
 induction fuel with
 | zero=>intro _ _ r h;rw [g_r01_times_L1.eq_1] at h;cases h
 | succ fuel ih =>
  intro out i r h E hE
  rw [g_r01_times_L1.eq_2] at h
  refine rnZ hE 2 (kp [0,1,5,6,20]) (kq [0]) 65 <| Runs.nC 0 20 h (fun hq2 h=>?_) (fun hq2 h=>?_)
  ·refine rnZ hE 4 qzd90 (kq [0]) 81 <| rnZ hE 1 qzd89 (kq [0]) 97 <| rnV hE 2 qzd89 (kq [0]) 1 (g_r01_times_L2_ok N _ _ _ _ ih N _ _ _ _ h E hE)
  ·obtain ⟨rtrim,hr2,h⟩:=bindSome h
   refine rnH hE 2 [(1,⟨[],true,(encL cI 0 rtrim),[],0,true,none⟩)] (kp [4]) [] 113 (pc (g_r01_trim_ok _ _ _ hr2) (pc (z1 out.length) pn)) ?_
   obtain rfl:=Option.some.inj h
   exact rnU hE 0 Tryd.f36 (kp [4]) [] 113
theorem g_r01_times_ok (N:Nat) (a:List Int) (b:List Int) (r:(List Int)) (h:g_r01_times N a b=some r):Sound Tryd.prog 36 [(encL cI 0 a),(encL cI 0 b)] [] 0 (encL cI 0 r) []:=by
 unfold g_r01_times at h
 refine sO Tryd.f36 61 fun E hE=>?_
 refine rnZ hE 1 (kp [0,1]) [] 16 ?_
 obtain ⟨c,h⟩:=ifSome h
 refine rnP hE 1 (kp [0,1] ++ [(5,.osl ((qzd67 a b).length))]) [(112,arW 112 cI 0 (qzd67 a b))] 144 (pc c.1 (pc (Int.le_refl (qzd156 a b)) (pc c.2.1 (pc c.2.2 (pc (lR (qzd29 a b) (0:Int)) (pc (lR (qzd29 a b) (0:Int)) (pc (get_rep cI 0 0 (qzd29 a b)) pn))))))) <| rnZ hE 2 qzd91 (kq [112]) 160 <| rnV hE 2 qzd91 [(0,.keep 112)] 1 (g_r01_times_L1_ok N _ _ N _ _ _ h E hE)
noncomputable abbrev C_61:=bt Tryd.f35
def g_r01_plus_L1_H (N:Nat) (a:List Int) (b:List Int) (K:(List Int)→Int→Int→Option qzd18):Prop:=∀ (out:List Int) (carry:Int) (i:Int) (r:(List Int)),K out carry i=some r→∀ E,EnvOk E 0→Runs Tryd.prog E 35 43 (SPost E [] (encL cI 0 r)) [.code (C_61 244),.inLoop (C_61 244),.inBlock 0,.code (C_61 31)] ⟨[(qzd48 a),(qzd50 b),(5,(qzd36 out)),(6,(aI carry)),(7,(aI i))],[(0,aO 1 cI 0 out)],1⟩
theorem g_r01_plus_L1_ok (N:Nat) (a:List Int) (b:List Int) (fuel:Nat):g_r01_plus_L1_H N a b (g_r01_plus_L1 N a b fuel):=by
 induction fuel with
 | zero=>intro _ _ _ r h;rw [g_r01_plus_L1.eq_1] at h;cases h
 | succ fuel ih =>
  intro out carry i r h E hE
  rw [g_r01_plus_L1.eq_2] at h
  refine rnP hE 2 (kp [0,1,5,6,7,22]) (kq [0]) 225 (pc (fun hg:(qzd3 i a)=true=>(pc hg pn)) (pc (fun hg:(qzd3 i a)=true=>(pc hg (pc hg pn))) (pc (fun hq:(qzd3 i a)=true=>(pc hq pn)) (pc (fun hg:(!(cond (qzd149 i a) true (qzd149 i b)))=true=>(pc hg pn)) (pc (fun hq:(!(cond (qzd149 i a) true (qzd149 i b)))=true=>(pc hq pn)) pn))))) <| Runs.nC 0 22 h (fun hq2 h=>?_) (fun hq2 h=>?_)
  ·obtain ⟨rdigit,hr,h⟩:=bindSome h
   obtain ⟨rdigit2,hr2,h⟩:=bindSome h
   refine rnH hE 4 [(2,⟨[],true,(aI rdigit),[],0,false,none⟩),(5,⟨[],true,(aI rdigit2),[],0,false,none⟩)] qzd94 (kq [0]) 385 (pc (g_r01_digit_ok _ _ _ _ hr) (pc (g_r01_digit_ok _ _ _ _ hr2) pn)) ?_
   obtain ⟨c,h⟩:=ifSome h
   refine rnP hE 1 (kp [0,1] ++ [(5,.osl ((out ++ (qzd70 rdigit rdigit2 carry)).length))] ++ kp [7,8]) [(449,arW 449 cI 0 (out ++ (qzd70 rdigit rdigit2 carry)))] 481 (pc (show (65536:Int)≠0 by decide) (pc (Eq.refl out.length) (pc c (pc (z1 1) (pc (oN [[(aI ((w64 ((w64 (rdigit+rdigit2))+carry)).tmod 65536))]]) (pc (len_app0 out (qzd70 rdigit rdigit2 carry)) (pc (len_app0 out (qzd70 rdigit rdigit2 carry)) (pc (gA1 cI 0 out (qzd70 rdigit rdigit2 carry)) pn)))))))) <| rnP hE 0 qzd90 (kq [449]) 529 (pc (show (65536:Int)≠0 by decide) pn) <| rnZ hE 1 qzd90 (kq [449]) 577 <| rnV hE 1 qzd90 [(0,.keep 449)] 1 (ih _ _ _ _ h E hE)
  ·obtain ⟨rtrim,hr3,h⟩:=bindSome h
   refine rnH hE 2 [(1,⟨[],true,(encL cI 0 rtrim),[],0,true,none⟩)] (kp [4]) [] 273 (pc (g_r01_trim_ok _ _ _ hr3) (pc (z1 out.length) pn)) ?_
   obtain rfl:=Option.some.inj h
   exact rnU hE 0 Tryd.f35 (kp [4]) [] 273
theorem g_r01_plus_ok (N:Nat) (a:List Int) (b:List Int) (r:(List Int)) (h:g_r01_plus N a b=some r):Sound Tryd.prog 35 [(encL cI 0 a),(encL cI 0 b)] [] 0 (encL cI 0 r) []:=by
 unfold g_r01_plus at h
 refine sO Tryd.f35 43 fun E hE=>?_
 refine rnZ hE 1 (kp [0,1]) [] 16 <| rnZ hE 1 qzd96 [] 32 <| rnZ hE 1 qzd91 [] 48 <| rnZ hE 2 qzd90 [] 64 <| rnV hE 2 qzd99 [(0,.nil 1 qzd86)] 1 (g_r01_plus_L1_ok N _ _ N _ _ _ _ h E hE)
noncomputable abbrev C_62:=bt Tryd.f38
def g_r01_made_L1_H (N:Nat) (neg:Bool) (a:List Int) (K:(List Int)→Int→Option (TInt)):Prop:=∀ (x:List Int) (i:Int) (r:TInt),K x i=some r→∀ E,EnvOk E 0→Runs Tryd.prog E 38 31 (SPost E [] (qzd30 r)) [.code (C_62 116),.inLoop (C_62 116),.inBlock 0,.code (C_62 15)] ⟨[(qzd50 a),(4,(.op 0 0 0)),(5,(.op 1 0 0)),(6,(aI i))],[(0,vO 2 [(aB false),.nil]),(1,vN 2 [(aB (cond neg (qzd79 a) false)),(.os 2 0 x.length)]),(2,aO 1 (cU .u16) 0 x)],3⟩
theorem g_r01_made_L1_ok (N:Nat) (neg:Bool) (a:List Int) (fuel:Nat):g_r01_made_L1_H N neg a (g_r01_made_L1 N neg a fuel):=by
 induction fuel with
 | zero=>intro _ _ r h;rw [g_r01_made_L1.eq_1] at h;cases h
 | succ fuel ih =>
  intro x i r h E hE
  rw [g_r01_made_L1.eq_2] at h
  refine rnZ hE 2 (kp [1,4,5,6,17]) qzd131 67 <| Runs.nC 0 17 h (fun hq2 h=>?_) (fun hq2 h=>?_)
  ·obtain ⟨c,h⟩:=ifSome h
   obtain ⟨c2,h⟩:=ifSome h
   refine rnP hE 3 qzd114 (kq [0] ++ [(1,.var 1 [.keep,.osl ((x ++ (qzd72 a i)).length)]),(195,arW 195 (cU .u16) 0 (x ++ (qzd72 a i)))]) 243 (pc o1 (pc c (pc (Eq.refl x.length) (pc c2 (pc (z1 1) (pc (oN [[(.atom (.int .u16 (IntKind.u16.wrap ((a.getD ((i).toNat) 0)))))]]) (pc o1 (pc (len_app0 x (qzd72 a i)) (pc (len_app0 x (qzd72 a i)) (pc (gA1 (cU .u16) 0 x (qzd72 a i)) pn)))))))))) <| rnZ hE 1 qzd114 (kq [0,1,195]) 291 <| rnV hE 1 qzd114 (kq [0,1] ++ [(2,.keep 195)]) 3 (ih _ _ _ h E hE)
  ·refine rnP hE 2 (kp [4]) (kq [0,2]) 99 (pc o1 (pc o1 pn)) ?_
   cases h
   exact Runs.nT hE 0 Tryd.f38 [2] (kp [4]) [(16,.var 0 [.keep,slW (cU .u16) 0 x])] 99 (pc (Eq.refl x.length) (pc (z1 x.length) (pc (eZ (cU .u16) 0 x) pn))) [16] (pc o1 pn)
theorem g_r01_made_ok (N:Nat) (neg:Bool) (a:List Int) (r:TInt) (h:g_r01_made N neg a=some r):Sound Tryd.prog 38 [(aB neg),(encL cI 0 a)] [] 0 (qzd30 r) []:=by
 unfold g_r01_made at h
 refine sO Tryd.f38 31 fun E hE=>?_
 refine rnZ hE 1 qzd88 (kq [0]) 16 <| rnP hE 1 (kp [1,4,5]) (kq [0,128]) 160 (pc (fun hg:neg=true=>(pc hg pn)) (pc (fun hg:neg=true=>(pc hg pn)) (pc (fun hq:neg=true=>(pc hq pn)) (pc o1 pn)))) <| rnZ hE 2 qzd114 (kq [0,128]) 176 <| rnV hE 2 qzd114 (kq [0] ++ [(1,.var 128 [.keep,.nilos 2]),(2,.nil 1 (fun zi=>(cU .u16) (([]:List Int).getD zi 0)))]) 3 (g_r01_made_L1_ok N _ _ N _ _ _ h E hE)
noncomputable abbrev C_64:=bt Tryd.f45
def g_r01_read_L1_H (N:Nat) (l:List Int) (K:(List Int)→Int→Option qzd18):Prop:=∀ (a:List Int) (i:Int) (r:(List Int)),K a i=some r→∀ E,EnvOk E 0→Runs Tryd.prog E 45 21 (SPost E [] (encL cI 0 r)) [.code (C_64 116),.inLoop (C_64 116),.inBlock 0,.code (C_64 15)] ⟨[(0,(qzd82 l)),(3,(qzd36 a)),(4,(aI i))],[(0,aO 1 cI 0 a)],1⟩
theorem g_r01_read_L1_ok (N:Nat) (l:List Int) (fuel:Nat):g_r01_read_L1_H N l (g_r01_read_L1 N l fuel):=by
 induction fuel with
 | zero=>intro _ _ r h;rw [g_r01_read_L1.eq_1] at h;cases h
 | succ fuel ih =>
  intro a i r h E hE
  rw [g_r01_read_L1.eq_2] at h
  refine rnZ hE 2 (kp [0,3,4,8]) (kq [0]) 65 <| Runs.nC 0 8 h (fun hq2 h=>?_) (fun hq2 h=>?_)
  ·obtain ⟨c,h⟩:=ifSome h
   obtain ⟨c2,h⟩:=ifSome h
   refine rnP hE 3 (kp [0] ++ [(3,.osl ((a ++ (qzd75 l i)).length))] ++ kp [4]) [(177,arW 177 cI 0 (a ++ (qzd75 l i)))] 209 (pc c (pc (Eq.refl a.length) (pc c2 (pc (z1 1) (pc (oN [[(aI (w64 ((l.getD ((i).toNat) 0))))]]) (pc (len_app0 a (qzd75 l i)) (pc (len_app0 a (qzd75 l i)) (pc (gA1 cI 0 a (qzd75 l i)) pn)))))))) <| rnZ hE 1 qzd108 (kq [177]) 257 <| rnV hE 1 qzd108 [(0,.keep 177)] 1 (ih _ _ _ h E hE)
  ·obtain ⟨rtrim,hr,h⟩:=bindSome h
   refine rnH hE 2 [(1,⟨[],true,(encL cI 0 rtrim),[],0,true,none⟩)] (kp [2]) [] 113 (pc (g_r01_trim_ok _ _ _ hr) (pc (z1 a.length) pn)) ?_
   obtain rfl:=Option.some.inj h
   exact rnU hE 0 Tryd.f45 (kp [2]) [] 113
theorem g_r01_read_ok (N:Nat) (l:List Int) (r:(List Int)) (h:g_r01_read N l=some r):Sound Tryd.prog 45 [(qzd82 l)] [] 0 (encL cI 0 r) []:=by
 unfold g_r01_read at h
 refine sO Tryd.f45 21 fun E hE=>?_
 refine rnZ hE 1 (kp [0]) [] 16 <| rnZ hE 1 (kp [0,3]) [] 32 <| rnZ hE 2 qzd108 [] 48 <| rnV hE 2 qzd110 [(0,.nil 1 qzd86)] 1 (g_r01_read_L1_ok N _ N _ _ _ h E hE)
noncomputable abbrev C_66:=bt Tryd.f68
def g_r01_compare_L1_H (N:Nat) (a:List Int) (b:List Int) (K:Int→Option (Int)):Prop:=∀ (i:Int) (r:Int),K i=some r→∀ E,EnvOk E 0→Runs Tryd.prog E 68 41 (SPost E [] (aI r)) [.code (C_66 116),.inLoop (C_66 116),.inBlock 0,.code (C_66 15)] ⟨[(qzd48 a),(qzd50 b),(5,(aI i))],[],0⟩
theorem g_r01_compare_L1_ok (N:Nat) (a:List Int) (b:List Int) (fuel:Nat):g_r01_compare_L1_H N a b (g_r01_compare_L1 N a b fuel):=by
 induction fuel with
 | zero=>intro _ r h;rw [g_r01_compare_L1.eq_1] at h;cases h
 | succ fuel ih =>
  intro i r h E hE
  rw [g_r01_compare_L1.eq_2] at h
  refine rnZ hE 2 (kp [0,1,5,20]) [] 32 <| Runs.nC 0 20 h (fun hq3 h=>?_) (fun hq3 h=>?_)
  ·obtain ⟨c,h⟩:=ifSome h
   obtain ⟨c2,h⟩:=ifSome h
   refine rnP hE 4 (kp [0,1,5,31]) [] 176 (pc c (pc c2 pn)) <| Runs.nC 0 31 h (fun hq4 h=>?_) (fun hq4 h=>?_)
   ·refine rnP hE 1 (kp [4]) [] 336 (pc c (pc c2 pn)) ?_
    cases h
    exact rnU hE 0 Tryd.f68 (kp [4]) [] 336
   ·refine rnZ hE 2 qzd96 [] 224 <| rnV hE 1 qzd96 [] 0 (ih _ _ h E hE)
  ·refine rnZ hE 2 (kp [4]) [] 48 ?_
   cases h
   exact rnU hE 0 Tryd.f68 (kp [4]) [] 48
theorem g_r01_compare_ok (N:Nat) (a:List Int) (b:List Int) (r:Int) (h:g_r01_compare N a b=some r):Sound Tryd.prog 68 [(encL cI 0 a),(encL cI 0 b)] [] 0 (aI r) []:=by
 unfold g_r01_compare at h
 refine sO Tryd.f68 41 fun E hE=>?_
 refine rnZ hE 1 (kp [0,1]) [] 16 <| rnZ hE 2 (kp [0,1,10]) [] 96 <| Runs.nC 0 10 h (fun hq2 h=>?_) (fun hq2 h=>?_)
 ·refine rnZ hE 1 (kp [4]) [] 192 ?_
  cases h
  exact rnU hE 0 Tryd.f68 (kp [4]) [] 192
 ·refine rnZ hE 3 qzd96 [] 160 <| rnV hE 2 qzd96 [] 0 (g_r01_compare_L1_ok N _ _ N _ _ h E hE)
noncomputable abbrev C_67:=bt Tryd.f69
def g_r01_minus_L1_H (N:Nat) (a:List Int) (b:List Int) (K:(List Int)→Int→Int→Option qzd18):Prop:=∀ (out:List Int) (borrow:Int) (i:Int) (r:(List Int)),K out borrow i=some r→∀ E,EnvOk E 0→Runs Tryd.prog E 69 35 (SPost E [] (encL cI 0 r)) [.code (C_67 244),.inLoop (C_67 244),.inBlock 0,.code (C_67 31)] ⟨[(qzd48 a),(qzd50 b),(5,(qzd36 out)),(6,(aI borrow)),(7,(aI i))],[(0,aO 1 cI 0 out)],1⟩
def g_r01_minus_J2_H (N:Nat) (a:List Int) (b:List Int) (out:List Int) (i:Int) (K:Int→Int→Option qzd18):Prop:=∀ (borrow2:Int) (s:Int) (r:(List Int)),K borrow2 s=some r→∀ E,EnvOk E 0→Runs Tryd.prog E 69 35 (SPost E [] (encL cI 0 r)) [.code (C_67 15655),.inBlock 1,.code (C_67 979),.inLoop (C_67 244),.inBlock 0,.code (C_67 31)] ⟨[(qzd48 a),(qzd50 b),(5,(qzd36 out)),(6,(aI borrow2)),(7,(aI i)),(8,(aI s))],[(0,aO 1 cI 0 out)],1⟩
theorem g_r01_minus_J2_ok (N:Nat) (a:List Int) (b:List Int) (out:List Int) (i:Int) (K_g_r01_minus_L1:(List Int)→Int→Int→Option qzd18) (hK_g_r01_minus_L1:g_r01_minus_L1_H N a b K_g_r01_minus_L1):g_r01_minus_J2_H N a b out i (g_r01_minus_J2 N a b out i K_g_r01_minus_L1):=by
 intro borrow2 s r h E hE
 unfold g_r01_minus_J2 at h
 obtain ⟨c2,h⟩:=ifSome h
 refine rnP hE 0 (kp [0,1] ++ [(5,.osl ((out ++ ([s]:List Int)).length))] ++ kp [6,7]) [(49,arW 49 cI 0 (out ++ ([s]:List Int)))] 81 (pc (Eq.refl out.length) (pc c2 (pc (z1 1) (pc (oN [[(aI s)]]) (pc (len_app0 out ([s]:List Int)) (pc (len_app0 out ([s]:List Int)) (pc (gA1 cI 0 out ([s]:List Int)) pn))))))) <| rnZ hE 1 qzd90 (kq [49]) 129 <| rnV hE 1 qzd90 [(0,.keep 49)] 1 (hK_g_r01_minus_L1 _ _ _ _ h E hE)
theorem g_r01_minus_L1_ok (N:Nat) (a:List Int) (b:List Int) (fuel:Nat):g_r01_minus_L1_H N a b (g_r01_minus_L1 N a b fuel):=by
 induction fuel with
 | zero=>intro _ _ _ r h;rw [g_r01_minus_L1.eq_1] at h;cases h
 | succ fuel ih =>
  intro out borrow i r h E hE
  rw [g_r01_minus_L1.eq_2] at h
  refine rnZ hE 2 (kp [0,1,5,6,7,12]) (kq [0]) 65 <| Runs.nC 0 12 h (fun hq2 h=>?_) (fun hq2 h=>?_)
  ·obtain ⟨c,h⟩:=ifSome h
   obtain ⟨rdigit,hr,h⟩:=bindSome h
   refine rnH hE 4 [(6,⟨[],true,(aI rdigit),[],0,false,none⟩)] qzd94 (kq [0]) 241 (pc c (pc (g_r01_digit_ok _ _ _ _ hr) pn)) <| rnZ hE 1 qzd89 (kq [0]) 257 <| rnZ hE 2 (kp [0,1,5,6,7,8,26]) (kq [0]) 289 <| Runs.nC 0 26 h (fun hq3 h=>?_) (fun hq3 h=>?_)
   ·refine rnZ hE 1 qzd94 (kq [0]) 337 <| rnZ hE 0 qzd89 (kq [0]) 353 <| rnV hE 0 qzd89 (kq [0]) 1 (g_r01_minus_J2_ok N _ _ _ _ _ ih _ _ _ h E hE)
   ·exact rnV hE 1 qzd89 (kq [0]) 1 (g_r01_minus_J2_ok N _ _ _ _ _ ih _ _ _ h E hE)
  ·obtain ⟨rtrim,hr2,h⟩:=bindSome h
   refine rnH hE 2 [(1,⟨[],true,(encL cI 0 rtrim),[],0,true,none⟩)] (kp [4]) [] 113 (pc (g_r01_trim_ok _ _ _ hr2) (pc (z1 out.length) pn)) ?_
   obtain rfl:=Option.some.inj h
   exact rnU hE 0 Tryd.f69 (kp [4]) [] 113
theorem g_r01_minus_ok (N:Nat) (a:List Int) (b:List Int) (r:(List Int)) (h:g_r01_minus N a b=some r):Sound Tryd.prog 69 [(encL cI 0 a),(encL cI 0 b)] [] 0 (encL cI 0 r) []:=by
 unfold g_r01_minus at h
 refine sO Tryd.f69 35 fun E hE=>?_
 refine rnZ hE 1 (kp [0,1]) [] 16 <| rnZ hE 1 qzd96 [] 32 <| rnZ hE 1 qzd91 [] 48 <| rnZ hE 2 qzd90 [] 64 <| rnV hE 2 qzd99 [(0,.nil 1 qzd86)] 1 (g_r01_minus_L1_ok N _ _ N _ _ _ _ h E hE)
noncomputable abbrev C_65:=bt Tryd.f46
def g_r01_over_L1_H (N:Nat) (a:List Int) (b:List Int) (K:(List Int)→(List Int)→Int→Option qzd17):Prop:=∀ (rest:List Int) (q:List Int) (i:Int) (r:(List Int)×(List Int)),K rest q i=some r→∀ E,EnvOk E 0→Runs Tryd.prog E 46 63 (SPost E [] (qzd47 r)) [.code (C_65 244),.inLoop (C_65 244),.inBlock 0,.code (C_65 31)] ⟨[(qzd48 a),(qzd50 b),(6,(encL cI 0 rest)),(7,(qzd36 q)),(8,(aI i))],[(0,aO 1 cI 0 q)],1⟩
def g_r01_over_L2_H (N:Nat) (a:List Int) (b:List Int) (q:List Int) (i:Int) (rtrim:(List Int)) (K:Int→Int→Option qzd17):Prop:=∀ (lo:Int) (hi:Int) (r:(List Int)×(List Int)),K lo hi=some r→∀ E,EnvOk E 0→Runs Tryd.prog E 46 63 (SPost E [] (qzd47 r)) [.code (C_65 62616),.inLoop (C_65 62616),.inBlock 2,.code (C_65 15655),.inBlock 1,.code (C_65 979),.inLoop (C_65 244),.inBlock 0,.code (C_65 31)] ⟨[(qzd48 a),(qzd50 b),(6,(encL cI 0 rtrim)),(7,(qzd36 q)),(8,(aI i)),(9,(aI lo)),(10,(aI hi))],[(0,aO 1 cI 0 q)],1⟩
def g_r01_over_J3_H (N:Nat) (a:List Int) (b:List Int) (q:List Int) (i:Int) (lo:Int) (K:(List Int)→Option qzd17):Prop:=∀ (rest2:List Int) (r:(List Int)×(List Int)),K rest2=some r→∀ E,EnvOk E 0→Runs Tryd.prog E 46 63 (SPost E [] (qzd47 r)) [.code (C_65 979),.inLoop (C_65 244),.inBlock 0,.code (C_65 31)] ⟨[(qzd48 a),(qzd50 b),(6,(encL cI 0 rest2)),(7,(.os 0 0 ((q.set ((i).toNat) lo).length))),(8,(aI i))],[(0,aO 1 cI 0 (q.set ((i).toNat) lo))],1⟩
theorem g_r01_over_J3_ok (N:Nat) (a:List Int) (b:List Int) (q:List Int) (i:Int) (lo:Int) (K_g_r01_over_L1:(List Int)→(List Int)→Int→Option qzd17) (hK_g_r01_over_L1:g_r01_over_L1_H N a b K_g_r01_over_L1):g_r01_over_J3_H N a b q i lo (g_r01_over_J3 N a b q i lo K_g_r01_over_L1):=by
 intro rest2 r h E hE
 unfold g_r01_over_J3 at h
 refine rnZ hE 0 qzd98 (kq [0]) 49 <| rnV hE 1 qzd98 (kq [0]) 1 (hK_g_r01_over_L1 _ _ _ _ h E hE)
theorem g_r01_over_L2_ok (N:Nat) (a:List Int) (b:List Int) (q:List Int) (i:Int) (rtrim:(List Int)) (K_g_r01_over_L1:(List Int)→(List Int)→Int→Option qzd17) (hK_g_r01_over_L1:g_r01_over_L1_H N a b K_g_r01_over_L1) (fuel:Nat):g_r01_over_L2_H N a b q i rtrim (g_r01_over_L2 N a b q i rtrim K_g_r01_over_L1 fuel):=by
 induction fuel with
 | zero=>intro _ _ r h;rw [g_r01_over_L2.eq_1] at h;cases h
 | succ fuel ih =>
  intro lo hi r h E hE
  rw [g_r01_over_L2.eq_2] at h
  refine rnZ hE 2 (kp [0,1,6,7,8,9,10,32]) (kq [0]) 49 <| Runs.nC 0 32 h (fun hq3 h=>?_) (fun hq3 h=>?_)
  ·refine rnP hE 3 (kp [0,1,6,7,8,9,10,11]) (kq [0]) 145 (pc (show (2:Int)≠0 by decide) pn) ?_
   obtain ⟨rtimes,hr2,h⟩:=bindSome h
   obtain ⟨rcompare,hr3,h⟩:=bindSome h
   refine rnH hE 1 [(3,⟨[],true,(encL cI 0 rtimes),[],0,true,none⟩),(5,⟨[],true,(aI rcompare),[],0,false,none⟩)] (kp [0,1,6,7,8,9,10,11,44]) (kq [0]) 257 (pc (show Sound Tryd.prog 36 [(encL cI 0 b),(.sl 1 (fun zi=>(fun zi=>([[(aI (w64 ((w64 ((w64 (lo+hi))+1)).tdiv 2)))]]:List (List AV)).getD zi []) (addz 0 zi)))] [] 0 (encL cI 0 rtimes) [] from (Sound.conv (g_r01_times_ok _ _ _ _ hr2) (.cons (Alike.refl _) (.cons (Alike.sl rfl (get_chunk cI 0 ([(w64 ((w64 ((w64 (lo+hi))+1)).tdiv 2))]:List Int))) .nil)))) (pc (z1 1) (pc (g_r01_compare_ok _ _ _ _ hr3) pn))) <| Runs.nC 0 44 h (fun hq4 h=>?_) (fun hq4 h=>?_)
   ·refine rnZ hE 0 qzd97 (kq [0]) 289 <| rnV hE 2 qzd97 (kq [0]) 1 (ih _ _ _ h E hE)
   ·refine rnZ hE 0 qzd97 (kq [0]) 305 <| rnV hE 2 qzd97 (kq [0]) 1 (ih _ _ _ h E hE)
  ·obtain ⟨c4,h⟩:=ifSome h
   refine rnP hE 2 (kp [0,1,6] ++ [(7,.osl ((q.set ((i).toNat) lo).length))] ++ kp [8,9]) [(0,arW 0 cI 0 (q.set ((i).toNat) lo))] 129 (pc c4 (pc (ltOf c4) (pc (len_set0 q ((i).toNat) lo) (pc (len_set0 q ((i).toNat) lo) (pc (get_set0 cI 0 q ((i).toNat) lo) pn))))) <| rnZ hE 1 (kp [0,1,6,7,8,9,53]) (kq [0]) 161 <| Runs.nC 0 53 h (fun hq5 h=>?_) (fun hq5 h=>?_)
   ·obtain ⟨rtimes2,hr4,h⟩:=bindSome h
    obtain ⟨rminus,hr5,h⟩:=bindSome h
    refine rnH hE 0 [(4,⟨[],true,(encL cI 0 rtimes2),[],0,true,none⟩),(5,⟨[],true,(encL cI 0 rminus),[],0,false,none⟩)] qzd98 (kq [0]) 273 (pc (show Sound Tryd.prog 36 [(encL cI 0 b),(.sl 1 (fun zi=>(fun zi=>([[(aI lo)]]:List (List AV)).getD zi []) (addz 0 zi)))] [] 0 (encL cI 0 rtimes2) [] from (Sound.conv (g_r01_times_ok _ _ _ _ hr4) (.cons (Alike.refl _) (.cons (Alike.sl rfl (get_chunk cI 0 ([lo]:List Int))) .nil)))) (pc (z1 1) (pc (g_r01_minus_ok _ _ _ _ hr5) pn))) <| rnV hE 1 qzd98 (kq [0]) 1 (g_r01_over_J3_ok N _ _ _ _ _ _ hK_g_r01_over_L1 _ _ h E hE)
   ·exact rnV hE 2 qzd98 (kq [0]) 1 (g_r01_over_J3_ok N _ _ _ _ _ _ hK_g_r01_over_L1 _ _ h E hE)
theorem g_r01_over_L1_ok (N:Nat) (a:List Int) (b:List Int) (fuel:Nat):g_r01_over_L1_H N a b (g_r01_over_L1 N a b fuel):=by
 induction fuel with
 | zero=>intro _ _ _ r h;rw [g_r01_over_L1.eq_1] at h;cases h
 | succ fuel ih =>
  intro rest q i r h E hE
  rw [g_r01_over_L1.eq_2] at h
  refine rnZ hE 2 (kp [0,1,6,7,8,19]) (kq [0]) 33 <| Runs.nC 0 19 h (fun hq2 h=>?_) (fun hq2 h=>?_)
  ·obtain ⟨c2,h⟩:=ifSome h
   obtain ⟨c3,h⟩:=ifSome h
   obtain ⟨rtrim,hr,h⟩:=bindSome h
   refine rnH hE 4 [(7,⟨[],true,(encL cI 0 rtrim),[],0,true,none⟩)] qzd98 (kq [0]) 177 (pc c2 (pc (Eq.refl 1) (pc c3 (pc (show ∀ zi,zi < rest.length→AV.oneL ((fun zi=>cI (rest.getD zi 0)) zi)=true from (fun _ _=>rfl)) (pc (show Sound Tryd.prog 37 [(.sl (1+rest.length) (fun zi=>((fun zm=>if zm < 1 then (fun zi=>([[(aI (qzd157 a i))]]:List (List AV)).getD zi []) zm else (fun zi=>cI (rest.getD zi 0)) (zm - 1))) (addz 0 zi)))] [] 0 (encL cI 0 rtrim) [] from (Sound.conv (g_r01_trim_ok _ _ _ hr) (.cons (Alike.sl (len_app_raw rfl rfl) (get_app_raw cI 0 ([(qzd157 a i)]:List Int) rest rfl (get_chunk cI 0 ([(qzd157 a i)]:List Int)) (eR cI 0 rest))) .nil))) (pc (z1 (1+rest.length)) pn)))))) <| rnZ hE 1 qzd97 (kq [0]) 209 <| rnV hE 3 qzd97 (kq [0]) 1 (g_r01_over_L2_ok N _ _ _ _ _ _ ih N _ _ _ h E hE)
  ·obtain ⟨rtrim2,hr6,h⟩:=bindSome h
   refine rnH hE 2 [(1,⟨[],true,(encL cI 0 rtrim2),[],0,true,none⟩)] (kp [4,5]) [] 113 (pc (g_r01_trim_ok _ _ _ hr6) (pc (z1 q.length) pn)) ?_
   cases h
   exact rnU hE 0 Tryd.f46 (kp [4,5]) [] 113
theorem g_r01_over_ok (N:Nat) (a:List Int) (b:List Int) (r:(List Int)×(List Int)) (h:g_r01_over N a b=some r):Sound Tryd.prog 46 [(encL cI 0 a),(encL cI 0 b)] [] 0 (qzd47 r) []:=by
 unfold g_r01_over at h
 refine sO Tryd.f46 63 fun E hE=>?_
 refine rnZ hE 1 (kp [0,1]) [] 32 <| rnZ hE 1 (kp [0,1,6]) [] 48 ?_
 obtain ⟨c,h⟩:=ifSome h
 refine rnP hE 1 (kp [0,1,6] ++ [(7,.osl (qzd19 a))]) [(80,arW 80 cI 0 (qzd146 a))] 112 (pc c.1 (pc (Int.le_refl (qzd140 a)) (pc c.2.1 (pc c.2.2 (pc (lR a.length (0:Int)) (pc (lR a.length (0:Int)) (pc (get_rep cI 0 0 a.length) pn))))))) <| rnZ hE 2 qzd98 (kq [80]) 176 <| Runs.nW hE 2 [] (kp [0,1] ++ [(6,slW cI 0 ([]:List Int))] ++ kp [7,8]) [(0,.keep 80)] 1 (pc (Eq.refl 0) pn) (g_r01_over_L1_ok N _ _ N _ _ _ _ h E hE)
noncomputable abbrev C_63:=bt Tryd.f12
def g_r01_Format_L1_H (N:Nat) (a:TInt) (K:(List Int)→ByteArray→Option (ByteArray)):Prop:=∀ (n:List Int) (s:ByteArray) (r:ByteArray),K n s=some r→∀ E,EnvOk E 0→Runs Tryd.prog E 12 35 (SPost E [] (aS r)) [.code (C_63 120),.inLoop (C_63 120),.inBlock 0,.code (C_63 31)] ⟨[(1,(.op 0 0 0)),(3,(encL cI 0 n)),(4,(aS s))],[(qzd49 a)],1⟩
theorem g_r01_Format_L1_ok (N:Nat) (a:TInt) (fuel:Nat):g_r01_Format_L1_H N a (g_r01_Format_L1 N a fuel):=by
 induction fuel with
 | zero=>intro _ _ r h;rw [g_r01_Format_L1.eq_1] at h;cases h
 | succ fuel ih =>
  intro n s r h E hE
  rw [g_r01_Format_L1.eq_2] at h
  refine rnZ hE 2 (kp [1,3,4,12]) (kq [0]) 49 <| Runs.nC 0 12 h (fun hq2 h=>?_) (fun hq2 h=>?_)
  ·obtain ⟨rover,hr2,h⟩:=bindSome h
   refine rnH hE 3 [(2,⟨[],true,(qzd47 rover),[],0,true,none⟩)] qzd114 (kq [0]) 177 (pc (show Sound Tryd.prog 46 [(encL cI 0 n),(.sl 1 qzd85)] [] 0 (qzd47 rover) [] from (Sound.conv (g_r01_over_ok _ _ _ _ hr2) (.cons (Alike.refl _) (.cons (Alike.sl rfl (get_chunk cI 0 ([10]:List Int))) .nil)))) (pc (z1 1) pn)) ?_
   obtain ⟨rdigit,hr3,h⟩:=bindSome h
   obtain ⟨rdigit2,hr4,h⟩:=bindSome h
   obtain ⟨c,h⟩:=ifSome h
   obtain ⟨c2,h⟩:=ifSome h
   obtain ⟨c3,h⟩:=ifSome h
   obtain ⟨c4,h⟩:=ifSome h
   refine rnH hE 1 [(1,⟨[],true,(aI rdigit),[],0,false,none⟩),(3,⟨[],true,(aI rdigit2),[],0,false,none⟩)] (kp [1,4,5]) (kq [0]) 321 (pc (g_r01_digit_ok _ _ _ _ hr3) (pc (g_r01_digit_ok _ _ _ _ hr4) (pc c (pc c2 (pc c3 (pc c4 pn)))))) <| rnZ hE 0 qzd113 (kq [0]) 353 <| rnV hE 2 qzd113 (kq [0]) 1 (ih _ _ _ h E hE)
  ·refine rnZ hE 3 (kp [1,4,29]) (kq [0]) 81 <| Runs.nC 0 29 h (fun hq3 h=>?_) (fun hq3 h=>?_)
   ·refine rnZ hE 1 (kp [2]) [] 97 ?_
    cases h
    exact rnU hE 0 Tryd.f12 (kp [2]) [] 97
   ·refine rnP hE 3 (kp [4,31]) [] 113 (pc o1 pn) <| Runs.nC 0 31 h (fun hq4 h=>?_) (fun hq4 h=>?_)
    ·obtain ⟨c5,h⟩:=ifSome h
     refine rnP hE 1 (kp [2]) [] 161 (pc c5 pn) ?_
     cases h
     exact rnU hE 0 Tryd.f12 (kp [2]) [] 161
    ·refine rnZ hE 2 (kp [2]) [] 145 ?_
     obtain rfl:=Option.some.inj h
     exact rnU hE 0 Tryd.f12 (kp [2]) [] 145
theorem g_r01_Format_ok (N:Nat) (a:TInt) (r:ByteArray) (h:g_r01_Format N a=some r):Sound Tryd.prog 12 [(qzd30 a)] [] 0 (aS r) []:=by
 unfold g_r01_Format at h
 refine sO Tryd.f12 35 fun E hE=>?_
 refine rnZ hE 1 (kp [1]) (kq [0]) 32 ?_
 obtain ⟨rread,hr,h⟩:=bindSome h
 refine rnH hE 1 [(2,⟨[],true,(encL cI 0 rread),[],0,false,none⟩)] (kp [1,3]) (kq [0]) 96 (pc o1 (pc (g_r01_read_ok _ _ _ hr) pn)) <| rnZ hE 1 qzd113 (kq [0]) 112 <| rnV hE 3 qzd113 (kq [0]) 1 (g_r01_Format_L1_ok N _ N _ _ _ h E hE)
noncomputable abbrev C_57:=bt Tryd.f9
def g_r01_Parse_L1_H (N:Nat) (s:ByteArray) (K:(List Int)→Int→Option qzd68):Prop:=∀ (n:List Int) (i:Int) (r:TInt×Int),K n i=some r→∀ E,EnvOk E 0→Runs Tryd.prog E 9 62 (SPost E [] (qzd40 r)) [.code (C_57 500),.inLoop (C_57 500),.inBlock 0,.code (C_57 63)] ⟨[(0,(aS s)),(2,(.op 0 0 0)),(4,(encL cI 0 n)),(qzd52 s),(6,(aI i))],[(0,vO 2 [(aB false),.nil])],1⟩
def g_r01_Parse_J2_H (N:Nat) (s:ByteArray) (i:Int) (K:(List Int)→Option qzd68):Prop:=∀ (n2:List Int) (r:TInt×Int),K n2=some r→∀ E,EnvOk E 0→Runs Tryd.prog E 9 62 (SPost E [] (qzd40 r)) [.code (C_57 2003),.inLoop (C_57 500),.inBlock 0,.code (C_57 63)] ⟨[(0,(aS s)),(2,(.op 0 0 0)),(4,(encL cI 0 n2)),(qzd52 s),(6,(aI i))],[(0,vO 2 [(aB false),.nil])],1⟩
theorem g_r01_Parse_J2_ok (N:Nat) (s:ByteArray) (i:Int) (K_g_r01_Parse_L1:(List Int)→Int→Option qzd68) (hK_g_r01_Parse_L1:g_r01_Parse_L1_H N s K_g_r01_Parse_L1):g_r01_Parse_J2_H N s i (g_r01_Parse_J2 N s i K_g_r01_Parse_L1):=by
 intro n2 r h E hE
 unfold g_r01_Parse_J2 at h
 refine rnZ hE 0 qzd103 (kq [0]) 49 <| rnV hE 1 qzd103 (kq [0]) 1 (hK_g_r01_Parse_L1 _ _ _ h E hE)
theorem g_r01_Parse_L1_ok (N:Nat) (s:ByteArray) (fuel:Nat):g_r01_Parse_L1_H N s (g_r01_Parse_L1 N s fuel):=by
 induction fuel with
 | zero=>intro _ _ r h;rw [g_r01_Parse_L1.eq_1] at h;cases h
 | succ fuel ih =>
  intro n i r h E hE
  rw [g_r01_Parse_L1.eq_2] at h
  refine rnZ hE 2 (kp [0,2,4,5,6,23]) (kq [0]) 65 <| Runs.nC 0 23 h (fun hq3 h=>?_) (fun hq3 h=>?_)
  ·refine rnP hE 5 (kp [0,2,4,5,6,30]) (kq [0]) 145 (pc (fun hq:(i == 0)=true=>(pc hq pn)) pn) <| Runs.nC 0 30 h (fun hq4 h=>?_) (fun hq4 h=>?_)
   ·exact rnV hE 1 qzd103 (kq [0]) 1 (g_r01_Parse_J2_ok N _ _ _ ih _ _ h E hE)
   ·obtain ⟨c2,h⟩:=ifSome h
    obtain ⟨c3,h⟩:=ifSome h
    refine rnP hE 3 (kp [0,2,4,5,6,40]) (kq [0]) 305 (pc c2 (pc (fun hg:(qzd5 s i)=true=>(pc hg (pc hg (pc (c3 hg) pn)))) (pc (fun hg:(qzd5 s i)=true=>(pc hg pn)) (pc (fun hq:(qzd5 s i)=true=>(pc hq pn)) pn)))) <| Runs.nC 0 40 h (fun hq5 h=>?_) (fun hq5 h=>?_)
    ·refine rnP hE 1 (kp [2,3]) (kq [0]) 353 (pc o1 pn) ?_
     cases h
     exact Runs.nT hE 0 Tryd.f9 [] (kp [2,3]) [(16,.var 0 [.keep,slW (cU .u16) 0 ([]:List Int)])] 353 (pc (Eq.refl 0) pn) [16] (pc o1 pn)
    ·obtain ⟨rtimes,hr,h⟩:=bindSome h
     obtain ⟨rtrim,hr2,h⟩:=bindSome h
     obtain ⟨rplus,hr3,h⟩:=bindSome h
     refine rnH hE 1 [(2,⟨[],true,(encL cI 0 rtimes),[],0,true,none⟩),(9,⟨[],true,(encL cI 0 rtrim),[],0,true,none⟩),(10,⟨[],true,(encL cI 0 rplus),[],0,false,none⟩)] qzd103 (kq [0]) 497 (pc (show Sound Tryd.prog 36 [(encL cI 0 n),(.sl 1 qzd85)] [] 0 (encL cI 0 rtimes) [] from (Sound.conv (g_r01_times_ok _ _ _ _ hr) (.cons (Alike.refl _) (.cons (Alike.sl rfl (get_chunk cI 0 ([10]:List Int))) .nil)))) (pc (z1 1) (pc c2 (pc (show Sound Tryd.prog 37 [(qzd38 s i)] [] 0 (encL cI 0 rtrim) [] from (Sound.conv (g_r01_trim_ok _ _ _ hr2) (.cons (Alike.sl rfl (get_chunk cI 0 ([(qzd155 s i)]:List Int))) .nil))) (pc (z1 1) (pc (g_r01_plus_ok _ _ _ _ hr3) pn)))))) <| rnV hE 1 qzd103 (kq [0]) 1 (g_r01_Parse_J2_ok N _ _ _ ih _ _ h E hE)
  ·obtain ⟨rmade,hr4,h⟩:=bindSome h
   refine rnH hE 3 [(2,⟨[],true,(qzd30 rmade),[],0,false,none⟩)] (kp [0,2,7]) (kq [0,113]) 145 (pc (g_r01_made_ok _ _ _ _ hr4) (pc o1 pn)) ?_
   obtain ⟨rFormat,hr5,h⟩:=bindSome h
   refine rnH hE 1 [(1,⟨[],true,(aS rFormat),[],0,false,none⟩)] (kp [2,7,59]) (kq [0,113]) 209 (pc o1 (pc (g_r01_Format_ok _ _ _ hr5) pn)) <| Runs.nC 0 59 h (fun hq6 h=>?_) (fun hq6 h=>?_)
   ·refine rnP hE 1 (kp [2,3]) (kq [0]) 257 (pc o1 (pc o1 pn)) ?_
    cases h
    exact Runs.nT hE 0 Tryd.f9 [] (kp [2,3]) [(16,.keep 0)] 257 pn [16] (pc o1 pn)
   ·refine rnP hE 2 (kp [2,3]) (kq [0]) 257 (pc o1 pn) ?_
    cases h
    exact Runs.nT hE 0 Tryd.f9 [] (kp [2,3]) [(16,.var 0 [.keep,slW (cU .u16) 0 ([]:List Int)])] 257 (pc (Eq.refl 0) pn) [16] (pc o1 pn)
theorem g_r01_Parse_ok (N:Nat) (s:ByteArray) (r:TInt×Int) (h:g_r01_Parse N s=some r):Sound Tryd.prog 9 [(aS s)] [] 0 (qzd40 r) []:=by
 unfold g_r01_Parse at h
 refine sO Tryd.f9 62 fun E hE=>?_
 refine rnZ hE 1 (kp [0,2]) (kq [0]) 32 <| rnZ hE 2 (kp [0,2,10]) (kq [0]) 80 <| Runs.nC 0 10 h (fun hq2 h=>?_) (fun hq2 h=>?_)
 ·refine rnP hE 1 (kp [2,3]) (kq [0]) 128 (pc o1 pn) ?_
  cases h
  exact Runs.nT hE 0 Tryd.f9 [] (kp [2,3]) [(16,.var 0 [.keep,slW (cU .u16) 0 ([]:List Int)])] 128 (pc (Eq.refl 0) pn) [16] (pc o1 pn)
 ·refine rnZ hE 2 qzd105 (kq [0]) 96 ?_
  obtain ⟨c,h⟩:=ifSome h
  refine rnP hE 1 qzd104 (kq [0]) 240 (pc (fun hg:(qzd80 s)=true=>(pc hg (pc (c hg) pn))) (pc (fun hg:(qzd80 s)=true=>(pc hg pn)) (pc (fun hq:(qzd80 s)=true=>(pc hq pn)) pn))) <| rnZ hE 2 qzd103 (kq [0]) 256 <| Runs.nW hE 2 [] (kp [0,2] ++ [(4,slW cI 0 ([]:List Int))] ++ kp [5,6]) (kq [0]) 1 (pc (Eq.refl 0) pn) (g_r01_Parse_L1_ok N _ N _ _ _ h E hE)
theorem g_internal_stringslite_IndexByte_calls (s:ByteArray) (c:Int) (w:World):Calls Tryd.prog 92 #[.string s,.int .u8 c] w fun e w'=>e=.returned (.int .i64 (Lib.indexByte s.data.toList c.toNat.toUInt8))∧w'=w:=by
 go_enter Tryd.func92,(show Tryd.f92.ntmps=8 by kernel_rfl)
 go_wp2
 rw [run_callFunc_extern (show Tryd.prog.funcs[99]?=some Tryd.f99 by kernel_rfl) (by kernel_rfl) (by kernel_rfl) (by kernel_rfl) (e:=Extern.BytealgIndexByte.indexByte) (by kernel_rfl),Lib.run_indexByteString]
 simp only [Result.andThen]
 rw [Oper.upon_value]
 go_wp2
 go_ret
 exact ⟨rfl,rfl⟩
theorem g_internal_stringslite_IndexByte_ok (N:Nat) (s:ByteArray) (c:Int) (r:Int) (h:g_internal_stringslite_IndexByte N s c=some r):Sound Tryd.prog 92 [(aS s),(.atom (.int .u8 c))] [] 0 (aI r) []:=by
 obtain rfl:=Option.some.inj h
 intro w S μ vs g hk hl
 obtain ⟨h1,h2⟩:=hl
 have e:vs=#[.string s,.int .u8 c]:=by
  match vs,h1 with
  | ⟨[a,b]⟩,_ =>
   have a1:=h2 0 (aS s) a rfl rfl
   have a2:=h2 1 (.atom (.int .u8 c)) b rfl rfl
   cases a1;cases a2;rfl
 subst e
 refine (g_internal_stringslite_IndexByte_calls s c w).mono ?_
 rintro e w' ⟨rfl,rfl⟩
 exact ⟨_,S,μ,rfl,g,.atom _⟩
theorem g_internal_stringslite_Index_ok (N:Nat) (s:ByteArray) (substr:ByteArray) (r:Int) (h:g_internal_stringslite_Index N s substr=some r):Sound Tryd.prog 86 [(aS s),(aS substr)] [] 0 (aI r) []:=by
 unfold g_internal_stringslite_Index at h
 refine sO Tryd.f86 143 fun E hE=>?_
 refine rnZ hE 1 (kp [0,1]) [] 16 <| rnZ hE 1 qzd96 [] 64 <| rnP hE 3 (kp [0,1,5,16]) [] 192 (pc (fun hg:(!((qzd15 substr) == 0))=true=>(pc hg (pc hg pn))) (pc (fun hq:(!((qzd15 substr) == 0))=true=>(pc hq pn)) pn)) <| Runs.nC 0 16 h (fun hq2 h=>?_) (fun hq2 h=>?_)
 ·refine rnZ hE 1 (kp [4]) [] 208 ?_
  cases h
  exact rnU hE 0 Tryd.f86 (kp [4]) [] 208
 ·refine rnZ hE 1 (kp [0,1,5,24]) [] 240 <| Runs.nC 0 24 h (fun hq3 h=>?_) (fun hq3 h=>?_)
  ·obtain ⟨c,h⟩:=ifSome h
   obtain ⟨rIndexByte,hr,h⟩:=bindSome h
   refine rnH hE 1 [(3,⟨[],true,(aI rIndexByte),[],0,false,none⟩)] (kp [4]) [] 320 (pc c (pc (g_internal_stringslite_IndexByte_ok _ _ _ _ hr) pn)) ?_
   obtain rfl:=Option.some.inj h
   exact rnU hE 0 Tryd.f86 (kp [4]) [] 320
  ·refine rnZ hE 1 (kp [0,1,5,31]) [] 320 <| Runs.nC 0 31 h (fun hq4 h=>?_) (fun hq4 h=>?_)
   ·refine rnZ hE 1 (kp [4]) [] 336 ?_
    cases h
    exact rnU hE 0 Tryd.f86 (kp [4]) [] 336
   ·cases h
theorem g_internal_stringslite_Cut_ok (N:Nat) (s:ByteArray) (sep:ByteArray) (r:ByteArray×ByteArray×Bool) (h:g_internal_stringslite_Cut N s sep=some r):Sound Tryd.prog 64 [(aS s),(aS sep)] [] 0 (qzd44 r) []:=by
 unfold g_internal_stringslite_Cut at h
 refine sO Tryd.f64 23 fun E hE=>?_
 refine rnZ hE 1 (kp [0,1]) [] 48 ?_
 obtain ⟨rIndex,hr,h⟩:=bindSome h
 refine rnH hE 2 [(2,⟨[],true,(aI rIndex),[],0,false,none⟩)] (kp [0,1,7]) [] 112 (pc (g_internal_stringslite_Index_ok _ _ _ _ hr) pn) <| rnZ hE 1 (kp [0,1,7,12]) [] 144 <| Runs.nC 0 12 h (fun hq2 h=>?_) (fun hq2 h=>?_)
 ·obtain ⟨c,h⟩:=ifSome h
  obtain ⟨c2,h⟩:=ifSome h
  obtain ⟨c3,h⟩:=ifSome h
  obtain ⟨c4,h⟩:=ifSome h
  refine rnP hE 1 qzd128 [] 336 (pc c (pc c2 (pc c3 (pc c4 pn)))) ?_
  cases h
  exact rnU hE 0 Tryd.f64 qzd128 [] 336
 ·refine rnZ hE 2 qzd128 [] 208 ?_
  cases h
  exact rnU hE 0 Tryd.f64 qzd128 [] 208
theorem g_strings_Cut_ok (N:Nat) (s:ByteArray) (sep:ByteArray) (r:ByteArray×ByteArray×Bool) (h:g_strings_Cut N s sep=some r):Sound Tryd.prog 39 [(aS s),(aS sep)] [] 0 (qzd44 r) []:=by
 unfold g_strings_Cut at h
 refine sO Tryd.f39 13 fun E hE=>?_
 refine rnZ hE 1 (kp [0,1]) [] 48 ?_
 obtain ⟨rCut,hr,h⟩:=bindSome h
 refine rnH hE 1 [(2,⟨[],true,(qzd44 rCut),[],0,false,none⟩)] qzd128 [] 192 (pc (g_internal_stringslite_Cut_ok _ _ _ _ hr) pn) ?_
 cases h
 exact rnU hE 0 Tryd.f39 qzd128 [] 192
noncomputable abbrev C_73:=bt Tryd.f40
def g_e_whole_L1_H (N:Nat) (rCutPrefix:ByteArray×Bool) (K:(List Int)→Int→Option qzd68):Prop:=∀ (n:List Int) (x:Int) (r:TInt×Int),K n x=some r→∀ E,EnvOk E 0→Runs Tryd.prog E 40 42 (SPost E [] (qzd40 r)) [.code (C_73 244),.inLoop (C_73 244),.inBlock 0,.code (C_73 31)] ⟨[(2,(.op 0 0 0)),(4,(aS rCutPrefix.1)),(5,(aB rCutPrefix.2)),(6,(qzd82 n)),(15,(aI ((rCutPrefix.1.size:Nat):Int))),(16,(aI x))],[(0,vO 2 [(aB false),.nil])],1⟩
theorem g_e_whole_L1_ok (N:Nat) (rCutPrefix:ByteArray×Bool) (fuel:Nat):g_e_whole_L1_H N rCutPrefix (g_e_whole_L1 N rCutPrefix fuel):=by
 induction fuel with
 | zero=>intro _ _ r h;rw [g_e_whole_L1.eq_1] at h;cases h
 | succ fuel ih =>
  intro n x r h E hE
  rw [g_e_whole_L1.eq_2] at h
  refine rnZ hE 1 (kp [2,4,5,6,15,16,17]) (kq [0]) 17 <| Runs.nC 1 17 h (fun hq2 h=>?_) (fun hq2 h=>?_)
  ·refine rnZ hE 4 (kp [2,4,5,6,7,15,16]) (kq [0]) 49 ?_
   obtain ⟨c,h⟩:=ifSome h
   refine rnP hE 1 (kp [2,4,5,6,8,15,16]) (kq [0]) 113 (pc c pn) <| rnP hE 2 (kp [2,4,5,6,8,15,16,27]) (kq [0]) 209 (pc (fun hg:(qzd6 rCutPrefix x)=true=>(pc hg pn)) (pc (fun hq:(qzd6 rCutPrefix x)=true=>(pc hq pn)) pn)) <| Runs.nC 0 27 h (fun hq3 h=>?_) (fun hq3 h=>?_)
   ·refine rnP hE 1 (kp [2,3]) (kq [0]) 257 (pc o1 pn) ?_
    cases h
    exact Runs.nT hE 0 Tryd.f40 [] (kp [2,3]) [(16,.var 0 [.keep,slW (cU .u16) 0 ([]:List Int)])] 257 (pc (Eq.refl 0) pn) [16] (pc o1 pn)
   ·obtain ⟨rtimes,hr2,h⟩:=bindSome h
    obtain ⟨rtrim,hr3,h⟩:=bindSome h
    obtain ⟨rplus,hr4,h⟩:=bindSome h
    refine rnH hE 1 [(2,⟨[],true,(qzd83 rtimes),[],0,true,none⟩),(7,⟨[],true,(qzd83 rtrim),[],0,true,none⟩),(8,⟨[],true,(qzd83 rplus),[],0,false,none⟩)] qzd127 (kq [0]) 369 (pc (show Sound Tryd.prog 33 [(qzd82 n),(.sl 1 (fun zi=>(fun zi=>([[(.atom (.int .u16 10))]]:List (List AV)).getD zi []) (addz 0 zi)))] [] 0 (qzd83 rtimes) [] from (Sound.conv (g_e_times_ok _ _ _ _ hr2) (.cons (Alike.refl _) (.cons (Alike.sl rfl (get_chunk (cU .u16) 0 ([10]:List Int))) .nil)))) (pc (z1 1) (pc (show Sound Tryd.prog 26 [(qzd37 rCutPrefix x)] [] 0 (qzd83 rtrim) [] from (Sound.conv (g_e_trim_ok _ _ _ hr3) (.cons (Alike.sl rfl (get_chunk (cU .u16) 0 ([(qzd144 rCutPrefix x)]:List Int))) .nil))) (pc (z1 1) (pc (g_e_plus_ok _ _ _ _ hr4) pn))))) <| rnZ hE 1 qzd127 (kq [0]) 401 <| rnV hE 1 qzd127 (kq [0]) 1 (ih _ _ _ h E hE)
  ·obtain ⟨rsigned,hr5,h⟩:=bindSome h
   refine rnH hE 2 [(2,⟨[],true,(qzd30 rsigned),[],0,false,none⟩)] (kp [2,3]) (kq [0]) 97 (pc (g_e_signed_ok _ _ _ _ hr5) (pc o1 pn)) ?_
   cases h
   exact Runs.nT hE 0 Tryd.f40 [] (kp [2,3]) [(16,.keep 0)] 97 pn [16] (pc o1 pn)
theorem g_e_whole_ok (N:Nat) (s:ByteArray) (r:TInt×Int) (h:g_e_whole N s=some r):Sound Tryd.prog 40 [(aS s)] [] 0 (qzd40 r) []:=by
 unfold g_e_whole at h
 refine sO Tryd.f40 42 fun E hE=>?_
 refine rnZ hE 1 (kp [0,2]) (kq [0]) 32 ?_
 obtain ⟨rCutPrefix,hr,h⟩:=bindSome h
 refine rnH hE 1 [(1,⟨[],true,(qzd43 rCutPrefix),[],0,false,none⟩)] (kp [2,4,5]) (kq [0]) 144 (pc (g_strings_CutPrefix_ok _ _ _ _ hr) pn) <| rnZ hE 1 (kp [2,4,5,6]) (kq [0]) 160 <| rnZ hE 2 qzd127 (kq [0]) 208 <| Runs.nW hE 2 [] (kp [2,4,5] ++ [(6,slW (cU .u16) 0 ([]:List Int))] ++ kp [15,16]) (kq [0]) 1 (pc (Eq.refl 0) pn) (g_e_whole_L1_ok N _ N _ _ _ h E hE)
noncomputable abbrev C_68:=bt Tryd.f10
def g_e_ParseRat_J1_H (N:Nat) (s:ByteArray) (rCut:ByteArray×ByteArray×Bool) (K:ByteArray→Option qzd69):Prop:=∀ (under:ByteArray) (r:TRat×Int),K under=some r→∀ E,EnvOk E 0→Runs Tryd.prog E 10 55 (SPost E [] (qzd41 r)) [.code (C_68 62),.code (C_68 63)] ⟨[(0,(aS s)),(2,(.op 0 0 0)),(4,(aS rCut.1)),(5,(aS under))],[(0,vO 4 [(aB false),.nil,(aB false),.nil])],1⟩
theorem g_e_ParseRat_J1_ok (N:Nat) (s:ByteArray) (rCut:ByteArray×ByteArray×Bool):g_e_ParseRat_J1_H N s rCut (g_e_ParseRat_J1 N s rCut):=by
 intro under r h E hE
 unfold g_e_ParseRat_J1 at h
 obtain ⟨rwhole,hr2,h⟩:=bindSome h
 refine rnH hE 0 [(1,⟨[],true,(qzd40 rwhole),[],0,false,none⟩)] (kp [0,2,5,7,8]) (kq [0,81]) 129 (pc (g_e_whole_ok _ _ _ hr2) (pc o1 pn)) ?_
 obtain ⟨rwhole2,hr3,h⟩:=bindSome h
 refine rnH hE 1 [(1,⟨[],true,(qzd40 rwhole2),[],0,false,none⟩)] (kp [0,2,7,8,9,10]) (kq [0,81,209]) 257 (pc (g_e_whole_ok _ _ _ hr3) (pc o1 pn)) ?_
 obtain ⟨rsign,hr4,h⟩:=bindSome h
 refine rnH hE 2 [(8,⟨[],true,(aI rsign),[],0,false,none⟩)] (kp [0,2,7,9,44]) (kq [0,81,209]) 433 (pc (fun hg:(!(rwhole.2 != 0))=true=>(pc hg pn)) (pc (fun hq:(!(rwhole.2 != 0))=true=>(pc hq pn)) (pc (fun hg:(!(cond (rwhole.2 != 0) true (rwhole2.2 != 0)))=true=>(pc o1 pn)) (pc (fun hg:(!(cond (rwhole.2 != 0) true (rwhole2.2 != 0)))=true=>(pc (g_e_sign_ok _ _ _ (condT hr4 hg)) (pc hg pn))) (pc (fun hg:(!(cond (rwhole.2 != 0) true (rwhole2.2 != 0)))=true=>(pc hg pn)) (pc (fun hq:(!(cond (rwhole.2 != 0) true (rwhole2.2 != 0)))=true=>(pc hq pn)) pn)))))) <| Runs.nC 0 44 h (fun hq4 h=>?_) (fun hq4 h=>?_)
 ·refine rnP hE 1 (kp [2,3]) (kq [0]) 481 (pc o1 pn) ?_
  cases h
  exact Runs.nT hE 0 Tryd.f10 [] (kp [2,3]) [(16,.var 0 [.keep,slW (cU .u16) 0 ([]:List Int),.keep,slW (cU .u16) 0 ([]:List Int)])] 481 (pc (Eq.refl 0) (pc (Eq.refl 0) pn)) [16] (pc o1 pn)
 ·obtain ⟨rfraction,hr5,h⟩:=bindSome h
  refine rnH hE 2 [(2,⟨[],true,(qzd31 rfraction),[],0,false,none⟩)] (kp [0,2,11]) (kq [0,481]) 513 (pc o1 (pc o1 (pc (g_e_fraction_ok _ _ _ _ hr5) (pc o1 pn)))) ?_
  obtain ⟨rFormatRat,hr6,h⟩:=bindSome h
  refine rnH hE 2 [(1,⟨[],true,(aS rFormatRat),[],0,false,none⟩)] (kp [2,11,52]) (kq [0,481]) 577 (pc o1 (pc (g_e_FormatRat_ok _ _ _ hr6) pn)) <| Runs.nC 0 52 h (fun hq5 h=>?_) (fun hq5 h=>?_)
  ·refine rnP hE 1 (kp [2,3]) (kq [0]) 625 (pc o1 pn) ?_
   cases h
   exact Runs.nT hE 0 Tryd.f10 [] (kp [2,3]) [(16,.var 0 [.keep,slW (cU .u16) 0 ([]:List Int),.keep,slW (cU .u16) 0 ([]:List Int)])] 625 (pc (Eq.refl 0) (pc (Eq.refl 0) pn)) [16] (pc o1 pn)
  ·refine rnP hE 2 (kp [2,3]) (kq [0]) 625 (pc o1 (pc o1 pn)) ?_
   cases h
   exact Runs.nT hE 0 Tryd.f10 [] (kp [2,3]) [(16,.keep 0)] 625 pn [16] (pc o1 pn)
theorem g_e_ParseRat_ok (N:Nat) (s:ByteArray) (r:TRat×Int) (h:g_e_ParseRat N s=some r):Sound Tryd.prog 10 [(aS s)] [] 0 (qzd41 r) []:=by
 unfold g_e_ParseRat at h
 refine sO Tryd.f10 55 fun E hE=>?_
 refine rnZ hE 1 (kp [0,2]) (kq [0]) 32 <| rnZ hE 2 (kp [0,2,14]) (kq [0]) 80 <| Runs.nC 0 14 h (fun hq2 h=>?_) (fun hq2 h=>?_)
 ·refine rnP hE 1 (kp [2,3]) (kq [0]) 128 (pc o1 pn) ?_
  cases h
  exact Runs.nT hE 0 Tryd.f10 [] (kp [2,3]) [(16,.var 0 [.keep,slW (cU .u16) 0 ([]:List Int),.keep,slW (cU .u16) 0 ([]:List Int)])] 128 (pc (Eq.refl 0) (pc (Eq.refl 0) pn)) [16] (pc o1 pn)
 ·obtain ⟨rCut,hr,h⟩:=bindSome h
  refine rnH hE 2 [(1,⟨[],true,(qzd44 rCut),[],0,false,none⟩)] qzd103 (kq [0]) 224 (pc (g_strings_Cut_ok _ _ _ _ hr) pn) <| rnZ hE 2 (kp [0,2,4,5,23]) (kq [0]) 256 <| Runs.nC 0 23 h (fun hq3 h=>?_) (fun hq3 h=>?_)
  ·refine rnZ hE 0 qzd104 (kq [0]) 272 <| rnV hE 1 qzd104 (kq [0]) 1 (g_e_ParseRat_J1_ok N _ _ _ _ h E hE)
  ·exact rnV hE 2 qzd104 (kq [0]) 1 (g_e_ParseRat_J1_ok N _ _ _ _ h E hE)
noncomputable abbrev C_75:=bt Tryd.f43
def g_r01_decimal_L1_H (N:Nat) (s:ByteArray) (K:(List Int)→Int→Option qzd68):Prop:=∀ (n:List Int) (i:Int) (r:TInt×Int),K n i=some r→∀ E,EnvOk E 0→Runs Tryd.prog E 43 52 (SPost E [] (qzd40 r)) [.code (C_75 116),.inLoop (C_75 116),.inBlock 0,.code (C_75 15)] ⟨[(0,(aS s)),(2,(.op 0 0 0)),(4,(encL cI 0 n)),(5,(aI i))],[(0,vO 2 [(aB false),.nil])],1⟩
def g_r01_decimal_J2_H (N:Nat) (s:ByteArray) (i:Int) (K:(List Int)→Option qzd68):Prop:=∀ (n2:List Int) (r:TInt×Int),K n2=some r→∀ E,EnvOk E 0→Runs Tryd.prog E 43 52 (SPost E [] (qzd40 r)) [.code (C_75 467),.inLoop (C_75 116),.inBlock 0,.code (C_75 15)] ⟨[(0,(aS s)),(2,(.op 0 0 0)),(4,(encL cI 0 n2)),(5,(aI i))],[(0,vO 2 [(aB false),.nil])],1⟩
theorem g_r01_decimal_J2_ok (N:Nat) (s:ByteArray) (i:Int) (K_g_r01_decimal_L1:(List Int)→Int→Option qzd68) (hK_g_r01_decimal_L1:g_r01_decimal_L1_H N s K_g_r01_decimal_L1):g_r01_decimal_J2_H N s i (g_r01_decimal_J2 N s i K_g_r01_decimal_L1):=by
 intro n2 r h E hE
 unfold g_r01_decimal_J2 at h
 refine rnZ hE 0 qzd104 (kq [0]) 49 <| rnV hE 1 qzd104 (kq [0]) 1 (hK_g_r01_decimal_L1 _ _ _ h E hE)
theorem g_r01_decimal_L1_ok (N:Nat) (s:ByteArray) (fuel:Nat):g_r01_decimal_L1_H N s (g_r01_decimal_L1 N s fuel):=by
 induction fuel with
 | zero=>intro _ _ r h;rw [g_r01_decimal_L1.eq_1] at h;cases h
 | succ fuel ih =>
  intro n i r h E hE
  rw [g_r01_decimal_L1.eq_2] at h
  refine rnZ hE 2 (kp [0,2,4,5,9]) (kq [0]) 65 <| Runs.nC 0 9 h (fun hq2 h=>?_) (fun hq2 h=>?_)
  ·obtain ⟨c,h⟩:=ifSome h
   refine rnP hE 5 (kp [0,2,4,5,19]) (kq [0]) 193 (pc (fun hg:(i == 0)=true=>(pc hg (pc hg (pc (c hg) pn)))) (pc (fun hg:(i == 0)=true=>(pc hg pn)) (pc (fun hq:(i == 0)=true=>(pc hq pn)) pn))) <| Runs.nC 0 19 h (fun hq3 h=>?_) (fun hq3 h=>?_)
   ·exact rnV hE 1 qzd104 (kq [0]) 1 (g_r01_decimal_J2_ok N _ _ _ ih _ _ h E hE)
   ·obtain ⟨c2,h⟩:=ifSome h
    obtain ⟨c3,h⟩:=ifSome h
    refine rnP hE 3 (kp [0,2,4,5,29]) (kq [0]) 353 (pc c2 (pc (fun hg:(qzd5 s i)=true=>(pc hg (pc hg (pc (c3 hg) pn)))) (pc (fun hg:(qzd5 s i)=true=>(pc hg pn)) (pc (fun hq:(qzd5 s i)=true=>(pc hq pn)) pn)))) <| Runs.nC 0 29 h (fun hq4 h=>?_) (fun hq4 h=>?_)
    ·refine rnP hE 1 (kp [2,3]) (kq [0]) 401 (pc o1 pn) ?_
     cases h
     exact Runs.nT hE 0 Tryd.f43 [] (kp [2,3]) [(16,.var 0 [.keep,slW (cU .u16) 0 ([]:List Int)])] 401 (pc (Eq.refl 0) pn) [16] (pc o1 pn)
    ·obtain ⟨rtimes,hr,h⟩:=bindSome h
     obtain ⟨rtrim,hr2,h⟩:=bindSome h
     obtain ⟨rplus,hr3,h⟩:=bindSome h
     refine rnH hE 1 [(2,⟨[],true,(encL cI 0 rtimes),[],0,true,none⟩),(9,⟨[],true,(encL cI 0 rtrim),[],0,true,none⟩),(10,⟨[],true,(encL cI 0 rplus),[],0,false,none⟩)] qzd104 (kq [0]) 545 (pc (show Sound Tryd.prog 36 [(encL cI 0 n),(.sl 1 qzd85)] [] 0 (encL cI 0 rtimes) [] from (Sound.conv (g_r01_times_ok _ _ _ _ hr) (.cons (Alike.refl _) (.cons (Alike.sl rfl (get_chunk cI 0 ([10]:List Int))) .nil)))) (pc (z1 1) (pc c2 (pc (show Sound Tryd.prog 37 [(qzd38 s i)] [] 0 (encL cI 0 rtrim) [] from (Sound.conv (g_r01_trim_ok _ _ _ hr2) (.cons (Alike.sl rfl (get_chunk cI 0 ([(qzd155 s i)]:List Int))) .nil))) (pc (z1 1) (pc (g_r01_plus_ok _ _ _ _ hr3) pn)))))) <| rnV hE 1 qzd104 (kq [0]) 1 (g_r01_decimal_J2_ok N _ _ _ ih _ _ h E hE)
  ·obtain ⟨c4,h⟩:=ifSome h
   obtain ⟨rmade,hr4,h⟩:=bindSome h
   refine rnH hE 2 [(9,⟨[],true,(qzd30 rmade),[],0,false,none⟩)] (kp [2,3]) (kq [0]) 257 (pc (fun hg:(qzd80 s)=true=>(pc hg (pc (c4 hg) pn))) (pc (fun hg:(qzd80 s)=true=>(pc hg pn)) (pc (fun hq:(qzd80 s)=true=>(pc hq pn)) (pc (g_r01_made_ok _ _ _ _ hr4) (pc o1 pn))))) ?_
   cases h
   exact Runs.nT hE 0 Tryd.f43 [] (kp [2,3]) [(16,.keep 0)] 257 pn [16] (pc o1 pn)
theorem g_r01_decimal_ok (N:Nat) (s:ByteArray) (r:TInt×Int) (h:g_r01_decimal N s=some r):Sound Tryd.prog 43 [(aS s)] [] 0 (qzd40 r) []:=by
 unfold g_r01_decimal at h
 refine sO Tryd.f43 52 fun E hE=>?_
 refine rnZ hE 1 (kp [0,2]) (kq [0]) 32 <| rnZ hE 1 qzd105 (kq [0]) 48 <| rnZ hE 2 qzd104 (kq [0]) 64 <| Runs.nW hE 2 [] (kp [0,2] ++ [(4,slW cI 0 ([]:List Int))] ++ kp [5]) (kq [0]) 1 (pc (Eq.refl 0) pn) (g_r01_decimal_L1_ok N _ N _ _ _ h E hE)
noncomputable abbrev C_77:=bt Tryd.f66
def g_r01_Of_L1_H (N:Nat) (n:Int) (K:(List Int)→Int→Option (TInt)):Prop:=∀ (a:List Int) (u:Int) (r:TInt),K a u=some r→∀ E,EnvOk E 0→Runs Tryd.prog E 66 25 (SPost E [] (qzd30 r)) [.code (C_77 248),.inLoop (C_77 248),.inBlock 0,.code (C_77 63)] ⟨[(0,(aI n)),(2,(.op 0 0 0)),(3,(.os 1 0 a.length)),(4,(qzd35 u))],[(0,vO 2 [(aB false),.nil]),(1,aO 1 cI 0 a)],2⟩
theorem g_r01_Of_L1_ok (N:Nat) (n:Int) (fuel:Nat):g_r01_Of_L1_H N n (g_r01_Of_L1 N n fuel):=by
 induction fuel with
 | zero=>intro _ _ r h;rw [g_r01_Of_L1.eq_1] at h;cases h
 | succ fuel ih =>
  intro a u r h E hE
  rw [g_r01_Of_L1.eq_2] at h
  refine rnZ hE 2 (kp [0,2,3,4,12]) (kq [0,1]) 34 <| Runs.nC 0 12 h (fun hq3 h=>?_) (fun hq3 h=>?_)
  ·obtain ⟨c,h⟩:=ifSome h
   refine rnP hE 3 (kp [0,2] ++ [(3,.osl ((a ++ (qzd76 u)).length))] ++ kp [4]) (kq [0] ++ [(114,arW 114 cI 0 (a ++ (qzd76 u)))]) 146 (pc (show (65536:Int)≠0 by decide) (pc (Eq.refl a.length) (pc c (pc (z1 1) (pc (oN [[(aI (w64 ((u.tmod 65536))))]]) (pc (len_app0 a (qzd76 u)) (pc (len_app0 a (qzd76 u)) (pc (gA1 cI 0 a (qzd76 u)) pn)))))))) <| rnP hE 1 qzd100 (kq [0,114]) 194 (pc (show (65536:Int)≠0 by decide) pn) <| rnV hE 1 qzd100 (kq [0] ++ [(1,.keep 114)]) 2 (ih _ _ _ h E hE)
  ·obtain ⟨rmade,hr,h⟩:=bindSome h
   refine rnH hE 2 [(3,⟨[],true,(qzd30 rmade),[],0,true,none⟩)] (kp [2]) (kq [0]) 114 (pc (g_r01_made_ok _ _ _ _ hr) (pc (z1 a.length) (pc o1 pn))) ?_
   obtain rfl:=Option.some.inj h
   exact Runs.nT hE 0 Tryd.f66 [] (kp [2]) [(16,.keep 0)] 114 pn [16] (pc o1 pn)
theorem g_r01_Of_ok (N:Nat) (n:Int) (r:TInt) (h:g_r01_Of N n=some r):Sound Tryd.prog 66 [(aI n)] [] 0 (qzd30 r) []:=by
 unfold g_r01_Of at h
 refine sO Tryd.f66 25 fun E hE=>?_
 refine rnZ hE 1 (kp [0,2]) (kq [0]) 16 <| rnZ hE 1 qzd101 (kq [0]) 32 <| rnZ hE 1 qzd100 (kq [0]) 80 <| rnZ hE 2 (kp [0,2,3,4,8]) (kq [0]) 112 <| Runs.nC 0 8 h (fun hq2 h=>?_) (fun hq2 h=>?_)
 ·refine rnZ hE 0 qzd100 (kq [0]) 160 <| rnV hE 3 qzd107 qzd137 2 (g_r01_Of_L1_ok N _ N _ _ _ h E hE)
 ·exact rnV hE 4 qzd107 qzd137 2 (g_r01_Of_L1_ok N _ N _ _ _ h E hE)
noncomputable abbrev C_78:=bt Tryd.f67
def g_r01_gcd_L1_H (N:Nat) (K:(List Int)→(List Int)→Option qzd18):Prop:=∀ (a2:List Int) (b2:List Int) (r:(List Int)),K a2 b2=some r→∀ E,EnvOk E 0→Runs Tryd.prog E 67 19 (SPost E [] (encL cI 0 r)) [.code (C_78 24),.inLoop (C_78 24),.inBlock 0,.code (C_78 7)] ⟨[(qzd48 a2),(qzd50 b2)],[],0⟩
theorem g_r01_gcd_L1_ok (N:Nat) (fuel:Nat):g_r01_gcd_L1_H N (g_r01_gcd_L1 N fuel):=by
 induction fuel with
 | zero=>intro _ _ r h;rw [g_r01_gcd_L1.eq_1] at h;cases h
 | succ fuel ih =>
  intro a2 b2 r h E hE
  rw [g_r01_gcd_L1.eq_2] at h
  refine rnZ hE 2 (kp [0,1,9]) [] 48 <| Runs.nC 0 9 h (fun hq2 h=>?_) (fun hq2 h=>?_)
  ·obtain ⟨rover,hr,h⟩:=bindSome h
   refine rnH hE 3 [(2,⟨[],true,(qzd47 rover),[],0,false,none⟩)] (kp [1,6]) [] 176 (pc (g_r01_over_ok _ _ _ _ hr) pn) <| rnZ hE 0 (kp [0,1]) [] 240 <| rnV hE 2 (kp [0,1]) [] 0 (ih _ _ _ h E hE)
  ·refine rnZ hE 2 (kp [4]) [] 80 ?_
   obtain rfl:=Option.some.inj h
   exact rnU hE 0 Tryd.f67 (kp [4]) [] 80
theorem g_r01_gcd_ok (N:Nat) (a:List Int) (b:List Int) (r:(List Int)) (h:g_r01_gcd N a b=some r):Sound Tryd.prog 67 [(encL cI 0 a),(encL cI 0 b)] [] 0 (encL cI 0 r) []:=by
 unfold g_r01_gcd at h
 refine sO Tryd.f67 19 fun E hE=>?_
 refine rnZ hE 1 (kp [0,1]) [] 16 <| rnV hE 3 (kp [0,1]) [] 0 (g_r01_gcd_L1_ok N N _ _ _ h E hE)
theorem g_r01_Over_ok (N:Nat) (a:TInt) (b:TInt) (r:TRat) (h:g_r01_Over N a b=some r):Sound Tryd.prog 44 [(qzd30 a),(qzd30 b)] [] 0 (qzd31 r) []:=by
 unfold g_r01_Over at h
 refine sO Tryd.f44 52 fun E hE=>?_
 refine rnZ hE 1 qzd125 qzd133 48 ?_
 obtain ⟨rread,hr,h⟩:=bindSome h
 obtain ⟨rread2,hr2,h⟩:=bindSome h
 refine rnH hE 1 [(2,⟨[],true,(encL cI 0 rread),[],0,false,none⟩),(5,⟨[],true,(encL cI 0 rread2),[],0,false,none⟩)] qzd123 qzd133 176 (pc o1 (pc (g_r01_read_ok _ _ _ hr) (pc o1 (pc (g_r01_read_ok _ _ _ hr2) pn)))) <| rnZ hE 2 (kp [2,3,4,5,6,20]) qzd133 224 <| Runs.nC 0 20 h (fun hq2 h=>?_) (fun hq2 h=>?_)
 ·obtain ⟨rmade,hr3,h⟩:=bindSome h
  obtain ⟨rOf,hr4,h⟩:=bindSome h
  refine rnH hE 1 [(3,⟨[],true,(qzd30 rmade),[],0,false,none⟩),(4,⟨[],true,(qzd30 rOf),[],0,false,none⟩)] (kp [4]) (kq [32]) 336 (pc o1 (pc (g_r01_made_ok _ _ _ _ hr3) (pc (g_r01_Of_ok _ _ _ hr4) (pc o1 pn)))) ?_
  cases h
  exact Runs.nT hE 0 Tryd.f44 [] (kp [4]) [(16,.keep 32)] 336 pn [16] (pc o1 pn)
 ·obtain ⟨rgcd,hr5,h⟩:=bindSome h
  refine rnH hE 2 [(2,⟨[],true,(encL cI 0 rgcd),[],0,false,none⟩)] qzd122 qzd133 288 (pc (g_r01_gcd_ok _ _ _ _ hr5) pn) ?_
  obtain ⟨rover,hr6,h⟩:=bindSome h
  refine rnH hE 1 [(2,⟨[],true,(qzd47 rover),[],0,false,none⟩)] (kp [2,3,4,6,7,8]) qzd133 416 (pc (g_r01_over_ok _ _ _ _ hr6) pn) ?_
  obtain ⟨rover2,hr7,h⟩:=bindSome h
  refine rnH hE 1 [(2,⟨[],true,(qzd47 rover2),[],0,false,none⟩)] (kp [2,3,4,8,10]) qzd133 544 (pc (g_r01_over_ok _ _ _ _ hr7) pn) ?_
  obtain ⟨rmade2,hr8,h⟩:=bindSome h
  obtain ⟨rmade3,hr9,h⟩:=bindSome h
  refine rnH hE 1 [(6,⟨[],true,(qzd30 rmade2),[],0,false,none⟩),(8,⟨[],true,(qzd30 rmade3),[],0,false,none⟩)] (kp [4]) (kq [32]) 720 (pc o1 (pc o1 (pc (g_r01_made_ok _ _ _ _ hr8) (pc (g_r01_made_ok _ _ _ _ hr9) (pc o1 pn))))) ?_
  cases h
  exact Runs.nT hE 0 Tryd.f44 [] (kp [4]) [(16,.keep 32)] 720 pn [16] (pc o1 pn)
theorem g_r01_NormRat_ok (N:Nat) (x:TRat) (r:TRat) (h:g_r01_NormRat N x=some r):Sound Tryd.prog 17 [(qzd31 x)] [] 0 (qzd31 r) []:=by
 unfold g_r01_NormRat at h
 refine sO Tryd.f17 8 fun E hE=>?_
 refine rnZ hE 1 (kp [1,2]) qzd134 32 ?_
 obtain ⟨rOver,hr,h⟩:=bindSome h
 refine rnH hE 1 [(4,⟨[],true,(qzd31 rOver),[],0,false,none⟩)] (kp [2]) (kq [16]) 128 (pc o1 (pc o1 (pc (g_r01_Over_ok _ _ _ _ hr) (pc o1 pn)))) ?_
 obtain rfl:=Option.some.inj h
 exact Runs.nT hE 0 Tryd.f17 [] (kp [2]) (kq [16]) 128 pn [16] (pc o1 pn)
theorem g_r01_FormatRat_ok (N:Nat) (x:TRat) (r:ByteArray) (h:g_r01_FormatRat N x=some r):Sound Tryd.prog 13 [(qzd31 x)] [] 0 (aS r) []:=by
 unfold g_r01_FormatRat at h
 refine sO Tryd.f13 21 fun E hE=>?_
 refine rnZ hE 1 (kp [1]) (kq [0]) 32 ?_
 obtain ⟨rNormRat,hr,h⟩:=bindSome h
 refine rnH hE 1 [(1,⟨[],true,(qzd31 rNormRat),[],0,false,none⟩)] (kp [3]) (kq [64]) 96 (pc o1 (pc (g_r01_NormRat_ok _ _ _ hr) (pc o1 pn))) ?_
 obtain ⟨rFormat,hr2,h⟩:=bindSome h
 refine rnH hE 2 [(2,⟨[],true,(aS rFormat),[],0,false,none⟩)] (kp [3,9]) (kq [64]) 160 (pc o1 (pc (g_r01_Format_ok _ _ _ hr2) pn)) <| Runs.nC 0 9 h (fun hq2 h=>?_) (fun hq2 h=>?_)
 ·obtain ⟨rFormat2,hr3,h⟩:=bindSome h
  refine rnH hE 1 [(2,⟨[],true,(aS rFormat2),[],0,false,none⟩)] (kp [2]) [] 224 (pc o1 (pc (g_r01_Format_ok _ _ _ hr3) pn)) ?_
  obtain rfl:=Option.some.inj h
  exact rnU hE 0 Tryd.f13 (kp [2]) [] 224
 ·obtain ⟨rFormat3,hr4,h⟩:=bindSome h
  obtain ⟨c,h⟩:=ifSome h
  obtain ⟨rFormat4,hr5,h⟩:=bindSome h
  obtain ⟨c2,h⟩:=ifSome h
  refine rnH hE 2 [(2,⟨[],true,(aS rFormat3),[],0,false,none⟩),(6,⟨[],true,(aS rFormat4),[],0,false,none⟩)] (kp [2]) [] 304 (pc o1 (pc (g_r01_Format_ok _ _ _ hr4) (pc c (pc o1 (pc (g_r01_Format_ok _ _ _ hr5) (pc c2 pn)))))) ?_
  cases h
  exact rnU hE 0 Tryd.f13 (kp [2]) [] 304
noncomputable abbrev C_74:=bt Tryd.f11
def g_r01_ParseRat_L1_H (N:Nat) (s:ByteArray) (K:Int→Int→Option qzd69):Prop:=∀ (vat:Int) (i:Int) (r:TRat×Int),K vat i=some r→∀ E,EnvOk E 0→Runs Tryd.prog E 11 66 (SPost E [] (qzd41 r)) [.code (C_74 244),.inLoop (C_74 244),.inBlock 0,.code (C_74 31)] ⟨[(0,(aS s)),(2,(.op 0 0 0)),(4,(aI vat)),(5,(aI i))],[(0,vO 4 [(aB false),.nil,(aB false),.nil])],1⟩
def g_r01_ParseRat_J2_H (N:Nat) (s:ByteArray) (i:Int) (K:Int→Option qzd69):Prop:=∀ (vat2:Int) (r:TRat×Int),K vat2=some r→∀ E,EnvOk E 0→Runs Tryd.prog E 11 66 (SPost E [] (qzd41 r)) [.code (C_74 979),.inLoop (C_74 244),.inBlock 0,.code (C_74 31)] ⟨[(0,(aS s)),(2,(.op 0 0 0)),(4,(aI vat2)),(5,(aI i))],[(0,vO 4 [(aB false),.nil,(aB false),.nil])],1⟩
theorem g_r01_ParseRat_J2_ok (N:Nat) (s:ByteArray) (i:Int) (K_g_r01_ParseRat_L1:Int→Int→Option qzd69) (hK_g_r01_ParseRat_L1:g_r01_ParseRat_L1_H N s K_g_r01_ParseRat_L1):g_r01_ParseRat_J2_H N s i (g_r01_ParseRat_J2 N s i K_g_r01_ParseRat_L1):=by
 intro vat2 r h E hE
 unfold g_r01_ParseRat_J2 at h
 refine rnZ hE 0 qzd104 (kq [0]) 49 <| rnV hE 1 qzd104 (kq [0]) 1 (hK_g_r01_ParseRat_L1 _ _ _ h E hE)
def g_r01_ParseRat_J3_H (N:Nat) (s:ByteArray) (rdecimal:TInt×Int) (K:TInt→Int→Option qzd69):Prop:=∀ (b:TInt) (f:Int) (r:TRat×Int),K b f=some r→∀ E,EnvOk E 0→Runs Tryd.prog E 11 66 (SPost E [] (qzd41 r)) [.code (C_74 1020),.code (C_74 1021),.code (C_74 511)] ⟨[(0,(aS s)),(2,(.op 0 0 0)),(6,(.op 1 0 0)),(7,(aI rdecimal.2)),(8,(.op 2 0 0)),(9,(aI f))],[(0,vO 4 [(aB false),.nil,(aB false),.nil]),(1,vO 2 (TInt.cells rdecimal.1)),(2,vO 2 (TInt.cells b))],3⟩
theorem g_r01_ParseRat_J3_ok (N:Nat) (s:ByteArray) (rdecimal:TInt×Int):g_r01_ParseRat_J3_H N s rdecimal (g_r01_ParseRat_J3 N s rdecimal):=by
 intro b f r h E hE
 unfold g_r01_ParseRat_J3 at h
 obtain ⟨rOver,hr3,h⟩:=bindSome h
 refine rnH hE 0 [(2,⟨[],true,(qzd31 rOver),[],0,false,none⟩)] (kp [0,2,7,9,10]) (kq [0,51]) 83 (pc o1 (pc o1 (pc (g_r01_Over_ok _ _ _ _ hr3) (pc o1 pn)))) ?_
 obtain ⟨rFormatRat,hr4,h⟩:=bindSome h
 refine rnH hE 1 [(8,⟨[],true,(aS rFormatRat),[],0,false,none⟩)] (kp [2,10,63]) (kq [0,51]) 275 (pc (fun hg:(rdecimal.2 == 0)=true=>(pc hg pn)) (pc (fun hq:(rdecimal.2 == 0)=true=>(pc hq pn)) (pc (fun hg:(cond (rdecimal.2 == 0) (f == 0) false)=true=>(pc o1 pn)) (pc (fun hg:(cond (rdecimal.2 == 0) (f == 0) false)=true=>(pc (g_r01_FormatRat_ok _ _ _ (condT hr4 hg)) (pc hg pn))) (pc (fun hg:(cond (rdecimal.2 == 0) (f == 0) false)=true=>(pc hg (pc hg pn))) (pc (fun hq:(cond (rdecimal.2 == 0) (f == 0) false)=true=>(pc hq pn)) pn)))))) <| Runs.nC 0 63 h (fun hq6 h=>?_) (fun hq6 h=>?_)
 ·refine rnP hE 1 (kp [2,3]) (kq [0]) 323 (pc o1 (pc o1 pn)) ?_
  cases h
  exact Runs.nT hE 0 Tryd.f11 [] (kp [2,3]) [(16,.keep 0)] 323 pn [16] (pc o1 pn)
 ·refine rnP hE 2 (kp [2,3]) (kq [0]) 323 (pc o1 pn) ?_
  cases h
  exact Runs.nT hE 0 Tryd.f11 [] (kp [2,3]) [(16,.var 0 [.keep,slW (cU .u16) 0 ([]:List Int),.keep,slW (cU .u16) 0 ([]:List Int)])] 323 (pc (Eq.refl 0) (pc (Eq.refl 0) pn)) [16] (pc o1 pn)
theorem g_r01_ParseRat_L1_ok (N:Nat) (s:ByteArray) (fuel:Nat):g_r01_ParseRat_L1_H N s (g_r01_ParseRat_L1 N s fuel):=by
 induction fuel with
 | zero=>intro _ _ r h;rw [g_r01_ParseRat_L1.eq_1] at h;cases h
 | succ fuel ih =>
  intro vat i r h E hE
  rw [g_r01_ParseRat_L1.eq_2] at h
  refine rnZ hE 2 (kp [0,2,4,5,21]) (kq [0]) 33 <| Runs.nC 0 21 h (fun hq3 h=>?_) (fun hq3 h=>?_)
  ·obtain ⟨c,h⟩:=ifSome h
   refine rnP hE 4 (kp [0,2,4,5,27]) (kq [0]) 97 (pc c pn) <| Runs.nC 0 27 h (fun hq4 h=>?_) (fun hq4 h=>?_)
   ·refine rnZ hE 0 qzd104 (kq [0]) 129 <| rnV hE 1 qzd104 (kq [0]) 1 (g_r01_ParseRat_J2_ok N _ _ _ ih _ _ h E hE)
   ·exact rnV hE 2 qzd104 (kq [0]) 1 (g_r01_ParseRat_J2_ok N _ _ _ ih _ _ h E hE)
  ·obtain ⟨c2,h⟩:=ifSome h
   obtain ⟨c3,h⟩:=ifSome h
   obtain ⟨rdecimal,hr,h⟩:=bindSome h
   refine rnH hE 2 [(3,⟨[],true,(qzd40 rdecimal),[],0,false,none⟩)] (kp [0,2,4,6,7]) (kq [0,145]) 193 (pc c2 (pc c3 (pc (g_r01_decimal_ok _ _ _ hr) (pc o1 pn)))) <| rnP hE 1 (kp [0,2,4,6,7,8,9]) (kq [0,145,209]) 257 (pc o1 pn) <| rnZ hE 2 (kp [0,2,4,6,7,8,9,40]) (kq [0,145,209]) 321 <| Runs.nC 0 40 h (fun hq5 h=>?_) (fun hq5 h=>?_)
   ·obtain ⟨c4,h⟩:=ifSome h
    obtain ⟨c5,h⟩:=ifSome h
    obtain ⟨rdecimal2,hr2,h⟩:=bindSome h
    refine rnH hE 0 [(4,⟨[],true,(qzd40 rdecimal2),[],0,false,none⟩)] qzd106 (kq [0,145,209]) 481 (pc c4 (pc c5 (pc (g_r01_decimal_ok _ _ _ hr2) (pc o1 pn)))) <| rnV hE 2 qzd106 (kq [0] ++ [(1,.keep 145),(2,.keep 209)]) 3 (g_r01_ParseRat_J3_ok N _ _ _ _ _ h E hE)
   ·exact Runs.nW hE 3 [] qzd106 (kq [0] ++ [(1,.keep 145),(2,.var 209 [.keep,slW (cU .u16) 0 ([]:List Int)])]) 3 (pc (Eq.refl 0) pn) (g_r01_ParseRat_J3_ok N _ _ _ _ _ h E hE)
theorem g_r01_ParseRat_ok (N:Nat) (s:ByteArray) (r:TRat×Int) (h:g_r01_ParseRat N s=some r):Sound Tryd.prog 11 [(aS s)] [] 0 (qzd41 r) []:=by
 unfold g_r01_ParseRat at h
 refine sO Tryd.f11 66 fun E hE=>?_
 refine rnZ hE 1 (kp [0,2]) (kq [0]) 32 <| rnZ hE 2 (kp [0,2,13]) (kq [0]) 80 <| Runs.nC 0 13 h (fun hq2 h=>?_) (fun hq2 h=>?_)
 ·refine rnP hE 1 (kp [2,3]) (kq [0]) 128 (pc o1 pn) ?_
  cases h
  exact Runs.nT hE 0 Tryd.f11 [] (kp [2,3]) [(16,.var 0 [.keep,slW (cU .u16) 0 ([]:List Int),.keep,slW (cU .u16) 0 ([]:List Int)])] 128 (pc (Eq.refl 0) (pc (Eq.refl 0) pn)) [16] (pc o1 pn)
 ·refine rnZ hE 2 qzd105 (kq [0]) 128 <| rnZ hE 2 qzd104 (kq [0]) 192 <| rnV hE 2 qzd104 (kq [0]) 1 (g_r01_ParseRat_L1_ok N _ N _ _ _ h E hE)
theorem g_w01_rat_ok (N:Nat) (x:TRat) (e:Int) (y:TRat) (f:Int) (r:Bool) (h:g_w01_rat N x e y f=some r):Sound Tryd.prog 15 [(qzd31 x),(aI e),(qzd31 y),(aI f)] [] 0 (aB r) []:=by
 unfold g_w01_rat at h
 refine sO Tryd.f15 26 fun E hE=>?_
 refine rnZ hE 1 (kp [1,3,4,6]) qzd134 48 <| rnZ hE 2 (kp [1,3,4,6,10]) qzd134 80 <| Runs.nC 0 10 h (fun hq2 h=>?_) (fun hq2 h=>?_)
 ·obtain ⟨rSameRat,hr,h⟩:=bindSome h
  refine rnH hE 1 [(2,⟨[],true,(aB rSameRat),[],0,false,none⟩)] (kp [8]) [] 224 (pc o1 (pc (show Sound Tryd.prog 24 [(qzd31 x),(.agg [(aB false),.nil,(aB false),.nil])] [] 0 (aB rSameRat) [] from (Sound.conv (g_b_SameRat_ok _ _ _ _ hr) (.cons (Alike.refl _) (.cons (Alike.agg (.cons (Alike.refl _) (.cons Alike.nil (.cons (Alike.refl _) (.cons Alike.nil .nil))))) .nil)))) (pc (fun hg:rSameRat=true=>(pc hg (pc hg pn))) (pc (fun hq:rSameRat=true=>(pc hq pn)) pn)))) ?_
  cases h
  exact rnU hE 0 Tryd.f15 (kp [8]) [] 224
 ·obtain ⟨rSameRat2,hr2,h⟩:=bindSome h
  refine rnH hE 2 [(5,⟨[],true,(aB rSameRat2),[],0,false,none⟩)] (kp [8]) [] 208 (pc (fun hg:(e == 0)=true=>(pc o1 pn)) (pc (fun hg:(e == 0)=true=>(pc o1 pn)) (pc (fun hg:(e == 0)=true=>(pc (g_b_SameRat_ok _ _ _ _ (condT hr2 hg)) (pc hg (pc hg pn)))) (pc (fun hq:(e == 0)=true=>(pc hq pn)) pn)))) ?_
  cases h
  exact rnU hE 0 Tryd.f15 (kp [8]) [] 208
theorem g_r01_Norm_ok (N:Nat) (a:TInt) (r:TInt) (h:g_r01_Norm N a=some r):Sound Tryd.prog 16 [(qzd30 a)] [] 0 (qzd30 r) []:=by
 unfold g_r01_Norm at h
 refine sO Tryd.f16 9 fun E hE=>?_
 refine rnZ hE 1 (kp [1,2]) qzd134 32 ?_
 obtain ⟨rread,hr,h⟩:=bindSome h
 obtain ⟨rmade,hr2,h⟩:=bindSome h
 refine rnH hE 1 [(4,⟨[],true,(encL cI 0 rread),[],0,false,none⟩),(5,⟨[],true,(qzd30 rmade),[],0,false,none⟩)] (kp [2]) (kq [16]) 144 (pc o1 (pc o1 (pc (g_r01_read_ok _ _ _ hr) (pc (g_r01_made_ok _ _ _ _ hr2) (pc o1 pn))))) ?_
 obtain rfl:=Option.some.inj h
 exact Runs.nT hE 0 Tryd.f16 [] (kp [2]) (kq [16]) 144 pn [16] (pc o1 pn)
theorem g_w01_ExactTexts_ok (N:Nat) (x:TRat) (s:ByteArray) (r:Bool) (h:g_w01_ExactTexts N x s=some r):Sound Tryd.prog 3 [(qzd31 x),(aS s)] [] 0 (aB r) []:=by
 unfold g_w01_ExactTexts at h
 refine sO Tryd.f3 111 fun E hE=>?_
 refine rnZ hE 1 (kp [1,2]) (kq [0]) 32 ?_
 obtain ⟨rwide,hr,h⟩:=bindSome h
 refine rnH hE 2 [(1,⟨[],true,(aB rwide),[],0,false,none⟩)] (kp [1,2,25]) (kq [0]) 144 (pc o1 (pc (g_w01_wide_ok _ _ _ hr) (pc (fun hg:(!rwide)=true=>(pc hg pn)) (pc (fun hg:(!rwide)=true=>(pc hg pn)) (pc (fun hq:(!rwide)=true=>(pc hq pn)) pn))))) <| Runs.nC 0 25 h (fun hq2 h=>?_) (fun hq2 h=>?_)
 ·obtain ⟨rawake,hr2,h⟩:=bindSome h
  refine rnH hE 1 [(0,⟨[],true,(aB rawake),[],0,false,none⟩)] (kp [4]) [] 176 (pc (g_w01_awake_ok _ _ hr2) pn) ?_
  obtain rfl:=Option.some.inj h
  exact rnU hE 0 Tryd.f3 (kp [4]) [] 176
 ·obtain ⟨rFormat,hr3,h⟩:=bindSome h
  obtain ⟨rFormatRat,hr4,h⟩:=bindSome h
  refine rnH hE 2 [(2,⟨[],true,(aS rFormat),[],0,false,none⟩),(4,⟨[],true,(aS rFormatRat),[],0,false,none⟩)] (kp [1,2,5,6]) (kq [0]) 256 (pc o1 (pc (g_e_Format_ok _ _ _ hr3) (pc o1 (pc (g_e_FormatRat_ok _ _ _ hr4) pn)))) ?_
  obtain ⟨rParse,hr5,h⟩:=bindSome h
  refine rnH hE 1 [(1,⟨[],true,(qzd40 rParse),[],0,false,none⟩)] (kp [1,2,5,6,7,8]) (kq [0,336]) 384 (pc (g_e_Parse_ok _ _ _ hr5) (pc o1 pn)) ?_
  obtain ⟨rParse2,hr6,h⟩:=bindSome h
  refine rnH hE 1 [(1,⟨[],true,(qzd40 rParse2),[],0,false,none⟩)] (kp [1,2,5,6,7,8,9,10]) (kq [0,336,464]) 512 (pc (g_r01_Parse_ok _ _ _ hr6) (pc o1 pn)) ?_
  obtain ⟨rParseRat,hr7,h⟩:=bindSome h
  refine rnH hE 1 [(1,⟨[],true,(qzd41 rParseRat),[],0,false,none⟩)] (kp [1,2,5,6,7,8,9,10,11,12]) (kq [0,336,464,592]) 640 (pc (g_e_ParseRat_ok _ _ _ hr7) (pc o1 pn)) ?_
  obtain ⟨rParseRat2,hr8,h⟩:=bindSome h
  refine rnH hE 1 [(1,⟨[],true,(qzd41 rParseRat2),[],0,false,none⟩)] (kp [2,5,6,7,8,9,10,11,12,13,14]) (kq [0,336,464,592,720]) 768 (pc (g_r01_ParseRat_ok _ _ _ hr8) (pc o1 pn)) ?_
  obtain ⟨rParse3,hr9,h⟩:=bindSome h
  refine rnH hE 1 [(1,⟨[],true,(qzd40 rParse3),[],0,false,none⟩)] (kp [2,5,6,7,8,9,10,11,12,13,14,15,16]) (kq [0,336,464,592,720,848]) 896 (pc (g_e_Parse_ok _ _ _ hr9) (pc o1 pn)) ?_
  obtain ⟨rParseRat3,hr10,h⟩:=bindSome h
  refine rnH hE 1 [(1,⟨[],true,(qzd41 rParseRat3),[],0,false,none⟩)] (kp [2,5,6,7,8,9,10,11,12,13,14,15,16,17,18]) (kq [0,336,464,592,720,848,976]) 1024 (pc (g_e_ParseRat_ok _ _ _ hr10) (pc o1 pn)) ?_
  obtain ⟨rFormat2,hr11,h⟩:=bindSome h
  obtain ⟨rFormatRat2,hr12,h⟩:=bindSome h
  obtain ⟨rSameInt,hr13,h⟩:=bindSome h
  obtain ⟨rrat,hr14,h⟩:=bindSome h
  refine rnH hE 2 [(3,⟨[],true,(aS rFormat2),[],0,false,none⟩),(8,⟨[],true,(aS rFormatRat2),[],0,false,none⟩),(14,⟨[],true,(aB rSameInt),[],0,false,none⟩),(27,⟨[],true,(aB rrat),[],0,false,none⟩)] (kp [2,15,16,17,18,91]) (kq [0,848,976]) 1504 (pc o1 (pc (g_r01_Format_ok _ _ _ hr11) (pc (fun hg:(!(!(streq rFormat rFormat2)))=true=>(pc o1 pn)) (pc (fun hg:(!(!(streq rFormat rFormat2)))=true=>(pc (g_r01_FormatRat_ok _ _ _ (condT hr12 hg)) (pc hg pn))) (pc (fun hg:(!(!(streq rFormat rFormat2)))=true=>(pc hg (pc hg pn))) (pc (fun hq:(!(!(streq rFormat rFormat2)))=true=>(pc hq pn)) (pc (fun hg:(!(qzd147 rFormat rFormat2 rFormatRat rFormatRat2))=true=>(pc o1 pn)) (pc (fun hg:(!(qzd147 rFormat rFormat2 rFormatRat rFormatRat2))=true=>(pc o1 pn)) (pc (fun hg:(!(qzd147 rFormat rFormat2 rFormatRat rFormatRat2))=true=>(pc (g_b_SameInt_ok _ _ _ _ (condT hr13 hg)) (pc hg (pc hg pn)))) (pc (fun hg:(!(qzd147 rFormat rFormat2 rFormatRat rFormatRat2))=true=>(pc hg pn)) (pc (fun hq:(!(qzd147 rFormat rFormat2 rFormatRat rFormatRat2))=true=>(pc hq pn)) (pc (fun hg:(!(cond (qzd147 rFormat rFormat2 rFormatRat rFormatRat2) true (!rSameInt)))=true=>(pc hg (pc hg pn))) (pc (fun hq:(!(cond (qzd147 rFormat rFormat2 rFormatRat rFormatRat2) true (!rSameInt)))=true=>(pc hq pn)) (pc (fun hg:(qzd1 rFormat rFormat2 rFormatRat rFormatRat2 rSameInt rParse rParse2)=true=>(pc o1 pn)) (pc (fun hg:(qzd1 rFormat rFormat2 rFormatRat rFormatRat2 rSameInt rParse rParse2)=true=>(pc o1 pn)) (pc (fun hg:(qzd1 rFormat rFormat2 rFormatRat rFormatRat2 rSameInt rParse rParse2)=true=>(pc (g_w01_rat_ok _ _ _ _ _ _ (condT hr14 hg)) (pc hg (pc hg (pc hg (pc hg pn)))))) (pc (fun hg:(qzd1 rFormat rFormat2 rFormatRat rFormatRat2 rSameInt rParse rParse2)=true=>(pc hg pn)) (pc (fun hq:(qzd1 rFormat rFormat2 rFormatRat rFormatRat2 rSameInt rParse rParse2)=true=>(pc hq pn)) pn)))))))))))))))))) <| Runs.nC 0 91 h (fun hq3 h=>?_) (fun hq3 h=>?_)
  ·refine rnZ hE 1 (kp [4]) [] 1520 ?_
   obtain rfl:=Option.some.inj h
   exact rnU hE 0 Tryd.f3 (kp [4]) [] 1520
  ·obtain ⟨rNorm,hr15,h⟩:=bindSome h
   obtain ⟨rSameInt2,hr16,h⟩:=bindSome h
   obtain ⟨rNormRat,hr17,h⟩:=bindSome h
   obtain ⟨rrat2,hr18,h⟩:=bindSome h
   obtain ⟨rawake2,hr19,h⟩:=bindSome h
   refine rnH hE 2 [(6,⟨[],true,(qzd30 rNorm),[],0,false,none⟩),(7,⟨[],true,(aB rSameInt2),[],0,false,none⟩),(13,⟨[],true,(qzd31 rNormRat),[],0,false,none⟩),(14,⟨[],true,(aB rrat2),[],0,false,none⟩),(17,⟨[],true,(aB rawake2),[],0,false,none⟩)] (kp [4]) [] 1824 (pc (fun hg:(rParse3.2 == 0)=true=>(pc o1 pn)) (pc (fun hg:(rParse3.2 == 0)=true=>(pc hg (pc o1 pn))) (pc (fun hg:(rParse3.2 == 0)=true=>(pc (g_r01_Norm_ok _ _ _ (condT hr15 hg)) (pc hg pn))) (pc (fun hg:(rParse3.2 == 0)=true=>(pc (g_b_SameInt_ok _ _ _ _ (condT hr16 hg)) (pc hg (pc hg pn)))) (pc (fun hq:(rParse3.2 == 0)=true=>(pc hq pn)) (pc (fun hg:(cond (rParse3.2 == 0) rSameInt2 false)=true=>(pc o1 pn)) (pc (fun hg:(cond (rParse3.2 == 0) rSameInt2 false)=true=>(pc o1 pn)) (pc (fun hg:(cond (rParse3.2 == 0) rSameInt2 false)=true=>(pc (g_r01_NormRat_ok _ _ _ (condT hr17 hg)) (pc hg pn))) (pc (fun hg:(cond (rParse3.2 == 0) rSameInt2 false)=true=>(pc (g_w01_rat_ok _ _ _ _ _ _ (condT hr18 hg)) (pc hg (pc hg (pc hg pn))))) (pc (fun hq:(cond (rParse3.2 == 0) rSameInt2 false)=true=>(pc hq pn)) (pc (fun hg:(cond (cond (rParse3.2 == 0) rSameInt2 false) rrat2 false)=true=>(pc (g_w01_awake_ok _ _ (condT hr19 hg)) pn)) (pc (fun hq:(cond (cond (rParse3.2 == 0) rSameInt2 false) rrat2 false)=true=>(pc hq pn)) pn)))))))))))) ?_
   cases h
   exact rnU hE 0 Tryd.f3 (kp [4]) [] 1824
end Go.Den
