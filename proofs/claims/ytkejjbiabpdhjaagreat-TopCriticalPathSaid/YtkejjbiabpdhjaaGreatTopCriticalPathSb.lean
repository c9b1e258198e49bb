/- Each function of the program does what its Lean function computes (part 2). No conditions. -/
import Derived.Test.YtkejjbiabpdhjaaGreatTopCriticalPathSa
import Derived.Test.YtkejjbiabpdhjaaGreatProg
set_option linter.unusedVariables false
set_option maxRecDepth 100000
namespace Go.Den
open Go.Ab Go.Proofs Go.Ab.ar
theorem KJ (N w fuel):M5 N w (lU N w fuel):=by
 induction fuel with
 | zero=>intro _ r h;rw [lU.eq_1] at h;cases h
 | succ fuel f =>
  intro b r h E c;rw [lU.eq_2] at h;refine bD c 2 (kp [2,7,104]) (kq [0]) 81 (pc o1 pn) <| b9 0 104 h (fun g h=>?_) (fun g h=>?_)
  ·obtain ⟨i,h⟩:=ae h;refine bD c 4 (kp [2,7,8]) Ai 193 (pc o1 (pc i (pc o1 pn))) ?_;obtain ⟨j,k,h⟩:=a7 h;refine bc c 1 [(31,oT (aB j))] (kp [2,7,145]) (kq [0]) 737 (pc o1 (pc (fun a:(acJ w b)=true=>(pc a (pc o1 pn))) (pc (fun a:(acJ w b)=true=>(pc a pn)) (pc (fun a:(acJ w b)=true=>(pc a pn)) (pc (fun d:(acJ w b)=true=>(pc d pn)) (pc (fun a:(acH w b)=true=>(pc a (pc o1 pn))) (pc (fun a:(acH w b)=true=>(pc a pn)) (pc (fun a:(acH w b)=true=>(pc a pn)) (pc (fun d:(acH w b)=true=>(pc d pn)) (pc (fun a:(acE w b)=true=>(pc a (pc o1 pn))) (pc (fun a:(acE w b)=true=>(pc a pn)) (pc (fun a:(acE w b)=true=>(pc a pn)) (pc (fun d:(acE w b)=true=>(pc d pn)) (pc (fun a:(acC w b)=true=>(pc a (pc o1 pn))) (pc (fun a:(acC w b)=true=>(pc a pn)) (pc (fun a:(acC w b)=true=>(pc a pn)) (pc (fun d:(acC w b)=true=>(pc d pn)) (pc (fun a:(ale w b)=true=>(pc a (pc o1 pn))) (pc (fun a:(ale w b)=true=>(pc (Hc _ _ _ (aW k a)) (pc a pn))) (pc (fun a:(ale w b)=true=>(pc a pn)) (pc (fun d:(ale w b)=true=>(pc d pn)) pn))))))))))))))))))))) <| b9 0 145 h (fun e h=>?_) (fun e h=>?_)
   ·refine ah c 1 (kp [4]) [] 753 ?_;obtain rfl:=lk h;exact dN c 0 Tryz.f5 (kp [4]) [] 753
   ·refine ah c 2 (kp [2,7]) (kq [0]) 785 <| cd c 1 (kp [2,7]) (kq [0]) 1 (f _ _ h E c)
  ·refine ah c 2 (kp [4]) [] 97 ?_;obtain rfl:=lk h;exact dN c 0 Tryz.f5 (kp [4]) [] 97
theorem KK (N w fuel):M4 N w (lV N w fuel):=by
 induction fuel with
 | zero=>intro _ r h;rw [lV.eq_1] at h;cases h
 | succ fuel f =>
  intro b r h E c;rw [lV.eq_2] at h;refine bD c 2 (kp [2,6,69]) (kq [0]) 81 (pc o1 pn) <| b9 0 69 h (fun g h=>?_) (fun g h=>?_)
  ·obtain ⟨i,h⟩:=ae h;obtain ⟨j,h⟩:=ae h;obtain ⟨k,h⟩:=ae h;obtain ⟨d,l,h⟩:=a7 h;refine bc c 4 [(25,oT (aB d))] (kp [2,6,99]) (kq [0]) 529 (pc o1 (pc i (pc (fun a:(QH w b)=true=>(pc a (pc o1 pn))) (pc (fun a:(QH w b)=true=>(pc a (pc a (pc (j a) pn)))) (pc (fun a:(QH w b)=true=>(pc a pn)) (pc (fun a:(QH w b)=true=>(pc a pn)) (pc (fun a:(QH w b)=true=>(pc a pn)) (pc (fun a:(QH w b)=true=>(pc a pn)) (pc (fun e:(QH w b)=true=>(pc e pn)) (pc (fun a:(QF w b)=true=>(pc a (pc o1 pn))) (pc (fun a:(QF w b)=true=>(pc a (pc a (pc (k a) pn)))) (pc (fun a:(QF w b)=true=>(pc a pn)) (pc (fun a:(QF w b)=true=>(pc a pn)) (pc (fun a:(QF w b)=true=>(pc (Hc _ _ _ (aW l a)) (pc a pn))) (pc (fun a:(QF w b)=true=>(pc a pn)) (pc (fun e:(QF w b)=true=>(pc e pn)) pn)))))))))))))))) <| b9 0 99 h (fun m h=>?_) (fun m h=>?_)
   ·refine ah c 1 (kp [4]) [] 545 ?_;obtain rfl:=lk h;exact dN c 0 Tryz.f5 (kp [4]) [] 545
   ·refine ah c 2 (kp [2,6]) (kq [0]) 577 <| cd c 1 (kp [2,6]) (kq [0]) 1 (f _ _ h E c)
  ·refine ah c 3 (kp [2,7]) (kq [0]) 97 <| cd c 2 (kp [2,7]) (kq [0]) 1 (KJ N _ N _ _ h E c)
theorem KL (N w fuel):M3 N w (lW N w fuel):=by
 induction fuel with
 | zero=>intro _ r h;rw [lW.eq_1] at h;cases h
 | succ fuel b =>
  intro i r h E a;rw [lW.eq_2] at h;refine bD a 2 (kp [2,5,54]) (kq [0]) 81 (pc o1 pn) <| b9 0 54 h (fun d h=>?_) (fun d h=>?_)
  ·obtain ⟨c,h⟩:=ae h;refine bD a 4 (kp [2,5,64]) (kq [0]) 209 (pc o1 (pc c pn)) <| b9 0 64 h (fun e h=>?_) (fun e h=>?_)
   ·refine ah a 1 (kp [4]) [] 225 ?_;obtain rfl:=lk h;exact dN a 0 Tryz.f5 (kp [4]) [] 225
   ·refine ah a 2 (kp [2,5]) (kq [0]) 257 <| cd a 1 (kp [2,5]) (kq [0]) 1 (b _ _ h E a)
  ·refine ah a 3 (kp [2,6]) (kq [0]) 97 <| cd a 2 (kp [2,6]) (kq [0]) 1 (KK N _ N _ _ h E a)
theorem RX (N w b r) (h:xN N w b=some r):Sd 5 [(mJ w),(aI b)] [] 0 (aB r) []:=by
 unfold xN at h;refine sO Tryz.f5 146 fun E d=>?_;refine ah d 1 (kp [1,2]) (kq [0]) 32 <| bD d 2 (kp [2,49]) (kq [0]) 688 (pc o1 (pc (fun a:(acI w)=true=>(pc a (pc o1 pn))) (pc (fun a:(acI w)=true=>(pc a pn)) (pc (fun a:(acI w)=true=>(pc a pn)) (pc (fun c:(acI w)=true=>(pc c pn)) (pc (fun a:(acG w)=true=>(pc a (pc o1 pn))) (pc (fun a:(acG w)=true=>(pc a pn)) (pc (fun a:(acG w)=true=>(pc a pn)) (pc (fun c:(acG w)=true=>(pc c pn)) (pc (fun a:(acD w)=true=>(pc a (pc o1 pn))) (pc (fun a:(acD w)=true=>(pc a pn)) (pc (fun a:(acD w)=true=>(pc a pn)) (pc (fun c:(acD w)=true=>(pc c pn)) (pc (fun a:(X6 w)=true=>(pc a (pc o1 pn))) (pc (fun a:(X6 w)=true=>(pc a pn)) (pc (fun a:(X6 w)=true=>(pc a (pc a pn))) (pc (fun a:(acL w b)=true=>(pc a (pc o1 pn))) (pc (fun a:(acL w b)=true=>(pc a pn)) (pc (fun a:(acL w b)=true=>(pc a pn)) (pc (fun a:(X6 w)=true=>(pc a (pc a (pc (fun c:(decide ((BS w) > b))=true=>(pc (show (acL w b)=true from (pZ a (pZ a c))) pn)) pn)))) (pc (fun c:(X6 w)=true=>(pc c pn)) (pc (fun a:(ald w b)=true=>(pc a (pc o1 pn))) (pc (fun a:(ald w b)=true=>(pc a pn)) (pc (fun a:(ald w b)=true=>(pc a pn)) (pc (fun c:(ald w b)=true=>(pc c pn)) pn))))))))))))))))))))))))) <| b9 0 49 h (fun e h=>?_) (fun e h=>?_)
 ·refine ah d 1 (kp [4]) [] 704 ?_;obtain rfl:=lk h;exact dN d 0 Tryz.f5 (kp [4]) [] 704
 ·refine ah d 3 (kp [2,5]) (kq [0]) 704 <| cd d 2 (kp [2,5]) (kq [0]) 1 (KL N _ N _ _ h E d)
noncomputable abbrev aof:=bt Tryz.f28
def OL (N:Nat) (s:ByteArray) (K:Int->Option (Bool)):Prop:=∀ (i:Int) (r:Bool),K i=some r->∀ E,aG E 0->ar Tryz.prog E 28 55 (aH E [] (aB r)) [.code (aof 116),.inLoop (aof 116),.inBlock 0,.code (aof 15)] ⟨[(0,(aS s)),(3,(aI i))],[],0⟩
theorem M6 (N s fuel):OL N s (ko N s fuel):=by
 induction fuel with
 | zero=>intro _ r h;rw [ko.eq_1] at h;cases h
 | succ fuel e =>
  intro i r h E d;rw [ko.eq_2] at h;refine ah d 2 (kp [0,3,17]) [] 64 <| b9 0 17 h (fun f h=>?_) (fun f h=>?_)
  ·obtain ⟨c,h⟩:=ae h;refine bD d 4 Rj [] 128 (pc c pn) <| bD d 1 (kp [0,3,4,5]) [] 368 (pc (fun a:(VL s i)=true=>(pc a pn)) (pc (fun b:(VL s i)=true=>(pc b pn)) (pc (fun a:(Uf s i)=true=>(pc a pn)) (pc (fun a:(acM s i)=true=>(pc a pn)) (pc (fun a:(Uf s i)=true=>(pc a (pc a (pc (fun b:(Vo s i)=true=>(pc (show (acM s i)=true from (pZ a (pZ a b))) pn)) pn)))) (pc (fun b:(Uf s i)=true=>(pc b pn)) pn)))))) <| bD d 1 (kp [0,3,54]) [] 656 (pc (fun a:(Ue s i)=true=>(pc a pn)) (pc (fun a:(Ui s i)=true=>(pc a pn)) (pc (fun a:(Uj s i)=true=>(pc a pn)) (pc (fun a:(acQ s i)=true=>(pc a pn)) (pc (fun a:(Uj s i)=true=>(pc a (pc a (pc (fun b:(!(decide ((zA s i) < 48)))=true=>(pc (show (acQ s i)=true from (pZ a (pZ a b))) pn)) pn)))) (pc (fun a:(Ui s i)=true=>(pc a (pc a (pc (fun b:((zA s i) != 45)=true=>(pc (show (Uj s i)=true from (pZ a (pZ a b))) pn)) pn)))) (pc (fun a:(Ue s i)=true=>(pc a (pc a (pc (fun b:(!(i == 0))=true=>(pc (show (Ui s i)=true from (pZ a (pZ a b))) pn)) pn)))) (pc (fun b:(Ue s i)=true=>(pc b pn)) pn)))))))) <| b9 0 54 h (fun g h=>?_) (fun g h=>?_)
   ·refine ah d 1 (kp [2]) [] 672 ?_;obtain rfl:=lk h;exact dN d 0 Tryz.f28 (kp [2]) [] 672
   ·refine ah d 2 (kp [0,3]) [] 704 <| cd d 1 (kp [0,3]) [] 0 (e _ _ h E d)
  ·refine ah d 2 (kp [2]) [] 80 ?_;obtain rfl:=lk h;exact dN d 0 Tryz.f28 (kp [2]) [] 80
theorem Cd (N s r) (h:qm N s=some r):Sd 28 [(aS s)] [] 0 (aB r) []:=by
 unfold qm at h;refine sO Tryz.f28 55 fun E a=>?_;refine ah a 1 (kp [0]) [] 16 <| bD a 2 (kp [0,13]) [] 144 (pc (fun b:(Ug s)=true=>(pc b pn)) (pc (fun b:(Ug s)=true=>(pc b pn)) (pc (fun c:(Ug s)=true=>(pc c pn)) pn))) <| b9 0 13 h (fun d h=>?_) (fun d h=>?_)
 ·refine ah a 1 (kp [2]) [] 160 ?_;obtain rfl:=lk h;exact dN a 0 Tryz.f28 (kp [2]) [] 160
 ·refine ah a 3 (kp [0,3]) [] 160 <| cd a 2 (kp [0,3]) [] 0 (M6 N _ N _ _ h E a)
noncomputable abbrev aog:=bt Tryz.f75
def JL (N:Nat) (w:aq) (a:ByteArray) (K:Int->Option (Int)):Prop:=∀ (i:Int) (r:Int),K i=some r->∀ E,aG E 0->ar Tryz.prog E 75 22 (aH E [] (aI r)) [.code (aog 52),.inLoop (aog 52),.inBlock 0,.code (aog 7)] ⟨[(1,(aS a)),(2,(.op 0 0 0)),(5,(aI i))],[(eI w)],1⟩
theorem Ip (N w name fuel):JL N w name (j3 N w name fuel):=by
 induction fuel with
 | zero=>intro _ r h;rw [j3.eq_1] at h;cases h
 | succ fuel b =>
  intro i r h E a;rw [j3.eq_2] at h;refine bD a 2 (kp [1,2,5,10]) (kq [0]) 81 (pc o1 pn) <| b9 0 10 h (fun d h=>?_) (fun d h=>?_)
  ·obtain ⟨c,h⟩:=ae h;refine bD a 4 (kp [1,2,5,20]) (kq [0]) 209 (pc o1 (pc c pn)) <| b9 0 20 h (fun e h=>?_) (fun e h=>?_)
   ·refine ah a 1 (kp [4]) [] 241 ?_;obtain rfl:=lk h;exact dN a 0 Tryz.f75 (kp [4]) [] 241
   ·refine ah a 2 qB (kq [0]) 257 <| cd a 1 qB (kq [0]) 1 (b _ _ h E a)
  ·refine ah a 2 (kp [4]) [] 97 ?_;cases h;exact dN a 0 Tryz.f75 (kp [4]) [] 97
theorem Dn (N w name r) (h:qU N w name=some r):Sd 75 [(mJ w),(aS name)] [] 0 (aI r) []:=by
 unfold qU at h;refine sO Tryz.f75 22 fun E a=>?_;refine ah a 1 (kp [1,2]) (kq [0]) 32 <| ah a 2 qB (kq [0]) 48 <| cd a 2 qB (kq [0]) 1 (Ip N _ _ N _ _ h E a)
theorem fc (N n low high r) (h:fW N n low high=some r):Sd 31 [(aI n),(aI low),(aI high)] [] 0 (aB r) []:=by
 unfold fW at h;refine sO Tryz.f31 15 fun E a=>?_;refine ah a 1 qA [] 16 <| bD a 1 (kp [6]) [] 160 (pc (fun b:(decide (n>=low))=true=>(pc b (pc b pn))) (pc (fun c:(decide (n>=low))=true=>(pc c pn)) pn)) ?_
 cases h;exact dN a 0 Tryz.f31 (kp [6]) [] 160
noncomputable abbrev aoh:=bt Tryz.f26
def EC (N:Nat) (w:aq) (K:Int->Option (Int)):Prop:=∀ (i:Int) (r:Int),K i=some r->∀ E,aG E 0->ar Tryz.prog E 26 41 (aH E [] (aI r)) [.code (aoh 116),.inLoop (aoh 116),.inBlock 0,.code (aoh 15)] ⟨[(1,(.op 0 0 0)),(3,(aI i))],[(eI w)],1⟩
theorem Dp (N w fuel):EC N w (gu N w fuel):=by
 induction fuel with
 | zero=>intro _ r h;rw [gu.eq_1] at h;cases h
 | succ fuel e =>
  intro i r h E a;rw [gu.eq_2] at h;refine bD a 2 (kp [1,3,13]) (kq [0]) 81 (pc o1 pn) <| b9 0 13 h (fun f h=>?_) (fun f h=>?_)
  ·obtain ⟨c,h⟩:=ae h;refine bD a 4 B2 Ai 193 (pc o1 (pc c (pc o1 pn))) ?_;obtain ⟨g,j,h⟩:=a7 h;refine bc a 2 [(2,oT (aB g))] (kp [1,3,4,24]) Ai 257 (pc o1 (pc (Cd _ _ _ j) pn)) <| b9 0 24 h (fun k h=>?_) (fun k h=>?_)
   ·refine ah a 1 (kp [2]) [] 273 ?_;cases h;exact dN a 0 Tryz.f26 (kp [2]) [] 273
   ·obtain ⟨l,m,h⟩:=a7 h;refine bc a 3 [(3,oT (aI l))] (kp [1,3,4,30]) Ai 353 (pc o1 (pc o1 (pc (Dn _ _ _ _ m) pn))) <| b9 0 30 h (fun n h=>?_) (fun n h=>?_)
    ·refine ah a 1 (kp [2]) [] 369 ?_;cases h;exact dN a 0 Tryz.f26 (kp [2]) [] 369
    ·obtain ⟨d,o,h⟩:=a7 h;obtain ⟨p,q,h⟩:=a7 h;refine bc a 2 [(2,oT (aB d)),(7,oT (aB p))] (kp [1,3,40]) (kq [0]) 513 (pc o1 (pc (fc _ _ _ _ _ o) (pc (fun b:(!(!d))=true=>(pc b (pc o1 pn))) (pc (fun b:(!(!d))=true=>(pc (fc _ _ _ _ _ (aW q b)) (pc b pn))) (pc (fun b:(!(!d))=true=>(pc b pn)) (pc (fun s:(!(!d))=true=>(pc s pn)) pn)))))) <| b9 0 40 h (fun t h=>?_) (fun t h=>?_)
     ·refine ah a 1 (kp [2]) [] 529 ?_;cases h;exact dN a 0 Tryz.f26 (kp [2]) [] 529
     ·refine ah a 2 (kp [1,3]) (kq [0]) 561 <| cd a 1 (kp [1,3]) (kq [0]) 1 (e _ _ h E a)
  ·refine ah a 2 (kp [2]) [] 97 ?_;cases h;exact dN a 0 Tryz.f26 (kp [2]) [] 97
theorem Hd (N w r) (h:mv N w=some r):Sd 26 [(mJ w)] [] 0 (aI r) []:=by
 unfold mv at h;refine sO Tryz.f26 41 fun E a=>?_;refine ah a 1 (kp [1]) (kq [0]) 32 <| bD a 2 (kp [1,8]) (kq [0]) 96 (pc o1 pn) <| b9 0 8 h (fun b h=>?_) (fun b h=>?_)
 ·refine ah a 1 (kp [2]) [] 112 ?_;cases h;exact dN a 0 Tryz.f26 (kp [2]) [] 112
 ·refine ah a 3 (kp [1,3]) (kq [0]) 112 <| cd a 2 (kp [1,3]) (kq [0]) 1 (Dp N _ N _ _ h E a)
noncomputable abbrev aoi:=bt Tryz.f76
def JM (N:Nat) (w:aq) (a:ByteArray) (K:Int->Option (Int)):Prop:=∀ (i:Int) (r:Int),K i=some r->∀ E,aG E 0->ar Tryz.prog E 76 22 (aH E [] (aI r)) [.code (aoi 52),.inLoop (aoi 52),.inBlock 0,.code (aoi 7)] ⟨[(1,(aS a)),(2,(.op 0 0 0)),(5,(aI i))],[(eI w)],1⟩
theorem Iq (N w name fuel):JM N w name (gi N w name fuel):=by
 induction fuel with
 | zero=>intro _ r h;rw [gi.eq_1] at h;cases h
 | succ fuel b =>
  intro i r h E a;rw [gi.eq_2] at h;refine bD a 2 (kp [1,2,5,10]) (kq [0]) 81 (pc o1 pn) <| b9 0 10 h (fun d h=>?_) (fun d h=>?_)
  ·obtain ⟨c,h⟩:=ae h;refine bD a 4 (kp [1,2,5,20]) (kq [0]) 209 (pc o1 (pc c pn)) <| b9 0 20 h (fun e h=>?_) (fun e h=>?_)
   ·refine ah a 1 (kp [4]) [] 241 ?_;obtain rfl:=lk h;exact dN a 0 Tryz.f76 (kp [4]) [] 241
   ·refine ah a 2 qB (kq [0]) 257 <| cd a 1 qB (kq [0]) 1 (b _ _ h E a)
  ·refine ah a 2 (kp [4]) [] 97 ?_;cases h;exact dN a 0 Tryz.f76 (kp [4]) [] 97
theorem w8 (N w name r) (h:nv N w name=some r):Sd 76 [(mJ w),(aS name)] [] 0 (aI r) []:=by
 unfold nv at h;refine sO Tryz.f76 22 fun E a=>?_;refine ah a 1 (kp [1,2]) (kq [0]) 32 <| ah a 2 qB (kq [0]) 48 <| cd a 2 qB (kq [0]) 1 (Iq N _ _ N _ _ h E a)
noncomputable abbrev KM:=bt Tryz.f27
def v9 (N:Nat) (w:aq) (K:Int->Option (Int)):Prop:=∀ (i:Int) (r:Int),K i=some r->∀ E,aG E 0->ar Tryz.prog E 27 114 (aH E [] (aI r)) [.code (KM 116),.inLoop (KM 116),.inBlock 0,.code (KM 15)] ⟨[(1,(.op 0 0 0)),(3,(aI i))],[(eI w)],1⟩
def ED (N:Nat) (w:aq) (i:Int) (K:Int->Option (Int)):Prop:=∀ (k:Int) (r:Int),K k=some r->∀ E,aG E 0->ar Tryz.prog E 27 114 (aH E [] (aI r)) [.code (KM 59708),.inLoop (KM 59708),.inBlock 2,.inBlock 1,.code (KM 467),.inLoop (KM 116),.inBlock 0,.code (KM 15)] ⟨[(1,(.op 0 0 0)),(3,(aI i)),(4,(.op 1 0 0)),(5,(aI k))],[(eI w),(1,vO 3 (dj.cells (w.bm.getD i.toNat dj.d)))],2⟩
theorem Dq (N:Nat) (w:aq) (i:Int) (b:Int->Option (Int)) (c:v9 N w b) (fuel:Nat):ED N w i (dw N w i b fuel):=by
 induction fuel with
 | zero=>intro _ r h;rw [dw.eq_1] at h;cases h
 | succ fuel d =>
  intro k r h E a;rw [dw.eq_2] at h;refine bD a 2 (kp [1,3,4,5,40]) (kq [0,1]) 82 (pc o1 pn) <| b9 0 40 h (fun e h=>?_) (fun e h=>?_)
  ·obtain ⟨f,h⟩:=ae h;obtain ⟨g,j,h⟩:=a7 h;refine bc a 4 [(6,oT (aI g))] (kp [1,3,4,5,50]) (kq [0,1]) 210 (pc o1 (pc o1 (pc f (pc (w8 _ _ _ _ j) pn)))) <| b9 0 50 h (fun l h=>?_) (fun l h=>?_)
   ·refine ah a 1 (kp [2]) [] 226 ?_;cases h;exact dN a 0 Tryz.f27 (kp [2]) [] 226
   ·refine ah a 2 uF (kq [0,1]) 258 <| cd a 1 uF (kq [0,1]) 2 (d _ _ h E a)
  ·refine ah a 2 (kp [1,3]) (kq [0]) 130 <| cd a 1 (kp [1,3]) (kq [0]) 1 (c _ _ h E a)
def EE (N:Nat) (w:aq) (K:Int->Option (Int)):Prop:=∀ (a:Int) (r:Int),K a=some r->∀ E,aG E 0->ar Tryz.prog E 27 114 (aH E [] (aI r)) [.code (KM 500),.inLoop (KM 500),.inBlock 4,.code (KM 63)] ⟨[(1,(.op 0 0 0)),(6,(aI a))],[(eI w)],1⟩
def EF (N:Nat) (w:aq) (K:Int->Option (Int)):Prop:=∀ (a:Int) (r:Int),K a=some r->∀ E,aG E 0->ar Tryz.prog E 27 114 (aH E [] (aI r)) [.code (KM 2036),.inLoop (KM 2036),.inBlock 6,.code (KM 255)] ⟨[(1,(.op 0 0 0)),(8,(aI a))],[(eI w)],1⟩
theorem Ds (N w fuel):EF N w (gy N w fuel):=by
 induction fuel with
 | zero=>intro _ r h;rw [gy.eq_1] at h;cases h
 | succ fuel i =>
  intro n r h E a;rw [gy.eq_2] at h;refine bD a 2 (kp [1,8,91]) (kq [0]) 81 (pc o1 pn) <| b9 0 91 h (fun d h=>?_) (fun d h=>?_)
  ·obtain ⟨j,h⟩:=ae h;refine bD a 4 (kp [1,8,9]) Ai 193 (pc o1 (pc j (pc o1 pn))) ?_;obtain ⟨c,k,h⟩:=a7 h;obtain ⟨e,l,h⟩:=a7 h;refine bc a 2 [(2,oT (aB c)),(7,oT (aB e))] (kp [1,8,9,108]) Ai 353 (pc o1 (pc (fc _ _ _ _ _ k) (pc (fun b:(!(!c))=true=>(pc b (pc o1 pn))) (pc (fun b:(!(!c))=true=>(pc (fc _ _ _ _ _ (aW l b)) (pc b pn))) (pc (fun b:(!(!c))=true=>(pc b pn)) (pc (fun m:(!(!c))=true=>(pc m pn)) pn)))))) <| b9 0 108 h (fun f h=>?_) (fun f h=>?_)
   ·refine ah a 1 (kp [2]) [] 369 ?_;cases h;exact dN a 0 Tryz.f27 (kp [2]) [] 369
   ·refine bD a 2 (kp [1,8,113]) (kq [0]) 433 (pc o1 (pc o1 pn)) <| b9 0 113 h (fun g h=>?_) (fun g h=>?_)
    ·refine ah a 1 (kp [2]) [] 449 ?_;cases h;exact dN a 0 Tryz.f27 (kp [2]) [] 449
    ·refine ah a 2 (kp [1,8]) (kq [0]) 481 <| cd a 1 (kp [1,8]) (kq [0]) 1 (i _ _ h E a)
  ·refine ah a 2 (kp [2]) [] 97 ?_;cases h;exact dN a 0 Tryz.f27 (kp [2]) [] 97
theorem Dt (N w fuel):EE N w (gz N w fuel):=by
 induction fuel with
 | zero=>intro _ r h;rw [gz.eq_1] at h;cases h
 | succ fuel j =>
  intro p r h E a;rw [gz.eq_2] at h;refine bD a 2 (kp [1,6,59]) (kq [0]) 81 (pc o1 pn) <| b9 0 59 h (fun e h=>?_) (fun e h=>?_)
  ·obtain ⟨k,h⟩:=ae h;refine bD a 4 (kp [1,6,7]) Ai 193 (pc o1 (pc k (pc o1 pn))) ?_;obtain ⟨c,l,h⟩:=a7 h;obtain ⟨d,m,h⟩:=a7 h;obtain ⟨n,o,h⟩:=a7 h;refine bc a 1 [(2,oT (aB c)),(7,oT (aB d)),(13,oT (aB n))] (kp [1,6,82]) (kq [0]) 449 (pc o1 (pc (fc _ _ _ _ _ l) (pc (fun b:(!(!c))=true=>(pc b (pc o1 pn))) (pc (fun b:(!(!c))=true=>(pc (fc _ _ _ _ _ (aW m b)) (pc b pn))) (pc (fun b:(!(!c))=true=>(pc b pn)) (pc (fun f:(!(!c))=true=>(pc f pn)) (pc (fun b:(Im c d)=true=>(pc b (pc o1 pn))) (pc (fun b:(Im c d)=true=>(pc (fc _ _ _ _ _ (aW o b)) (pc b pn))) (pc (fun b:(Im c d)=true=>(pc b pn)) (pc (fun f:(Im c d)=true=>(pc f pn)) pn)))))))))) <| b9 0 82 h (fun g h=>?_) (fun g h=>?_)
   ·refine ah a 1 (kp [2]) [] 465 ?_;cases h;exact dN a 0 Tryz.f27 (kp [2]) [] 465
   ·refine ah a 2 (kp [1,6]) (kq [0]) 497 <| cd a 1 (kp [1,6]) (kq [0]) 1 (j _ _ h E a)
  ·refine bD a 3 (kp [1,86]) (kq [0]) 145 (pc o1 pn) <| b9 0 86 h (fun i h=>?_) (fun i h=>?_)
   ·refine ah a 1 (kp [2]) [] 161 ?_;cases h;exact dN a 0 Tryz.f27 (kp [2]) [] 161
   ·refine ah a 3 (kp [1,8]) (kq [0]) 161 <| cd a 2 (kp [1,8]) (kq [0]) 1 (Ds N _ N _ _ h E a)
theorem Du (N w fuel):v9 N w (fF N w fuel):=by
 induction fuel with
 | zero=>intro _ r h;rw [fF.eq_1] at h;cases h
 | succ fuel d =>
  intro i r h E a;rw [fF.eq_2] at h;refine bD a 2 (kp [1,3,18]) (kq [0]) 81 (pc o1 pn) <| b9 0 18 h (fun e h=>?_) (fun e h=>?_)
  ·obtain ⟨c,h⟩:=ae h;refine bD a 4 B2 Ai 193 (pc o1 (pc c (pc o1 pn))) ?_;obtain ⟨f,g,h⟩:=a7 h;refine bc a 2 [(2,oT (aB f))] (kp [1,3,4,29]) Ai 257 (pc o1 (pc (Cd _ _ _ g) pn)) <| b9 0 29 h (fun j h=>?_) (fun j h=>?_)
   ·refine ah a 1 (kp [2]) [] 273 ?_;cases h;exact dN a 0 Tryz.f27 (kp [2]) [] 273
   ·obtain ⟨k,l,h⟩:=a7 h;refine bc a 3 [(3,oT (aI k))] (kp [1,3,4,35]) Ai 353 (pc o1 (pc o1 (pc (w8 _ _ _ _ l) pn))) <| b9 0 35 h (fun m h=>?_) (fun m h=>?_)
    ·refine ah a 1 (kp [2]) [] 369 ?_;cases h;exact dN a 0 Tryz.f27 (kp [2]) [] 369
    ·refine ah a 2 uF Ai 369 <| cd a 2 uF (kq [0] ++ [(1,.aj 161)]) 2 (Dq N _ _ _ d N _ _ h E a)
  ·refine bD a 3 (kp [1,54]) (kq [0]) 145 (pc o1 pn) <| b9 0 54 h (fun b h=>?_) (fun b h=>?_)
   ·refine ah a 1 (kp [2]) [] 161 ?_;cases h;exact dN a 0 Tryz.f27 (kp [2]) [] 161
   ·refine ah a 3 (kp [1,6]) (kq [0]) 161 <| cd a 2 (kp [1,6]) (kq [0]) 1 (Dt N _ N _ _ h E a)
theorem He (N w r) (h:mw N w=some r):Sd 27 [(mJ w)] [] 0 (aI r) []:=by
 unfold mw at h;refine sO Tryz.f27 114 fun E a=>?_;refine ah a 1 (kp [1]) (kq [0]) 32 <| bD a 2 (kp [1,13]) (kq [0]) 96 (pc o1 pn) <| b9 0 13 h (fun b h=>?_) (fun b h=>?_)
 ·refine ah a 1 (kp [2]) [] 112 ?_;cases h;exact dN a 0 Tryz.f27 (kp [2]) [] 112
 ·refine ah a 3 (kp [1,3]) (kq [0]) 112 <| cd a 2 (kp [1,3]) (kq [0]) 1 (Du N _ N _ _ h E a)
noncomputable abbrev aok:=bt Tryz.f29
def KN (N:Nat) (w:aq) (a:ByteArray) (K:Int->Option (Int)):Prop:=∀ (i:Int) (r:Int),K i=some r->∀ E,aG E 0->ar Tryz.prog E 29 22 (aH E [] (aI r)) [.code (aok 52),.inLoop (aok 52),.inBlock 0,.code (aok 7)] ⟨[(1,(aS a)),(2,(.op 0 0 0)),(5,(aI i))],[(eI w)],1⟩
theorem JN (N w name fuel):KN N w name (kO N w name fuel):=by
 induction fuel with
 | zero=>intro _ r h;rw [kO.eq_1] at h;cases h
 | succ fuel b =>
  intro i r h E a;rw [kO.eq_2] at h;refine bD a 2 (kp [1,2,5,10]) (kq [0]) 81 (pc o1 pn) <| b9 0 10 h (fun d h=>?_) (fun d h=>?_)
  ·obtain ⟨c,h⟩:=ae h;refine bD a 4 (kp [1,2,5,20]) (kq [0]) 209 (pc o1 (pc c pn)) <| b9 0 20 h (fun e h=>?_) (fun e h=>?_)
   ·refine ah a 1 (kp [4]) [] 241 ?_;obtain rfl:=lk h;exact dN a 0 Tryz.f29 (kp [4]) [] 241
   ·refine ah a 2 qB (kq [0]) 257 <| cd a 1 qB (kq [0]) 1 (b _ _ h E a)
  ·refine ah a 2 (kp [4]) [] 97 ?_;cases h;exact dN a 0 Tryz.f29 (kp [4]) [] 97
theorem yC (N w name r) (h:sV N w name=some r):Sd 29 [(mJ w),(aS name)] [] 0 (aI r) []:=by
 unfold sV at h;refine sO Tryz.f29 22 fun E a=>?_;refine ah a 1 (kp [1,2]) (kq [0]) 32 <| ah a 2 qB (kq [0]) 48 <| cd a 2 qB (kq [0]) 1 (JN N _ _ N _ _ h E a)
noncomputable abbrev aet:=bt Tryz.f30
def Hf (N:Nat) (w:aq) (x:bq) (a:Int) (K:Int->Option (Int)):Prop:=∀ (i:Int) (r:Int),K i=some r->∀ E,aG E 0->ar Tryz.prog E 30 101 (aH E [] (aI r)) [.code (aet 500),.inLoop (aet 500),.inBlock 0,.code (aet 63)] ⟨[(2,(.op 0 0 0)),(3,(.op 1 0 0)),(5,(aI a)),(6,(aI i))],[(eI w),(1,vO 7 (BU x))],2⟩
def Hg (N:Nat) (w:aq) (x:bq) (K:Int->Option (Int)):Prop:=∀ (a:Int) (r:Int),K a=some r->∀ E,aG E 0->ar Tryz.prog E 30 101 (aH E [] (aI r)) [.code (aet 8180),.inLoop (aet 8180),.inBlock 2,.code (aet 1023)] ⟨[(2,(.op 0 0 0)),(3,(.op 1 0 0)),(8,(aI a))],[(eI w),(1,vO 7 (BU x))],2⟩
theorem FH (N w x fuel):Hg N w x (iP N w x fuel):=by
 induction fuel with
 | zero=>intro _ r h;rw [iP.eq_1] at h;cases h
 | succ fuel f =>
  intro j r h E a;rw [iP.eq_2] at h;refine bD a 2 (kp [2,3,8,82]) (kq [0,1]) 82 (pc o1 pn) <| b9 0 82 h (fun b h=>?_) (fun b h=>?_)
  ·obtain ⟨e,h⟩:=ae h;obtain ⟨g,i,h⟩:=a7 h;refine bc a 5 [(6,oT (aI g))] (kp [2,3,8,92]) (kq [0,1]) 210 (pc o1 (pc o1 (pc e (pc (yC _ _ _ _ i) pn)))) <| b9 0 92 h (fun c h=>?_) (fun c h=>?_)
   ·refine ah a 1 (kp [4]) [] 226 ?_;cases h;exact dN a 0 Tryz.f30 (kp [4]) [] 226
   ·refine bD a 2 (kp [2,3,8,100]) (kq [0,1]) 338 (pc o1 (pc e (pc o1 pn))) <| b9 0 100 h (fun d h=>?_) (fun d h=>?_)
    ·refine ah a 1 (kp [4]) [] 354 ?_;cases h;exact dN a 0 Tryz.f30 (kp [4]) [] 354
    ·refine ah a 2 Wi (kq [0,1]) 386 <| cd a 1 Wi (kq [0,1]) 2 (f _ _ h E a)
  ·refine ah a 2 (kp [4]) [] 98 ?_;cases h;exact dN a 0 Tryz.f30 (kp [4]) [] 98
theorem FI (N w x j fuel):Hf N w x j (iQ N w x j fuel):=by
 induction fuel with
 | zero=>intro _ r h;rw [iQ.eq_1] at h;cases h
 | succ fuel k =>
  intro i r h E a;rw [iQ.eq_2] at h;refine bD a 2 (kp [2,3,5,6,29]) (kq [0,1]) 82 (pc o1 pn) <| b9 0 29 h (fun l h=>?_) (fun l h=>?_)
  ·obtain ⟨c,h⟩:=ae h;refine bD a 4 (kp [2,3,5,6,7]) (kq [0,1,162]) 194 (pc o1 (pc c (pc o1 pn))) ?_;obtain ⟨d,m,h⟩:=a7 h;obtain ⟨n,o,h⟩:=a7 h;refine bc a 2 [(2,oT (aB d)),(7,oT (aB n))] (kp [2,3,5,6,7,46]) (kq [0,1,162]) 354 (pc o1 (pc (fc _ _ _ _ _ m) (pc (fun b:(!(!d))=true=>(pc b (pc o1 pn))) (pc (fun b:(!(!d))=true=>(pc (fc _ _ _ _ _ (aW o b)) (pc b pn))) (pc (fun b:(!(!d))=true=>(pc b pn)) (pc (fun e:(!(!d))=true=>(pc e pn)) pn)))))) <| b9 0 46 h (fun p h=>?_) (fun p h=>?_)
   ·refine ah a 1 (kp [4]) [] 370 ?_;cases h;exact dN a 0 Tryz.f30 (kp [4]) [] 370
   ·obtain ⟨q,h⟩:=ae h;refine bD a 2 (kp [2,3,5,6,55]) (kq [0,1]) 498 (pc o1 (pc o1 (pc q pn))) <| b9 0 55 h (fun s h=>?_) (fun s h=>?_)
    ·refine ah a 1 (kp [4]) [] 514 ?_;cases h;exact dN a 0 Tryz.f30 (kp [4]) [] 514
    ·refine ah a 2 Wg (kq [0,1]) 546 <| cd a 1 Wg (kq [0,1]) 2 (k _ _ h E a)
  ·obtain ⟨t,u,h⟩:=a7 h;refine bc a 3 [(7,oT (aI t))] (kp [2,3,65]) (kq [0,1]) 242 (pc o1 (pc (fun b:(Gu x)=true=>(pc o1 pn)) (pc (fun b:(Gu x)=true=>(pc b (pc o1 pn))) (pc (fun b:(Gu x)=true=>(pc (w8 _ _ _ _ (aW u b)) (pc b (pc b pn)))) (pc (fun b:(Gu x)=true=>(pc b pn)) (pc (fun e:(Gu x)=true=>(pc e pn)) pn)))))) <| b9 0 65 h (fun v h=>?_) (fun v h=>?_)
   ·refine ah a 1 (kp [4]) [] 258 ?_;cases h;exact dN a 0 Tryz.f30 (kp [4]) [] 258
   ·obtain ⟨y,z,h⟩:=a7 h;refine bc a 3 [(2,oT (aB y))] (kp [2,3,69]) (kq [0,1]) 306 (pc o1 (pc (fc _ _ _ _ _ z) pn)) <| b9 0 69 h (fun f h=>?_) (fun f h=>?_)
    ·refine ah a 1 (kp [4]) [] 322 ?_;cases h;exact dN a 0 Tryz.f30 (kp [4]) [] 322
    ·refine bD a 3 (kp [2,3,77]) (kq [0,1]) 434 (pc o1 (pc (fun b:(x.pQ != (-1))=true=>(pc b (pc o1 pn))) (pc (fun b:(x.pQ != (-1))=true=>(pc b pn)) (pc (fun e:(x.pQ != (-1))=true=>(pc e pn)) pn)))) <| b9 0 77 h (fun g h=>?_) (fun g h=>?_)
     ·refine ah a 1 (kp [4]) [] 450 ?_;cases h;exact dN a 0 Tryz.f30 (kp [4]) [] 450
     ·refine ah a 3 Wi (kq [0,1]) 450 <| cd a 2 Wi (kq [0,1]) 2 (FH N _ _ N _ _ h E a)
theorem JO (N w x r) (h:qJ N w x=some r):Sd 30 [(mJ w),(.agg (BU x))] [] 0 (aI r) []:=by
 unfold qJ at h;refine sO Tryz.f30 101 fun E a=>?_;refine ah a 1 (kp [2,3]) gS 48 ?_;obtain ⟨c,d,h⟩:=a7 h;refine bc a 1 [(3,oT (aI c))] (kp [2,3,5]) gS 128 (pc o1 (pc o1 (pc (Dn _ _ _ _ d) pn))) <| ah a 2 (kp [2,3,5,14]) gS 160 <| b9 0 14 h (fun e h=>?_) (fun e h=>?_)
 ·refine ah a 1 (kp [4]) [] 176 ?_;cases h;exact dN a 0 Tryz.f30 (kp [4]) [] 176
 ·refine bD a 3 (kp [2,3,5,24]) gS 320 (pc o1 (pc (fun b:(NM x)=true=>(pc b (pc o1 pn))) (pc (fun b:(NM x)=true=>(pc b pn)) (pc (fun b:(NM x)=true=>(pc b pn)) (pc (fun f:(NM x)=true=>(pc f pn)) pn))))) <| b9 0 24 h (fun g h=>?_) (fun g h=>?_)
  ·refine ah a 1 (kp [4]) [] 336 ?_;cases h;exact dN a 0 Tryz.f30 (kp [4]) [] 336
  ·refine ah a 3 Wg gS 336 <| cd a 2 Wg (kq [0] ++ [(1,.aj 16)]) 2 (FI N _ _ _ N _ _ h E a)
noncomputable abbrev aol:=bt Tryz.f77
def M7 (N:Nat) (l:List ByteArray) (s:ByteArray) (K:Int->Option (Bool)):Prop:=∀ (i:Int) (r:Bool),K i=some r->∀ E,aG E 0->ar Tryz.prog E 77 18 (aH E [] (aB r)) [.code (aol 52),.inLoop (aol 52),.inBlock 0,.code (aol 7)] ⟨[(Ji l),(1,(aS s)),(5,(aI i))],[],0⟩
theorem KO (N l s fuel):M7 N l s (lX N l s fuel):=by
 induction fuel with
 | zero=>intro _ r h;rw [lX.eq_1] at h;cases h
 | succ fuel b =>
  intro i r h E a;rw [lX.eq_2] at h;refine ah a 2 (kp [0,1,5,9]) [] 64 <| b9 0 9 h (fun d h=>?_) (fun d h=>?_)
  ·obtain ⟨c,h⟩:=ae h;refine bD a 4 (kp [0,1,5,17]) [] 160 (pc c pn) <| b9 0 17 h (fun e h=>?_) (fun e h=>?_)
   ·refine ah a 1 (kp [4]) [] 176 ?_;obtain rfl:=lk h;exact dN a 0 Tryz.f77 (kp [4]) [] 176
   ·refine ah a 2 mL [] 208 <| cd a 1 mL [] 0 (b _ _ h E a)
  ·refine ah a 2 (kp [4]) [] 80 ?_;obtain rfl:=lk h;exact dN a 0 Tryz.f77 (kp [4]) [] 80
theorem Hh (N l s r) (h:uY N l s=some r):Sd 77 [(uE l),(aS s)] [] 0 (aB r) []:=by
 unfold uY at h;refine sO Tryz.f77 18 fun E a=>?_;refine ah a 1 (kp [0,1]) [] 16 <| ah a 2 mL [] 32 <| cd a 2 mL [] 0 (KO N _ _ N _ _ h E a)
noncomputable abbrev Hi:=bt Tryz.f32
def sY (N:Nat) (w:aq) (K:qy->Option Fk):Prop:=∀ (out:List ByteArray) (r:qy),K out=some r->∀ E,aG E 0->ar Tryz.prog E 32 67 (aH E [] (mb r)) [.code (Hi 28),.inLoop (Hi 28),.inBlock 0] ⟨[(1,(.op 0 0 0)),(3,(.os 1 0 out.length))],[(eI w),(1,aO 1 cS ByteArray.empty out)],2⟩
def w9 (N:Nat) (w:aq) (out:List ByteArray) (K:Int->Int->Option Fk):Prop:=∀ (a:Int) (i:Int) (r:qy),K a i=some r->∀ E,aG E 0->ar Tryz.prog E 32 67 (aH E [] (mb r)) [.code (Hi 1812),.inLoop (Hi 1812),.inBlock 2,.code (Hi 227),.inBlock 1,.inLoop (Hi 28),.inBlock 0] ⟨[(1,(.op 0 0 0)),(3,(.os 1 0 out.length)),(4,(aI a)),(5,(aI i))],[(eI w),(1,aO 1 cS ByteArray.empty out)],2⟩
def M8 (N:Nat) (w:aq) (out:List ByteArray) (a:Int) (i:Int) (K:Bool->Int->Option Fk):Prop:=∀ (ready:Bool) (k:Int) (r:qy),K ready k=some r->∀ E,aG E 0->ar Tryz.prog E 32 67 (aH E [] (mb r)) [.code (Hi 464020),.inLoop (Hi 464020),.inBlock 4,.code (Hi 58003),.inBlock 3,.code (Hi 7251),.inLoop (Hi 1812),.inBlock 2,.code (Hi 227),.inBlock 1,.inLoop (Hi 28),.inBlock 0] ⟨[(1,(.op 0 0 0)),(3,(.os 1 0 out.length)),(4,(aI a)),(5,(aI i)),(6,(aB ready)),(7,(aI k))],[(eI w),(1,aO 1 cS ByteArray.empty out)],2⟩
def M9 (N:Nat) (w:aq) (out:List ByteArray) (i:Int) (K:Int->Option Fk):Prop:=∀ (a:Int) (r:qy),K a=some r->∀ E,aG E 0->ar Tryz.prog E 32 67 (aH E [] (mb r)) [.code (Hi 7251),.inLoop (Hi 1812),.inBlock 2,.code (Hi 227),.inBlock 1,.inLoop (Hi 28),.inBlock 0] ⟨[(1,(.op 0 0 0)),(3,(.os 1 0 out.length)),(4,(aI a)),(5,(aI i))],[(eI w),(1,aO 1 cS ByteArray.empty out)],2⟩
theorem Bw (N:Nat) (w:aq) (out:List ByteArray) (i:Int) (b:Int->Int->Option Fk) (c:qy->Option Fk) (d:w9 N w out b) (e:sY N w c):M9 N w out i (rY N w out i b c):=by
 intro f r h E a;unfold rY at h;refine ah a 0 uF (kq [0,1]) 50 <| cd a 1 uF (kq [0,1]) 2 (d _ _ _ h E a)
theorem KP (N:Nat) (w:aq) (out:List ByteArray) (c:Int) (i:Int) (d:Int->Int->Option Fk) (e:qy->Option Fk) (f:w9 N w out d) (g:sY N w e) (fuel:Nat):M8 N w out c i (lY N w out c i d e fuel):=by
 induction fuel with
 | zero=>intro _ _ r h;rw [lY.eq_1] at h;cases h
 | succ fuel j =>
  intro ready k r h E b;rw [lY.eq_2] at h;obtain ⟨l,h⟩:=ae h;refine bD b 2 (kp [1,3,4,5,6,7,36]) (kq [0,1]) 146 (pc o1 (pc l pn)) <| b9 0 36 h (fun m h=>?_) (fun m h=>?_)
  ·obtain ⟨n,h⟩:=ae h;obtain ⟨o,h⟩:=ae h;obtain ⟨p,q,h⟩:=a7 h;refine bc b 3 [(12,oT (aB p))] Rn (kq [0,1]) 386 (pc (fun a:ready=true=>(pc a (pc o1 pn))) (pc (fun a:ready=true=>(pc a (pc a (pc (n a) pn)))) (pc (fun a:ready=true=>(pc a pn)) (pc (fun a:ready=true=>(pc a pn)) (pc (fun a:ready=true=>(pc a (pc a (pc (o a) pn)))) (pc (fun a:ready=true=>(pc a pn)) (pc (fun a:ready=true=>(pc (Hh _ _ _ _ (aW q a)) (pc (z1 out.length) (pc a (pc a pn))))) (pc (fun s:ready=true=>(pc s pn)) pn)))))))) <| ah b 1 Rn (kq [0,1]) 434 <| cd b 1 Rn (kq [0,1]) 2 (j _ _ _ h E b)
  ·refine ah b 2 (kp [1,3,4,5,53]) (kq [0,1]) 162 <| b9 0 53 h (fun t h=>?_) (fun t h=>?_)
   ·refine ah b 0 uF (kq [0,1]) 194 <| cd b 1 uF (kq [0,1]) 2 (Bw N _ _ _ _ _ f g _ _ h E b)
   ·exact cd b 2 uF (kq [0,1]) 2 (Bw N _ _ _ _ _ f g _ _ h E b)
theorem KQ (N:Nat) (w:aq) (out:List ByteArray) (e:qy->Option Fk) (f:sY N w e) (fuel:Nat):w9 N w out (iR N w out e fuel):=by
 induction fuel with
 | zero=>intro _ _ r h;rw [iR.eq_1] at h;cases h
 | succ fuel g =>
  intro b i r h E a;rw [iR.eq_2] at h;refine bD a 2 (kp [1,3,4,5,16]) (kq [0,1]) 146 (pc o1 (pc (fun j:(decide (i < (BS w)))=true=>(pc j pn)) (pc (fun k:(decide (i < (BS w)))=true=>(pc k pn)) pn))) <| b9 0 16 h (fun l h=>?_) (fun l h=>?_)
  ·obtain ⟨c,h⟩:=ae h;obtain ⟨d,m,h⟩:=a7 h;refine bc a 4 [(7,oT (aB d))] (kp [1,3,4,5,6]) (kq [0,1]) 306 (pc o1 (pc c (pc (Hh _ _ _ _ m) (pc (z1 out.length) pn)))) <| ah a 2 Rn (kq [0,1]) 322 <| cd a 2 Rn (kq [0,1]) 2 (KP N _ _ _ _ _ _ g f N _ _ _ h E a)
  ·refine ah a 3 (kp [1,3,4,56]) (kq [0,1]) 178 <| b9 0 56 h (fun n h=>?_) (fun n h=>?_)
   ·refine ah a 1 (kp [2]) (kq [1]) 210 ?_;obtain rfl:=lk h;exact ki a 0 Tryz.f32 [1] [(2,Cx cS ByteArray.empty out)] [] 210 (pc (Eq.refl out.length) (pc (z1 out.length) (pc (eZ cS ByteArray.empty out) pn))) [] pn
   ·obtain ⟨o,h⟩:=ae h;obtain ⟨p,h⟩:=ae h;refine bD a 1 (kp [1] ++ [(3,.mM (ag8 out w b))]) (kq [0] ++ [(306,ru 306 cS ByteArray.empty (agW out w b))]) 338 (pc o1 (pc o (pc (Eq.refl out.length) (pc p (pc (z1 1) (pc (oN [[(aS (Vn w b))]]) (pc (cj out (Mo w b)) (pc (cj out (Mo w b)) (pc (S5 cS ByteArray.empty out (Mo w b)) pn))))))))) <| cd a 2 (kp [1,3]) (kq [0] ++ [(1,.aj 306)]) 2 (f _ _ h E a)
theorem KR (N w fuel):sY N w (jD N w fuel):=by
 induction fuel with
 | zero=>intro _ r h;rw [jD.eq_1] at h;cases h
 | succ fuel b =>
  intro out r h E a;rw [jD.eq_2] at h;refine ah a 2 B2 (kq [0,1]) 18 <| ah a 2 uF (kq [0,1]) 34 <| cd a 2 uF (kq [0,1]) 2 (KQ N _ _ _ b N _ _ _ h E a)
theorem RY (N w r) (h:Bm N w=some r):Sd 32 [(mJ w)] [] 0 (mb r) []:=by
 unfold Bm at h;refine sO Tryz.f32 67 fun E a=>?_;refine ah a 1 (kp [1]) (kq [0]) 32 <| ah a 1 (kp [1,3]) (kq [0]) 48 <| cd a 2 (kp [1] ++ [(3,.xE 1)]) (kq [0] ++ [(1,.nil 1 Q7)]) 2 (KR N _ N _ _ h E a)
noncomputable abbrev aom:=bt Tryz.f6
def Hj (N:Nat) (w:aq) (K:Int->Option (Int)):Prop:=∀ (i:Int) (r:Int),K i=some r->∀ E,aG E 0->ar Tryz.prog E 6 85 (aH E [] (aI r)) [.code (aom 500),.inLoop (aom 500),.inBlock 0,.code (aom 63)] ⟨[(1,(.op 0 0 0)),(5,(aI i))],[(eI w)],1⟩
theorem FJ (N w fuel):Hj N w (iS N w fuel):=by
 induction fuel with
 | zero=>intro _ r h;rw [iS.eq_1] at h;cases h
 | succ fuel n =>
  intro i r h E a;rw [iS.eq_2] at h;refine bD a 2 (kp [1,5,25]) (kq [0]) 81 (pc o1 pn) <| b9 0 25 h (fun o h=>?_) (fun o h=>?_)
  ·obtain ⟨c,h⟩:=ae h;obtain ⟨p,q,h⟩:=a7 h;refine bc a 5 [(6,oT (aB p))] (kp [1,5,35]) (kq [0]) 209 (pc o1 (pc c (pc (Cd _ _ _ q) pn))) <| b9 0 35 h (fun s h=>?_) (fun s h=>?_)
   ·refine ah a 1 (kp [2]) [] 225 ?_;cases h;exact dN a 0 Tryz.f6 (kp [2]) [] 225
   ·obtain ⟨t,u,h⟩:=a7 h;refine bc a 3 [(7,oT (aI t))] (kp [1,5,45]) (kq [0]) 369 (pc o1 (pc o1 (pc c (pc (yC _ _ _ _ u) pn)))) <| b9 0 45 h (fun v h=>?_) (fun v h=>?_)
    ·refine ah a 1 (kp [2]) [] 385 ?_;cases h;exact dN a 0 Tryz.f6 (kp [2]) [] 385
    ·obtain ⟨x,y,h⟩:=a7 h;refine bc a 2 [(6,oT (aI x))] (kp [1,5,6]) (kq [0]) 497 (pc o1 (pc o1 (pc c (pc (JO _ _ _ _ y) pn)))) <| ah a 1 (kp [1,5,6,54]) (kq [0]) 529 <| b9 0 54 h (fun j h=>?_) (fun j h=>?_)
     ·refine ah a 1 (kp [2]) [] 561 ?_;obtain rfl:=lk h;exact dN a 0 Tryz.f6 (kp [2]) [] 561
     ·refine ah a 2 (kp [1,5]) (kq [0]) 577 <| cd a 1 (kp [1,5]) (kq [0]) 1 (n _ _ h E a)
  ·obtain ⟨d,z,h⟩:=a7 h;obtain ⟨e,A,h⟩:=a7 h;obtain ⟨f,B,h⟩:=a7 h;obtain ⟨C,D,h⟩:=a7 h;refine bc a 3 [(2,oT (aB d)),(7,oT (aB e)),(13,oT (aB f)),(19,oT (aB C))] (kp [1,77]) (kq [0]) 433 (pc o1 (pc (fc _ _ _ _ _ z) (pc (fun b:(!(!d))=true=>(pc b (pc o1 pn))) (pc (fun b:(!(!d))=true=>(pc (fc _ _ _ _ _ (aW A b)) (pc b pn))) (pc (fun b:(!(!d))=true=>(pc b pn)) (pc (fun g:(!(!d))=true=>(pc g pn)) (pc (fun b:(Im d e)=true=>(pc b (pc o1 pn))) (pc (fun b:(Im d e)=true=>(pc (fc _ _ _ _ _ (aW B b)) (pc b pn))) (pc (fun b:(Im d e)=true=>(pc b pn)) (pc (fun g:(Im d e)=true=>(pc g pn)) (pc (fun b:(X5 d e f)=true=>(pc b (pc o1 pn))) (pc (fun b:(X5 d e f)=true=>(pc (fc _ _ _ _ _ (aW D b)) (pc b pn))) (pc (fun b:(X5 d e f)=true=>(pc b pn)) (pc (fun g:(X5 d e f)=true=>(pc g pn)) pn)))))))))))))) <| b9 0 77 h (fun k h=>?_) (fun k h=>?_)
   ·refine ah a 1 (kp [2]) [] 449 ?_;cases h;exact dN a 0 Tryz.f6 (kp [2]) [] 449
   ·obtain ⟨l,F,h⟩:=a7 h;refine bc a 3 [(1,oT (mb l))] (kp [84]) [] 545 (pc o1 (pc (RY _ _ _ F) (pc o1 pn))) <| b9 0 84 h (fun m h=>?_) (fun m h=>?_)
    ·refine ah a 1 (kp [2]) [] 561 ?_;cases h;exact dN a 0 Tryz.f6 (kp [2]) [] 561
    ·refine ah a 2 (kp [2]) [] 561 ?_;cases h;exact dN a 0 Tryz.f6 (kp [2]) [] 561
theorem JP (N w r) (h:qK N w=some r):Sd 6 [(mJ w)] [] 0 (aI r) []:=by
 unfold qK at h;refine sO Tryz.f6 85 fun E a=>?_;refine ah a 1 (kp [1]) (kq [0]) 32 ?_;obtain ⟨b,c,h⟩:=a7 h;refine bc a 2 [(1,oT (aI b))] (kp [1,3]) (kq [0]) 80 (pc o1 (pc (Hd _ _ _ c) pn)) <| ah a 1 (kp [1,3,10]) (kq [0]) 112 <| b9 0 10 h (fun d h=>?_) (fun d h=>?_)
 ·refine ah a 1 (kp [2]) [] 144 ?_;obtain rfl:=lk h;exact dN a 0 Tryz.f6 (kp [2]) [] 144
 ·obtain ⟨e,f,h⟩:=a7 h;refine bc a 3 [(1,oT (aI e))] (kp [1,4]) (kq [0]) 160 (pc o1 (pc (He _ _ _ f) pn)) <| ah a 1 (kp [1,4,15]) (kq [0]) 192 <| b9 0 15 h (fun g h=>?_) (fun g h=>?_)
  ·refine ah a 1 (kp [2]) [] 224 ?_;obtain rfl:=lk h;exact dN a 0 Tryz.f6 (kp [2]) [] 224
  ·refine bD a 3 (kp [1,20]) (kq [0]) 256 (pc o1 pn) <| b9 0 20 h (fun i h=>?_) (fun i h=>?_)
   ·refine ah a 1 (kp [2]) [] 272 ?_;cases h;exact dN a 0 Tryz.f6 (kp [2]) [] 272
   ·refine ah a 3 (kp [1,5]) (kq [0]) 272 <| cd a 2 (kp [1,5]) (kq [0]) 1 (FJ N _ N _ _ h E a)
theorem kc9:Sd 162 [(.agg [eS,(aI 1),(aI 0)])] [] 0 eS []:=by
 refine sO Tryz.f162 5 fun E a=>?_;refine ah a 1 (kp [1]) (kq [0]) 32 ?_;refine bD a 1 (kp [2]) [] 80 (pc o1 pn) ?_;exact ki a 0 Tryz.f162 [] (kp [2]) [] 80 pn [] pn
theorem kc8:Sd 161 [(.sl 1 iW),(.fn (.func 162) [] [])] [] 0 (.sl 1 n9) []:=by
 refine sO Tryz.f161 22 fun E a=>?_;refine ah a 1 (kp [0,1]) [] 16 ?_;refine ah a 1 mL [] 32 ?_;refine ah a 2 tw [] 80 ?_;refine ah a 3 GV [] 96 ?_;refine se 1 11 ?_;refine bD a 4 Rr (kq [128]) 160 (pc (show 0<=(0:Int)/\(0:Int) < ((1:Nat):Int) by decide) (pc o1 pn)) ?_;refine bc a 0 [(3,oT (eS))] tw [(240,.arr 240 1 n9)] 272 (pc o1 (pc kc9 (pc (show 1 * 16<=140737488355328 by decide) (pc (show 0+1<=1 by decide) (pc (oN [[eS]]) (pc (Eq.refl 1) (pc (show ∀ zi,zi < 1->n9 zi=n9 zi from (js (n:=1) ⟨trivial,rfl⟩)) pn))))))) ?_;refine bD a 1 tw [(240,.arr 240 1 n9)] 304 (pc (Eq.refl 1) (pc (show ∀ zi,zi < 1->n9 zi=n9 zi from (js (n:=1) ⟨trivial,rfl⟩)) pn)) ?_;refine bD a 2 GV [(240,.arr 240 1 n9)] 320 (pc (Eq.refl 1) (pc (show ∀ zi,zi < 1->n9 zi=n9 zi from (js (n:=1) ⟨trivial,rfl⟩)) pn)) ?_;refine ig 1 11 ?_;refine bD a 2 (kp [4]) [(240,.arr 240 1 n9)] 352 (pc (Eq.refl 1) (pc (show ∀ zi,zi < 1->n9 zi=n9 zi from (js (n:=1) ⟨trivial,rfl⟩)) pn)) ?_;exact ki a 0 Tryz.f161 [240] [(4,.sl 1 n9)] [] 352 (pc (Eq.refl 1) (pc (show 0+1<=1 from (z1 1)) (pc (show ∀ zi,zi < 1->n9 zi=n9 (da 0 zi) from (js (n:=1) ⟨trivial,rfl⟩)) pn))) [] pn
theorem kc7:Sd 99 [(.agg [(.sl 1 (fun zi=>([[fh,eS,(.sl 1 gk),fj,(aI (-1)),(aB false),.nil]]:List (List AV)).getD zi [])),(.sl 1 iW),.nil,.nil,.nil,(aI 0),(aI 0),(aI 0),(aI 5)])] [] 0 (.sl 1 n9) []:=by
 refine sO Tryz.f99 6 fun E a=>?_;refine ah a 1 (kp [1]) (kq [0]) 32 ?_;refine bc a 1 [(2,oT (.sl 1 n9))] (kp [2]) [] 96 (pc o1 (pc kc8 pn)) ?_;exact ki a 0 Tryz.f99 [] (kp [2]) [] 96 pn [] pn
theorem atr:Sd 160 [eS] [] 0 (aB true) []:=by
 refine sO Tryz.f160 55 fun E a=>?_;refine ah a 1 (kp [0]) [] 16 ?_;refine bc a 2 [(4,⟨[],true,.il,[],1,false,none⟩),(5,⟨[],true,.il,[],1,false,none⟩),(6,⟨[],true,.il,[],1,false,none⟩)] (kp [0,13]) [] 144 (pc (Eq.refl true) (pc (Eq.refl true) (pc (Eq.refl true) pn))) ?_;refine ig 0 13 ?_;refine ah a 3 GR [] 192 ?_;refine ah a 3 Rb [] 208 ?_;refine se 1 17 ?_;refine ah a 4 B1 [] 240 ?_;refine bD a 1 VX [] 304 (pc (show 0<=(0:Int)/\(0:Int) < ((1:Nat):Int) by decide) pn) ?_;refine bc a 1 [(3,⟨[],true,.il,[],1,false,none⟩),(4,⟨[],true,.il,[],1,false,none⟩),(7,⟨[],true,(aB false),[],2,false,none⟩),(8,⟨[],true,(aB false),[],2,false,none⟩),(9,⟨[],true,(aB false),[],2,false,none⟩),(10,⟨[],true,(aB false),[],2,false,none⟩),(11,⟨[],true,(aB false),[],2,false,none⟩),(12,⟨[],true,(aB false),[],2,false,none⟩)] aa8 [] 544 (pc (Eq.refl true) (pc (Eq.refl true) (pc (Eq.refl false) (pc (Eq.refl false) (pc (Eq.refl false) (pc (Eq.refl false) (pc (Eq.refl false) (pc (Eq.refl false) (pc (show (!true)=true->bg [(!true)=true] from (fun b=>absurd b (by decide))) pn))))))))) ?_;refine bc a 1 [(3,⟨[],true,(aB false),[],2,false,none⟩),(4,⟨[],true,(aB false),[],2,false,none⟩),(5,⟨[],true,(aB false),[],2,false,none⟩),(6,⟨[],true,(aB false),[],2,false,none⟩),(7,⟨[],true,(aB false),[],2,false,none⟩),(8,⟨[],true,(aB false),[],2,false,none⟩),(9,⟨[],true,(aB false),[],2,false,none⟩),(10,⟨[],true,(aB false),[],2,false,none⟩),(11,⟨[],true,(aB false),[],2,false,none⟩),(12,⟨[],true,(aB false),[],2,false,none⟩),(13,⟨[],true,(aB false),[],2,false,none⟩),(14,⟨[],true,(aB false),[],2,false,none⟩),(15,⟨[],true,(aB false),[],2,false,none⟩),(16,⟨[],true,(aB false),[],2,false,none⟩)] aa7 [] 832 (pc (Eq.refl false) (pc (Eq.refl false) (pc (Eq.refl false) (pc (Eq.refl false) (pc (Eq.refl false) (pc (Eq.refl false) (pc (Eq.refl false) (pc (Eq.refl false) (pc (Eq.refl false) (pc (Eq.refl false) (pc (Eq.refl false) (pc (Eq.refl false) (pc (Eq.refl false) (pc (Eq.refl false) (pc (show false=true->bg [false=true] from (fun b=>absurd b (by decide))) pn))))))))))))))) ?_;refine ig 0 53 ?_;refine ah a 2 GR [] 864 ?_;refine ah a 2 Rb [] 880 ?_;refine ig 1 17 ?_;refine ah a 2 (kp [2]) [] 896 ?_;exact ki a 0 Tryz.f160 [] (kp [2]) [] 896 pn [] pn
theorem ats:Sd 166 [(.sl 0 dW),eS] [] 0 (aI (-1)) []:=by
 refine sO Tryz.f166 19 fun E a=>?_;refine ah a 1 (kp [0,1]) [] 16 ?_;refine ah a 2 eD [] 64 ?_;refine ah a 3 ri [] 80 ?_;refine ig 1 9 ?_;refine ah a 2 (kp [4]) [] 96 ?_;exact ki a 0 Tryz.f166 [] (kp [4]) [] 96 pn [] pn
theorem att:Sd 106 [(.sl 0 dW),eS] [] 0 (aB false) []:=by
 refine sO Tryz.f106 9 fun E a=>?_;refine ah a 1 (kp [0,1]) [] 16 ?_;refine bc a 1 [(2,oT (aI (-1)))] (kp [4]) [] 96 (pc ats pn) ?_;exact ki a 0 Tryz.f106 [] (kp [4]) [] 96 pn [] pn
theorem aqx:Sd 101 [(aI 1),(aI 1000)] [] 0 (aB true) []:=by
 refine sO Tryz.f101 12 fun E a=>?_;refine ah a 1 (kp [0,1]) [] 16 ?_;refine bc a 1 [(3,⟨[],true,.il,[],1,false,none⟩),(4,⟨[],true,.il,[],1,false,none⟩),(5,⟨[],true,.il,[],1,false,none⟩)] (kp [4]) [] 144 (pc (Eq.refl true) (pc (Eq.refl true) (pc (Eq.refl true) pn))) ?_;exact ki a 0 Tryz.f101 [] (kp [4]) [] 144 pn [] pn
theorem atu:Sd 101 [(aI 0),(aI 1000000)] [] 0 (aB true) []:=by
 refine sO Tryz.f101 12 fun E a=>?_;refine ah a 1 (kp [0,1]) [] 16 ?_;refine bc a 1 [(3,⟨[],true,.il,[],1,false,none⟩),(4,⟨[],true,.il,[],1,false,none⟩),(5,⟨[],true,.il,[],1,false,none⟩)] (kp [4]) [] 144 (pc (Eq.refl true) (pc (Eq.refl true) (pc (Eq.refl true) pn))) ?_;exact ki a 0 Tryz.f101 [] (kp [4]) [] 144 pn [] pn
theorem atv:Sd 100 [(aI 0),(.op 0 0 0)] [(0,vO 9 [(.sl 1 (fun zi=>([[fh,eS,(.sl 1 gk),fj,(aI (-1)),(aB false),.nil]]:List (List AV)).getD zi [])),(.sl 1 iW),.nil,.nil,.nil,(aI 0),(aI 0),(aI 0),(aI 5)])] 1 (aI 0) [(0,vO 9 [(.sl 1 (fun zi=>([[fh,eS,(.sl 1 gk),fj,(aI (-1)),(aB false),.nil]]:List (List AV)).getD zi [])),(.sl 1 iW),.nil,.nil,.nil,(aI 0),(aI 0),(aI 0),(aI 5)])]:=by
 refine sO Tryz.f100 22 fun E a=>?_;refine ah a 1 (kp [0,1]) (kq [0]) 17 ?_;refine bc a 2 [(6,oT (aB true)),(9,⟨[],true,.il,[],1,false,none⟩),(10,⟨[],true,.il,[],1,false,none⟩),(11,⟨[],true,.il,[],1,false,none⟩),(12,⟨[],true,.il,[],1,false,none⟩),(13,⟨[],true,.il,[],1,false,none⟩),(14,⟨[],true,.il,[],1,false,none⟩),(15,⟨[],true,(aB true),[],1,false,none⟩),(16,⟨[],true,.il,[],1,false,none⟩)] (kp [21]) (kq [0]) 305 (pc o1 (pc (show 0<=(0:Int)/\(0:Int) < ((1:Nat):Int) by decide) (pc aqx (pc (Eq.refl true) (pc (Eq.refl true) (pc o1 (pc (Eq.refl true) (pc (Eq.refl true) (pc (show 0<=(0:Int)/\(0:Int) < ((1:Nat):Int) by decide) (pc (Eq.refl true) (pc (Eq.refl true) (pc (Eq.refl true) (pc atu (pc (Eq.refl true) pn)))))))))))))) ?_;refine ig 0 21 ?_;refine ah a 2 (kp [3]) (kq [0]) 321 ?_;exact ki a 0 Tryz.f100 [] (kp [3]) (kq [0]) 321 pn [] pn
theorem atw:Sd 98 [(.sl 1 n9),(aI 6),(.fn (.func 100) [] [(.op 0 0 0)])] [(0,vO 9 [(.sl 1 (fun zi=>([[fh,eS,(.sl 1 gk),fj,(aI (-1)),(aB false),.nil]]:List (List AV)).getD zi [])),(.sl 1 iW),.nil,.nil,.nil,(aI 0),(aI 0),(aI 0),(aI 5)])] 1 (aI 0) [(0,vO 9 [(.sl 1 (fun zi=>([[fh,eS,(.sl 1 gk),fj,(aI (-1)),(aB false),.nil]]:List (List AV)).getD zi [])),(.sl 1 iW),.nil,.nil,.nil,(aI 0),(aI 0),(aI 0),(aI 5)])]:=by
 refine sO Tryz.f98 36 fun E a=>?_;refine ah a 1 qA (kq [0]) 17 ?_;refine ah a 2 MA (kq [0]) 81 ?_;refine ig 0 13 ?_;refine ah a 3 sj (kq [0]) 129 ?_;refine ah a 3 GS (kq [0]) 145 ?_;refine se 1 17 ?_;refine bD a 4 Rg (kq [0]) 225 (pc (show 0<=(0:Int)/\(0:Int) < ((1:Nat):Int) by decide) pn) ?_;refine bc a 2 [(1,oT (aB true))] Rf (kq [0]) 273 (pc atr pn) ?_;refine ig 0 23 ?_;refine bc a 3 [(4,oT (aB false))] Re (kq [0]) 353 (pc (show 0<=0/\0<=1 by decide) (pc (show 0<=(0:Int) by decide) (pc (show Sd 106 [(.sl 0 (fun zi=>n9 (da 0 zi))),eS] [] 0 (aB false) [] from (Sound.conv att (.cons (Alike.sl rfl (js (n:=0) trivial)) (.cons (Alike.refl _) .nil)))) pn))) ?_;refine ig 0 28 ?_;refine bc a 2 [(2,⟨[0],true,(aI 0),[],0,false,none⟩)] Ri (kq [0]) 417 (pc atv pn) ?_;refine ah a 1 Rh (kq [0]) 449 ?_;refine ig 0 33 ?_;refine ah a 2 sj (kq [0]) 481 ?_;refine ah a 2 GS (kq [0]) 497 ?_;refine ig 1 17 ?_;refine ah a 2 (kp [6]) (kq [0]) 513 ?_;exact ki a 0 Tryz.f98 [] (kp [6]) (kq [0]) 513 pn [] pn
theorem atx:Sd 163 [.nil,(.fn (.func 164) [] [])] [] 0 .nil []:=by
 refine sO Tryz.f163 22 fun E a=>?_;refine ah a 1 (kp [0,1]) [] 16 ?_;refine ah a 1 mL [] 32 ?_;refine ah a 2 tw [] 80 ?_;refine ah a 3 GV [] 96 ?_;refine ig 1 11 ?_;refine ah a 2 (kp [4]) [] 128 ?_;exact ki a 0 Tryz.f163 [] (kp [4]) [] 128 pn [] pn
theorem aty:Sd 102 [(.agg [(.sl 1 (fun zi=>([[fh,eS,(.sl 1 gk),fj,(aI (-1)),(aB false),.nil]]:List (List AV)).getD zi [])),(.sl 1 iW),.nil,.nil,.nil,(aI 0),(aI 0),(aI 0),(aI 5)])] [] 0 .nil []:=by
 refine sO Tryz.f102 6 fun E a=>?_;refine ah a 1 (kp [1]) (kq [0]) 32 ?_;refine bc a 1 [(2,oT (.nil))] (kp [2]) [] 96 (pc o1 (pc atx pn)) ?_;exact ki a 0 Tryz.f102 [] (kp [2]) [] 96 pn [] pn
theorem atz:Sd 98 [.nil,(aI 12),(.fn (.func 103) [] [(.op 0 0 0),(.op 1 0 0)])] [(0,vO 9 [(.sl 1 (fun zi=>([[fh,eS,(.sl 1 gk),fj,(aI (-1)),(aB false),.nil]]:List (List AV)).getD zi [])),(.sl 1 iW),.nil,.nil,.nil,(aI 0),(aI 0),(aI 0),(aI 5)]),(1,vO 1 [.nil])] 2 (aI 0) [(0,vO 9 [(.sl 1 (fun zi=>([[fh,eS,(.sl 1 gk),fj,(aI (-1)),(aB false),.nil]]:List (List AV)).getD zi [])),(.sl 1 iW),.nil,.nil,.nil,(aI 0),(aI 0),(aI 0),(aI 5)]),(1,vO 1 [.nil])]:=by
 refine sO Tryz.f98 36 fun E a=>?_;refine ah a 1 qA (kq [0,1]) 18 ?_;refine ah a 2 MA (kq [0,1]) 82 ?_;refine ig 0 13 ?_;refine ah a 3 sj (kq [0,1]) 130 ?_;refine ah a 3 GS (kq [0,1]) 146 ?_;refine ig 1 17 ?_;refine ah a 2 (kp [6]) (kq [0,1]) 162 ?_;exact ki a 0 Tryz.f98 [] (kp [6]) (kq [0,1]) 162 pn [] pn
theorem atA:Sd 107 [(.agg [(.sl 1 (fun zi=>([[fh,eS,(.sl 1 gk),fj,(aI (-1)),(aB false),.nil]]:List (List AV)).getD zi [])),(.sl 1 iW),.nil,.nil,.nil,(aI 0),(aI 0),(aI 0),(aI 5)])] [] 0 (aI 0) []:=by
 refine sO Tryz.f107 62 fun E a=>?_;refine ah a 1 (kp [1]) (kq [0]) 32 ?_;refine bD a 2 (kp [1,10]) (kq [0]) 96 (pc o1 pn) ?_;refine ig 0 10 ?_;refine bD a 3 Rl (kq [0]) 160 (pc o1 pn) ?_;refine ah a 3 (kp [1,12,13,14,15]) (kq [0]) 176 ?_;refine ig 1 15 ?_;refine bD a 3 (kp [1,38]) (kq [0]) 240 (pc o1 pn) ?_;refine ig 0 38 ?_;refine bD a 3 Rx [] 304 (pc o1 pn) ?_;refine ah a 3 (kp [40,41,42,43]) [] 320 ?_;refine ig 1 43 ?_;refine ah a 2 (kp [2]) [] 336 ?_;exact ki a 0 Tryz.f107 [] (kp [2]) [] 336 pn [] pn
theorem atB:Sd 168 [(.agg [fh,eS,(.sl 1 gk),fj,(aI (-1)),(aB false),.nil])] [] 0 fh []:=by
 refine sO Tryz.f168 5 fun E a=>?_;refine ah a 1 (kp [1]) (kq [0]) 32 ?_;refine bD a 1 (kp [2]) [] 80 (pc o1 pn) ?_;exact ki a 0 Tryz.f168 [] (kp [2]) [] 80 pn [] pn
theorem atC:Sd 167 [(.sl 1 (fun zi=>([[fh,eS,(.sl 1 gk),fj,(aI (-1)),(aB false),.nil]]:List (List AV)).getD zi [])),(.fn (.func 168) [] [])] [] 0 (.sl 1 kJ) []:=by
 refine sO Tryz.f167 22 fun E a=>?_;refine ah a 1 (kp [0,1]) [] 16 ?_;refine ah a 1 mL [] 32 ?_;refine ah a 2 tw [] 80 ?_;refine ah a 3 GV [] 96 ?_;refine se 1 11 ?_;refine bD a 4 Rr (kq [128]) 160 (pc (show 0<=(0:Int)/\(0:Int) < ((1:Nat):Int) by decide) (pc o1 pn)) ?_;refine bc a 0 [(3,oT (fh))] tw [(240,.arr 240 1 kJ)] 272 (pc o1 (pc atB (pc (show 1 * 16<=140737488355328 by decide) (pc (show 0+1<=1 by decide) (pc (oN [[fh]]) (pc (Eq.refl 1) (pc (show ∀ zi,zi < 1->kJ zi=kJ zi from (js (n:=1) ⟨trivial,rfl⟩)) pn))))))) ?_;refine bD a 1 tw [(240,.arr 240 1 kJ)] 304 (pc (Eq.refl 1) (pc (show ∀ zi,zi < 1->kJ zi=kJ zi from (js (n:=1) ⟨trivial,rfl⟩)) pn)) ?_;refine bD a 2 GV [(240,.arr 240 1 kJ)] 320 (pc (Eq.refl 1) (pc (show ∀ zi,zi < 1->kJ zi=kJ zi from (js (n:=1) ⟨trivial,rfl⟩)) pn)) ?_;refine ig 1 11 ?_;refine bD a 2 (kp [4]) [(240,.arr 240 1 kJ)] 352 (pc (Eq.refl 1) (pc (show ∀ zi,zi < 1->kJ zi=kJ zi from (js (n:=1) ⟨trivial,rfl⟩)) pn)) ?_;exact ki a 0 Tryz.f167 [240] [(4,.sl 1 kJ)] [] 352 (pc (Eq.refl 1) (pc (show 0+1<=1 from (z1 1)) (pc (show ∀ zi,zi < 1->kJ zi=kJ (da 0 zi) from (js (n:=1) ⟨trivial,rfl⟩)) pn))) [] pn
theorem aon:Sd 108 [(.agg [(.sl 1 (fun zi=>([[fh,eS,(.sl 1 gk),fj,(aI (-1)),(aB false),.nil]]:List (List AV)).getD zi [])),(.sl 1 iW),.nil,.nil,.nil,(aI 0),(aI 0),(aI 0),(aI 5)])] [] 0 (.sl 1 kJ) []:=by
 refine sO Tryz.f108 6 fun E a=>?_;refine ah a 1 (kp [1]) (kq [0]) 32 ?_;refine bc a 1 [(2,oT (.sl 1 kJ))] (kp [2]) [] 96 (pc o1 (pc atC pn)) ?_;exact ki a 0 Tryz.f108 [] (kp [2]) [] 96 pn [] pn
theorem atD:Sd 160 [fh] [] 0 (aB true) []:=by
 refine sO Tryz.f160 55 fun E a=>?_;refine ah a 1 (kp [0]) [] 16 ?_;refine bc a 2 [(4,⟨[],true,.il,[],1,false,none⟩),(5,⟨[],true,.il,[],1,false,none⟩),(6,⟨[],true,.il,[],1,false,none⟩)] (kp [0,13]) [] 144 (pc (Eq.refl true) (pc (Eq.refl true) (pc (Eq.refl true) pn))) ?_;refine ig 0 13 ?_;refine ah a 3 GR [] 192 ?_;refine ah a 3 Rb [] 208 ?_;refine se 1 17 ?_;refine ah a 4 B1 [] 240 ?_;refine bD a 1 VX [] 304 (pc (show 0<=(0:Int)/\(0:Int) < ((1:Nat):Int) by decide) pn) ?_;refine bc a 1 [(3,⟨[],true,.il,[],1,false,none⟩),(4,⟨[],true,.il,[],1,false,none⟩),(7,⟨[],true,(aB false),[],2,false,none⟩),(8,⟨[],true,(aB false),[],2,false,none⟩),(9,⟨[],true,(aB false),[],2,false,none⟩),(10,⟨[],true,(aB false),[],2,false,none⟩),(11,⟨[],true,(aB false),[],2,false,none⟩),(12,⟨[],true,(aB false),[],2,false,none⟩)] aa8 [] 544 (pc (Eq.refl true) (pc (Eq.refl true) (pc (Eq.refl false) (pc (Eq.refl false) (pc (Eq.refl false) (pc (Eq.refl false) (pc (Eq.refl false) (pc (Eq.refl false) (pc (show (!true)=true->bg [(!true)=true] from (fun b=>absurd b (by decide))) pn))))))))) ?_;refine bc a 1 [(3,⟨[],true,(aB false),[],2,false,none⟩),(4,⟨[],true,(aB false),[],2,false,none⟩),(5,⟨[],true,(aB false),[],2,false,none⟩),(6,⟨[],true,(aB false),[],2,false,none⟩),(7,⟨[],true,(aB false),[],2,false,none⟩),(8,⟨[],true,(aB false),[],2,false,none⟩),(9,⟨[],true,(aB false),[],2,false,none⟩),(10,⟨[],true,(aB false),[],2,false,none⟩),(11,⟨[],true,(aB false),[],2,false,none⟩),(12,⟨[],true,(aB false),[],2,false,none⟩),(13,⟨[],true,(aB false),[],2,false,none⟩),(14,⟨[],true,(aB false),[],2,false,none⟩),(15,⟨[],true,(aB false),[],2,false,none⟩),(16,⟨[],true,(aB false),[],2,false,none⟩)] aa7 [] 832 (pc (Eq.refl false) (pc (Eq.refl false) (pc (Eq.refl false) (pc (Eq.refl false) (pc (Eq.refl false) (pc (Eq.refl false) (pc (Eq.refl false) (pc (Eq.refl false) (pc (Eq.refl false) (pc (Eq.refl false) (pc (Eq.refl false) (pc (Eq.refl false) (pc (Eq.refl false) (pc (Eq.refl false) (pc (show false=true->bg [false=true] from (fun b=>absurd b (by decide))) pn))))))))))))))) ?_;refine ig 0 53 ?_;refine ah a 2 GR [] 864 ?_;refine ah a 2 Rb [] 880 ?_;refine ig 1 17 ?_;refine ah a 2 (kp [2]) [] 896 ?_;exact ki a 0 Tryz.f160 [] (kp [2]) [] 896 pn [] pn
theorem atE:Sd 166 [(.sl 0 dW),fh] [] 0 (aI (-1)) []:=by
 refine sO Tryz.f166 19 fun E a=>?_;refine ah a 1 (kp [0,1]) [] 16 ?_;refine ah a 2 eD [] 64 ?_;refine ah a 3 ri [] 80 ?_;refine ig 1 9 ?_;refine ah a 2 (kp [4]) [] 96 ?_;exact ki a 0 Tryz.f166 [] (kp [4]) [] 96 pn [] pn
theorem atF:Sd 106 [(.sl 0 dW),fh] [] 0 (aB false) []:=by
 refine sO Tryz.f106 9 fun E a=>?_;refine ah a 1 (kp [0,1]) [] 16 ?_;refine bc a 1 [(2,oT (aI (-1)))] (kp [4]) [] 96 (pc atE pn) ?_;exact ki a 0 Tryz.f106 [] (kp [4]) [] 96 pn [] pn
theorem atG:Sd 166 [(.sl 1 n9),eS] [] 0 (aI 0) []:=by
 refine sO Tryz.f166 19 fun E a=>?_;refine ah a 1 (kp [0,1]) [] 16 ?_;refine ah a 2 eD [] 64 ?_;refine ah a 3 ri [] 80 ?_;refine se 1 9 ?_;refine ah a 4 oa [] 112 ?_;refine bD a 1 vZ [] 208 (pc (show 0<=(0:Int)/\(0:Int) < ((1:Nat):Int) by decide) pn) ?_;refine se 0 16 ?_;refine ah a 1 (kp [4]) [] 240 ?_;exact ki a 0 Tryz.f166 [] (kp [4]) [] 240 pn [] pn
theorem atH:Sd 110 [(.agg [(.sl 1 (fun zi=>([[fh,eS,(.sl 1 gk),fj,(aI (-1)),(aB false),.nil]]:List (List AV)).getD zi [])),(.sl 1 iW),.nil,.nil,.nil,(aI 0),(aI 0),(aI 0),(aI 5)]),(.agg [fh,eS,(.sl 1 gk),fj,(aI (-1)),(aB false),.nil]),(.sl 1 kJ)] [] 0 (aI 0) []:=by
 refine sO Tryz.f110 106 fun E a=>?_;refine ah a 1 sm gS 48 ?_;refine bc a 1 [(1,oT (.sl 1 n9)),(4,oT (aI 0))] (kp [2,3,4,7]) gS 144 (pc o1 (pc kc7 (pc o1 (pc atG pn)))) ?_;refine ah a 2 (kp [2,3,4,7,18]) gS 176 ?_;refine ig 0 18 ?_;refine bc a 3 [(5,⟨[],true,.il,[],1,false,none⟩),(6,⟨[],true,.il,[],1,false,none⟩),(7,⟨[],true,.il,[],1,false,none⟩),(8,⟨[],true,.il,[],1,false,none⟩)] (kp [2,3,4,7,28]) gS 336 (pc o1 (pc (Eq.refl true) (pc (Eq.refl true) (pc o1 (pc (Eq.refl true) (pc (Eq.refl true) pn)))))) ?_;refine ig 0 28 ?_;refine bD a 3 MH gS 400 (pc o1 pn) ?_;refine ah a 3 abf gS 416 ?_;refine se 1 33 ?_;refine bD a 4 (kp [2,3,4,7,9,30,31,32]) (kq [0,16,448]) 480 (pc (show 0<=(0:Int)/\(0:Int) < ((1:Nat):Int) by decide) (pc o1 pn)) ?_;refine bc a 2 [(4,⟨[],true,.il,[],1,false,none⟩),(5,⟨[],true,.il,[],1,false,none⟩),(6,⟨[],true,.il,[],1,false,none⟩),(9,⟨[],true,.il,[],1,false,none⟩),(10,⟨[],true,.il,[],1,false,none⟩),(11,⟨[],true,(aB true),[],1,false,none⟩),(12,⟨[],true,.il,[],1,false,none⟩)] ahC (kq [0,16,448]) 704 (pc o1 (pc (Eq.refl true) (pc (Eq.refl true) (pc o1 (pc (Eq.refl true) (pc (Eq.refl true) (pc (Eq.refl true) (pc o1 (pc (Eq.refl true) (pc aqx (pc (Eq.refl true) pn))))))))))) ?_;refine ig 0 49 ?_;refine bD a 2 (kp [2,3,4,7,30,31,32,58]) gS 848 (pc o1 (pc o1 (pc (show 0<=(0:Int)/\(0:Int) < ((1:Nat):Int) by decide) pn))) ?_;refine ig 0 58 ?_;refine ah a 2 MH gS 880 ?_;refine ah a 2 abf gS 896 ?_;refine ig 1 33 ?_;refine bc a 4 [(4,⟨[],true,(aB false),[],2,false,none⟩),(5,⟨[],true,(aB false),[],2,false,none⟩),(6,⟨[],true,(aB false),[],2,false,none⟩),(7,⟨[],true,(aB false),[],2,false,none⟩),(8,⟨[],true,(aB false),[],2,false,none⟩),(9,⟨[],true,(aB false),[],2,false,none⟩)] (kp [2,4,60]) (kq [16]) 1088 (pc o1 (pc (Eq.refl false) (pc (Eq.refl false) (pc (Eq.refl false) (pc (Eq.refl false) (pc (Eq.refl false) (pc (Eq.refl false) (pc (show false=true->bg [false=true] from (fun b=>absurd b (by decide))) pn)))))))) ?_;refine ig 0 60 ?_;refine bc a 1 [(4,⟨[],true,.il,[],1,false,none⟩),(5,⟨[],true,.il,[],1,false,none⟩),(6,⟨[],true,.il,[],1,false,none⟩)] (kp [2,4,72]) (kq [16]) 1232 (pc o1 (pc (Eq.refl true) (pc (Eq.refl true) (pc o1 (pc (Eq.refl true) pn))))) ?_;refine ig 0 72 ?_;refine bc a 1 [(4,⟨[],true,(aB false),[],2,false,none⟩),(5,⟨[],true,(aB false),[],2,false,none⟩),(6,⟨[],true,(aB false),[],2,false,none⟩)] (kp [2,4,81]) (kq [16]) 1376 (pc o1 (pc (Eq.refl false) (pc (Eq.refl false) (pc (Eq.refl false) (pc (show false=true->bg [false=true] from (fun b=>absurd b (by decide))) pn))))) ?_;refine ig 0 81 ?_;refine bD a 4 Rt (kq [16]) 1440 (pc o1 pn) ?_;refine ah a 3 (kp [2,4,91,92,93,94]) (kq [16]) 1456 ?_;refine ig 1 94 ?_;refine ah a 2 (kp [6]) [] 1472 ?_;exact ki a 0 Tryz.f110 [] (kp [6]) [] 1472 pn [] pn
theorem atI:Sd 109 [(aI 0),(.op 0 0 0),(.op 1 0 0)] [(0,vO 9 [(.sl 1 (fun zi=>([[fh,eS,(.sl 1 gk),fj,(aI (-1)),(aB false),.nil]]:List (List AV)).getD zi [])),(.sl 1 iW),.nil,.nil,.nil,(aI 0),(aI 0),(aI 0),(aI 5)]),(1,vO 1 [(.sl 1 kJ)])] 2 (aI 0) [(0,vO 9 [(.sl 1 (fun zi=>([[fh,eS,(.sl 1 gk),fj,(aI (-1)),(aB false),.nil]]:List (List AV)).getD zi [])),(.sl 1 iW),.nil,.nil,.nil,(aI 0),(aI 0),(aI 0),(aI 5)]),(1,vO 1 [(.sl 1 kJ)])]:=by
 refine sO Tryz.f109 13 fun E a=>?_;refine ah a 1 qA (kq [0,1]) 18 ?_;refine bc a 1 [(7,oT (aI 0))] (kp [4]) (kq [0,1]) 162 (pc o1 (pc o1 (pc (show 0<=(0:Int)/\(0:Int) < ((1:Nat):Int) by decide) (pc o1 (pc atH pn))))) ?_;exact ki a 0 Tryz.f109 [] (kp [4]) (kq [0,1]) 162 pn [] pn
theorem atJ:Sd 98 [(.sl 1 kJ),(aI 40),(.fn (.func 109) [] [(.op 0 0 0),(.op 1 0 0)])] [(0,vO 9 [(.sl 1 (fun zi=>([[fh,eS,(.sl 1 gk),fj,(aI (-1)),(aB false),.nil]]:List (List AV)).getD zi [])),(.sl 1 iW),.nil,.nil,.nil,(aI 0),(aI 0),(aI 0),(aI 5)]),(1,vO 1 [(.sl 1 kJ)])] 2 (aI 0) [(0,vO 9 [(.sl 1 (fun zi=>([[fh,eS,(.sl 1 gk),fj,(aI (-1)),(aB false),.nil]]:List (List AV)).getD zi [])),(.sl 1 iW),.nil,.nil,.nil,(aI 0),(aI 0),(aI 0),(aI 5)]),(1,vO 1 [(.sl 1 kJ)])]:=by
 refine sO Tryz.f98 36 fun E a=>?_;refine ah a 1 qA (kq [0,1]) 18 ?_;refine ah a 2 MA (kq [0,1]) 82 ?_;refine ig 0 13 ?_;refine ah a 3 sj (kq [0,1]) 130 ?_;refine ah a 3 GS (kq [0,1]) 146 ?_;refine se 1 17 ?_;refine bD a 4 Rg (kq [0,1]) 226 (pc (show 0<=(0:Int)/\(0:Int) < ((1:Nat):Int) by decide) pn) ?_;refine bc a 2 [(1,oT (aB true))] Rf (kq [0,1]) 274 (pc atD pn) ?_;refine ig 0 23 ?_;refine bc a 3 [(4,oT (aB false))] Re (kq [0,1]) 354 (pc (show 0<=0/\0<=1 by decide) (pc (show 0<=(0:Int) by decide) (pc (show Sd 106 [(.sl 0 (fun zi=>kJ (da 0 zi))),fh] [] 0 (aB false) [] from (Sound.conv atF (.cons (Alike.sl rfl (js (n:=0) trivial)) (.cons (Alike.refl _) .nil)))) pn))) ?_;refine ig 0 28 ?_;refine bc a 2 [(2,⟨[0,1],true,(aI 0),[],0,false,none⟩)] Ri (kq [0,1]) 418 (pc atI pn) ?_;refine ah a 1 Rh (kq [0,1]) 450 ?_;refine ig 0 33 ?_;refine ah a 2 sj (kq [0,1]) 482 ?_;refine ah a 2 GS (kq [0,1]) 498 ?_;refine ig 1 17 ?_;refine ah a 2 (kp [6]) (kq [0,1]) 514 ?_;exact ki a 0 Tryz.f98 [] (kp [6]) (kq [0,1]) 514 pn [] pn
theorem aqy:Sd 101 [(aI 0),(aI 1000000000)] [] 0 (aB true) []:=by
 refine sO Tryz.f101 12 fun E a=>?_;refine ah a 1 (kp [0,1]) [] 16 ?_;refine bc a 1 [(3,⟨[],true,.il,[],1,false,none⟩),(4,⟨[],true,.il,[],1,false,none⟩),(5,⟨[],true,.il,[],1,false,none⟩)] (kp [4]) [] 144 (pc (Eq.refl true) (pc (Eq.refl true) (pc (Eq.refl true) pn))) ?_;exact ki a 0 Tryz.f101 [] (kp [4]) [] 144 pn [] pn
theorem atK:Sd 101 [(aI 0),(aI 400)] [] 0 (aB true) []:=by
 refine sO Tryz.f101 12 fun E a=>?_;refine ah a 1 (kp [0,1]) [] 16 ?_;refine bc a 1 [(3,⟨[],true,.il,[],1,false,none⟩),(4,⟨[],true,.il,[],1,false,none⟩),(5,⟨[],true,.il,[],1,false,none⟩)] (kp [4]) [] 144 (pc (Eq.refl true) (pc (Eq.refl true) (pc (Eq.refl true) pn))) ?_;exact ki a 0 Tryz.f101 [] (kp [4]) [] 144 pn [] pn
theorem atL:Sd 101 [(aI 5),(aI 400)] [] 0 (aB true) []:=by
 refine sO Tryz.f101 12 fun E a=>?_;refine ah a 1 (kp [0,1]) [] 16 ?_;refine bc a 1 [(3,⟨[],true,.il,[],1,false,none⟩),(4,⟨[],true,.il,[],1,false,none⟩),(5,⟨[],true,.il,[],1,false,none⟩)] (kp [4]) [] 144 (pc (Eq.refl true) (pc (Eq.refl true) (pc (Eq.refl true) pn))) ?_;exact ki a 0 Tryz.f101 [] (kp [4]) [] 144 pn [] pn
theorem aqz:Sd 112 [(.agg [(.sl 1 (fun zi=>([[fh,eS,(.sl 1 gk),fj,(aI (-1)),(aB false),.nil]]:List (List AV)).getD zi [])),(.sl 1 iW),.nil,.nil,.nil,(aI 0),(aI 0),(aI 0),(aI 5)])] [] 0 (.sl 1 (fun zi=>([[.nil]]:List (List AV)).getD zi [])) []:=by
 refine sO Tryz.f112 44 fun E a=>?_;refine ah a 1 (kp [1]) (kq [0]) 32 ?_;refine bc a 1 [(1,oT (.sl 1 kJ))] (kp [1,3]) (kq [0]) 80 (pc o1 (pc aon pn)) ?_;refine bD a 1 B2 (kq [0] ++ [(112,.arr 112 1 (fun zi=>([[.nil]]:List (List AV)).getD zi []))]) 144 (pc (show 0<=(1:Int) by decide) (pc (show (1:Int)<=1 by decide) (pc (show (24:Int) * 1<=281474976710656 by decide) (pc (show (1:Int)<=9223372036854775807 by decide) (pc (Eq.refl 1) (pc (show ∀ zi,zi < 1->(fun zi=>([[.nil]]:List (List AV)).getD zi []) zi=(fun _=>[.nil]) zi from (js (n:=1) ⟨trivial,rfl⟩)) pn)))))) ?_;refine bD a 2 MK [(112,.arr 112 1 (fun zi=>([[.nil]]:List (List AV)).getD zi []))] 208 (pc o1 (pc (Eq.refl 1) (pc (show ∀ zi,zi < 1->(fun zi=>([[.nil]]:List (List AV)).getD zi []) zi=(fun zi=>([[.nil]]:List (List AV)).getD zi []) zi from (js (n:=1) ⟨trivial,rfl⟩)) pn))) ?_;refine bD a 3 abi [(112,.arr 112 1 (fun zi=>([[.nil]]:List (List AV)).getD zi []))] 224 (pc (Eq.refl 1) (pc (show ∀ zi,zi < 1->(fun zi=>([[.nil]]:List (List AV)).getD zi []) zi=(fun zi=>([[.nil]]:List (List AV)).getD zi []) zi from (js (n:=1) ⟨trivial,rfl⟩)) pn)) ?_;refine se 1 18 ?_;refine bD a 4 (kp [3,4,5,6,15,16,17]) ([(112,.arr 112 1 (fun zi=>([[.nil]]:List (List AV)).getD zi []))] ++ kq [272]) 320 (pc (show 0<=(0:Int)/\(0:Int) < ((1:Nat):Int) by decide) (pc o1 (pc (Eq.refl 1) (pc (show ∀ zi,zi < 1->(fun zi=>([[.nil]]:List (List AV)).getD zi []) zi=(fun zi=>([[.nil]]:List (List AV)).getD zi []) zi from (js (n:=1) ⟨trivial,rfl⟩)) pn)))) ?_;refine bD a 1 ML [(112,.arr 112 1 (fun zi=>([[.nil]]:List (List AV)).getD zi []))] 384 (pc o1 (pc (Eq.refl 1) (pc (show ∀ zi,zi < 1->(fun zi=>([[.nil]]:List (List AV)).getD zi []) zi=(fun zi=>([[.nil]]:List (List AV)).getD zi []) zi from (js (n:=1) ⟨trivial,rfl⟩)) pn))) ?_;refine bD a 3 ahD [(112,.arr 112 1 (fun zi=>([[.nil]]:List (List AV)).getD zi []))] 400 (pc (Eq.refl 1) (pc (show ∀ zi,zi < 1->(fun zi=>([[.nil]]:List (List AV)).getD zi []) zi=(fun zi=>([[.nil]]:List (List AV)).getD zi []) zi from (js (n:=1) ⟨trivial,rfl⟩)) pn)) ?_;refine ig 1 26 ?_;refine bD a 2 MK [(112,.arr 112 1 (fun zi=>([[.nil]]:List (List AV)).getD zi []))] 432 (pc (Eq.refl 1) (pc (show ∀ zi,zi < 1->(fun zi=>([[.nil]]:List (List AV)).getD zi []) zi=(fun zi=>([[.nil]]:List (List AV)).getD zi []) zi from (js (n:=1) ⟨trivial,rfl⟩)) pn)) ?_;refine bD a 2 abi [(112,.arr 112 1 (fun zi=>([[.nil]]:List (List AV)).getD zi []))] 448 (pc (Eq.refl 1) (pc (show ∀ zi,zi < 1->(fun zi=>([[.nil]]:List (List AV)).getD zi []) zi=(fun zi=>([[.nil]]:List (List AV)).getD zi []) zi from (js (n:=1) ⟨trivial,rfl⟩)) pn)) ?_;refine ig 1 18 ?_;refine bD a 2 (kp [2]) [(112,.arr 112 1 (fun zi=>([[.nil]]:List (List AV)).getD zi []))] 480 (pc (Eq.refl 1) (pc (show ∀ zi,zi < 1->(fun zi=>([[.nil]]:List (List AV)).getD zi []) zi=(fun zi=>([[.nil]]:List (List AV)).getD zi []) zi from (js (n:=1) ⟨trivial,rfl⟩)) pn)) ?_;exact ki a 0 Tryz.f112 [112] [(2,.sl 1 (fun zi=>([[.nil]]:List (List AV)).getD zi []))] [] 480 (pc (Eq.refl 1) (pc (show 0+1<=1 from (z1 1)) (pc (show ∀ zi,zi < 1->(fun zi=>([[.nil]]:List (List AV)).getD zi []) zi=(fun zi=>([[.nil]]:List (List AV)).getD zi []) (da 0 zi) from (js (n:=1) ⟨trivial,rfl⟩)) pn))) [] pn
theorem atM:Sd 115 [.nil,(.fn (.func 172) [] [(.op 0 0 0)])] [(0,vO 1 [.nil])] 1 (aI (-1)) [(0,vO 1 [.nil])]:=by
 refine sO Tryz.f115 19 fun E a=>?_;refine ah a 1 (kp [0,1]) (kq [0]) 17 ?_;refine ah a 2 eD (kq [0]) 65 ?_;refine ah a 3 ri (kq [0]) 81 ?_;refine ig 1 9 ?_;refine ah a 2 (kp [4]) (kq [0]) 97 ?_;exact ki a 0 Tryz.f115 [] (kp [4]) (kq [0]) 97 pn [] pn
theorem atN:Sd 171 [.nil,(.fn (.func 172) [] [(.op 0 0 0)])] [(0,vO 1 [.nil])] 1 (aB false) [(0,vO 1 [.nil])]:=by
 refine sO Tryz.f171 9 fun E a=>?_;refine ah a 1 (kp [0,1]) (kq [0]) 17 ?_;refine bc a 1 [(2,⟨[0],true,(aI (-1)),[],0,false,none⟩)] (kp [4]) (kq [0]) 97 (pc atM pn) ?_;exact ki a 0 Tryz.f171 [] (kp [4]) (kq [0]) 97 pn [] pn
theorem atO:Sd 170 [.nil,(.op 0 0 0)] [(0,vO 1 [.nil])] 1 (aB true) [(0,vO 1 [.nil])]:=by
 refine sO Tryz.f170 8 fun E a=>?_;refine ah a 1 (kp [0,1]) (kq [0]) 17 ?_;refine bc a 1 [(2,⟨[0],true,(aB false),[],0,false,none⟩)] (kp [3]) (kq [0]) 97 (pc atN pn) ?_;exact ki a 0 Tryz.f170 [] (kp [3]) (kq [0]) 97 pn [] pn
theorem atP:Sd 169 [(.sl 1 (fun zi=>([[.nil]]:List (List AV)).getD zi [])),(.fn (.func 170) [] [(.op 0 0 0)])] [(0,vO 1 [.nil])] 1 (aI 0) [(0,vO 1 [.nil])]:=by
 refine sO Tryz.f169 19 fun E a=>?_;refine ah a 1 (kp [0,1]) (kq [0]) 17 ?_;refine ah a 2 eD (kq [0]) 65 ?_;refine ah a 3 ri (kq [0]) 81 ?_;refine se 1 9 ?_;refine ah a 4 oa (kq [0]) 113 ?_;refine bc a 1 [(5,⟨[0],true,(aB true),[],0,false,none⟩)] vZ (kq [0]) 209 (pc (show 0<=(0:Int)/\(0:Int) < ((1:Nat):Int) by decide) (pc atO pn)) ?_;refine se 0 16 ?_;refine ah a 1 (kp [4]) (kq [0]) 241 ?_;exact ki a 0 Tryz.f169 [] (kp [4]) (kq [0]) 241 pn [] pn
theorem atQ:Sd 87 [.nil,(aI 0)] [] 0 (aI (-1)) []:=by
 refine sO Tryz.f87 19 fun E a=>?_;refine ah a 1 (kp [0,1]) [] 16 ?_;refine ah a 2 eD [] 64 ?_;refine ah a 3 ri [] 80 ?_;refine ig 1 9 ?_;refine ah a 2 (kp [4]) [] 96 ?_;exact ki a 0 Tryz.f87 [] (kp [4]) [] 96 pn [] pn
theorem atS:Sd 117 [.nil,(aI 0)] [] 0 (aB false) []:=by
 refine sO Tryz.f117 9 fun E a=>?_;refine ah a 1 (kp [0,1]) [] 16 ?_;refine bc a 1 [(2,oT (aI (-1)))] (kp [4]) [] 96 (pc atQ pn) ?_;exact ki a 0 Tryz.f117 [] (kp [4]) [] 96 pn [] pn
theorem atT:Sd 111 [(.agg [(.sl 1 (fun zi=>([[fh,eS,(.sl 1 gk),fj,(aI (-1)),(aB false),.nil]]:List (List AV)).getD zi [])),(.sl 1 iW),.nil,.nil,.nil,(aI 0),(aI 0),(aI 0),(aI 5)])] [] 0 (.sl 1 yr) []:=by
 refine sO Tryz.f111 44 fun E a=>?_;refine ah a 1 (kp [1]) (kq [0]) 32 ?_;refine bc a 1 [(1,oT (.sl 1 (fun zi=>([[.nil]]:List (List AV)).getD zi [])))] (kp [3]) [] 80 (pc o1 (pc aqz pn)) ?_;refine ah a 1 (kp [3,4]) (kq [80]) 96 ?_;refine bD a 5 (kp [3,4,13]) (kq [80]) 176 (pc o1 pn) ?_;refine se 0 13 ?_;refine bc a 3 [(2,⟨[80],true,(aI 0),[],0,false,none⟩)] GX (kq [80]) 240 (pc atP pn) ?_;refine bc a 5 [(3,⟨[],true,.il,[],1,false,none⟩),(4,⟨[],true,.il,[],1,false,none⟩),(5,⟨[],true,(aB false),[],1,false,none⟩)] (kp [3,4,5,23]) (kq [80]) 352 (pc (Eq.refl true) (pc o1 (pc (Eq.refl true) (pc (Eq.refl true) (pc atS pn))))) ?_;refine ig 0 23 ?_;refine ah a 3 (kp [3,4,5,37]) (kq [80]) 384 ?_;refine ig 0 37 ?_;refine bD a 1 (kp [3,4]) ahR 464 (pc o1 (pc (show 1 * 8<=140737488355328 by decide) (pc (show 0+1<=1 by decide) (pc (oN [[(aI 0)]]) (pc o1 (pc (Eq.refl 1) (pc (show ∀ zi,zi < 1->yr zi=yr zi from (js (n:=1) ⟨trivial,rfl⟩)) pn))))))) ?_;refine bD a 4 (kp [3,4,13]) ahR 544 (pc o1 (pc (Eq.refl 1) (pc (show ∀ zi,zi < 1->yr zi=yr zi from (js (n:=1) ⟨trivial,rfl⟩)) pn))) ?_;refine ig 0 13 ?_;refine bD a 2 (kp [2]) [(432,.arr 432 1 yr)] 576 (pc o1 (pc (Eq.refl 1) (pc (show ∀ zi,zi < 1->yr zi=yr zi from (js (n:=1) ⟨trivial,rfl⟩)) pn))) ?_;exact ki a 0 Tryz.f111 [432] [(2,.sl 1 yr)] [] 576 (pc (Eq.refl 1) (pc (show 0+1<=1 from (z1 1)) (pc (show ∀ zi,zi < 1->yr zi=yr (da 0 zi) from (js (n:=1) ⟨trivial,rfl⟩)) pn))) [] pn
theorem kc6:Sd 45 [(.agg [(.sl 1 (fun zi=>([[fh,eS,(.sl 1 gk),fj,(aI (-1)),(aB false),.nil]]:List (List AV)).getD zi [])),(.sl 1 iW),.nil,.nil,.nil,(aI 0),(aI 0),(aI 0),(aI 5)])] [] 0 (aI 0) []:=by
 refine sO Tryz.f45 64 fun E a=>?_;refine ah a 1 (kp [1]) (kq [0]) 32 ?_;refine bc a 1 [(1,oT (.sl 1 n9)),(3,⟨[0],true,(aI 0),[],0,false,none⟩)] (kp [1,3]) (kq [0]) 112 (pc o1 (pc kc7 (pc atw pn))) ?_;refine ah a 2 (kp [1,3,12]) (kq [0]) 144 ?_;refine ig 0 12 ?_;refine bc a 2 [(1,oT (.nil))] (kp [1,4]) (kq [0,176]) 208 (pc o1 (pc aty (pc o1 pn))) ?_;refine bc a 1 [(2,⟨[0,176],true,(aI 0),[],0,false,none⟩)] (kp [1,3]) (kq [0]) 272 (pc o1 (pc atz pn)) ?_;refine ah a 2 (kp [1,3,20]) (kq [0]) 304 ?_;refine ig 0 20 ?_;refine bc a 3 [(1,oT (aI 0))] (kp [1,5]) (kq [0]) 352 (pc o1 (pc atA pn)) ?_;refine ah a 1 (kp [1,5,25]) (kq [0]) 384 ?_;refine ig 0 25 ?_;refine bc a 2 [(1,oT (.sl 1 kJ))] (kp [1,6]) (kq [0,416]) 448 (pc o1 (pc aon (pc o1 pn))) ?_;refine bc a 1 [(2,⟨[0,416],true,(aI 0),[],0,false,none⟩)] (kp [1,3]) (kq [0]) 512 (pc o1 (pc atJ pn)) ?_;refine ah a 2 (kp [1,3,33]) (kq [0]) 544 ?_;refine ig 0 33 ?_;refine bc a 3 [(2,oT (aB true)),(5,⟨[],true,.il,[],1,false,none⟩),(6,⟨[],true,.il,[],1,false,none⟩),(7,⟨[],true,(aB true),[],1,false,none⟩),(8,⟨[],true,.il,[],1,false,none⟩),(11,⟨[],true,.il,[],1,false,none⟩),(12,⟨[],true,.il,[],1,false,none⟩),(13,⟨[],true,(aB true),[],1,false,none⟩),(14,⟨[],true,.il,[],1,false,none⟩),(17,⟨[],true,.il,[],1,false,none⟩),(18,⟨[],true,.il,[],1,false,none⟩),(19,⟨[],true,(aB true),[],1,false,none⟩),(20,⟨[],true,.il,[],1,false,none⟩)] (kp [1,56]) (kq [0]) 896 (pc o1 (pc aqy (pc (Eq.refl true) (pc (Eq.refl true) (pc o1 (pc (Eq.refl true) (pc aqy (pc (Eq.refl true) (pc (Eq.refl true) (pc (Eq.refl true) (pc o1 (pc (Eq.refl true) (pc atK (pc (Eq.refl true) (pc (Eq.refl true) (pc (Eq.refl true) (pc o1 (pc (Eq.refl true) (pc atL (pc (Eq.refl true) pn)))))))))))))))))))) ?_;refine ig 0 56 ?_;refine bc a 3 [(1,oT (.sl 1 yr))] (kp [63]) [] 1008 (pc o1 (pc atT (pc o1 pn))) ?_;refine ig 0 63 ?_;refine ah a 2 (kp [2]) [] 1024 ?_;exact ki a 0 Tryz.f45 [] (kp [2]) [] 1024 pn [] pn
theorem atU:Sd 166 [(.sl 1 kJ),fh] [] 0 (aI 0) []:=by
 refine sO Tryz.f166 19 fun E a=>?_;refine ah a 1 (kp [0,1]) [] 16 ?_;refine ah a 2 eD [] 64 ?_;refine ah a 3 ri [] 80 ?_;refine se 1 9 ?_;refine ah a 4 oa [] 112 ?_;refine bD a 1 vZ [] 208 (pc (show 0<=(0:Int)/\(0:Int) < ((1:Nat):Int) by decide) pn) ?_;refine se 0 16 ?_;refine ah a 1 (kp [4]) [] 240 ?_;exact ki a 0 Tryz.f166 [] (kp [4]) [] 240 pn [] pn
theorem atV:Sd 101 [(aI 1),(aI 400)] [] 0 (aB true) []:=by
 refine sO Tryz.f101 12 fun E a=>?_;refine ah a 1 (kp [0,1]) [] 16 ?_;refine bc a 1 [(3,⟨[],true,.il,[],1,false,none⟩),(4,⟨[],true,.il,[],1,false,none⟩),(5,⟨[],true,.il,[],1,false,none⟩)] (kp [4]) [] 144 (pc (Eq.refl true) (pc (Eq.refl true) (pc (Eq.refl true) pn))) ?_;exact ki a 0 Tryz.f101 [] (kp [4]) [] 144 pn [] pn
theorem kc5:Sd 149 [(.agg [(.sl 1 (fun zi=>([[fh,eS,(.sl 1 gk),fj,(aI (-1)),(aB false),.nil]]:List (List AV)).getD zi [])),(.sl 1 iW),.nil,.nil,.nil,(aI 0),(aI 0),(aI 0),(aI 5)]),(.sl 1 Q6)] [] 0 (.tup [(.sl 1 n8),(aI 0)]) []:=by
 refine sO Tryz.f149 79 fun E a=>?_;refine ah a 1 (kp [1,2]) (kq [0]) 48 ?_;refine bc a 2 [(1,oT (aI 0))] (kp [1,2,6]) (kq [0]) 96 (pc o1 (pc kc6 pn)) ?_;refine ah a 1 (kp [1,2,6,15]) (kq [0]) 128 ?_;refine ig 0 15 ?_;refine bD a 3 (kp [1,2,22]) (kq [0]) 224 (pc o1 pn) ?_;refine ig 0 22 ?_;refine bc a 2 [(1,oT (.sl 1 kJ))] (kp [1,2,7]) (kq [0]) 272 (pc o1 (pc aon pn)) ?_;refine bD a 1 (kp [1,2,7,8]) abq 336 (pc (show 0<=(1:Int) by decide) (pc (show (1:Int)<=1 by decide) (pc (show (24:Int) * 1<=281474976710656 by decide) (pc (show (1:Int)<=9223372036854775807 by decide) (pc (Eq.refl 1) (pc (show ∀ zi,zi < 1->tv zi=(fun _=>[(aI 0),(aI 0),(aB false)]) zi from (js (n:=1) ⟨trivial,rfl⟩)) pn)))))) ?_;refine bD a 2 abh abq 384 (pc (Eq.refl 1) (pc (show ∀ zi,zi < 1->tv zi=tv zi from (js (n:=1) ⟨trivial,rfl⟩)) pn)) ?_;refine bD a 3 (kp [2,7,8,28,29,30,31]) abq 400 (pc (Eq.refl 1) (pc (show ∀ zi,zi < 1->tv zi=tv zi from (js (n:=1) ⟨trivial,rfl⟩)) pn)) ?_;refine se 1 31 ?_;refine bD a 4 (kp [2,7,8,10,28,29,30]) Rz 464 (pc (show 0<=(0:Int)/\(0:Int) < ((1:Nat):Int) by decide) (pc o1 (pc (Eq.refl 1) (pc (show ∀ zi,zi < 1->tv zi=tv zi from (js (n:=1) ⟨trivial,rfl⟩)) pn)))) ?_;refine bc a 1 [(3,oT (aI 0))] (kp [2,7,8,10,11,28,29,30]) Rz 544 (pc o1 (pc atU (pc (Eq.refl 1) (pc (show ∀ zi,zi < 1->tv zi=tv zi from (js (n:=1) ⟨trivial,rfl⟩)) pn)))) ?_;refine bD a 3 (kp [2,7,8,10,11,28,29,30,38]) Rz 592 (pc (Eq.refl 1) (pc (show ∀ zi,zi < 1->tv zi=tv zi from (js (n:=1) ⟨trivial,rfl⟩)) pn)) ?_;refine ig 0 38 ?_;refine bD a 1 (kp [2,7,8,10,11,28,29,30,41]) Rz 688 (pc (show 0<=(0:Int)/\(0:Int) < ((1:Nat):Int) by decide) (pc (show 0 < 1 by decide) (pc (Eq.refl 1) (pc (show ∀ zi,zi < 1->tv zi=tv zi from (js (n:=1) ⟨trivial,rfl⟩)) pn)))) ?_;refine ig 0 41 ?_;refine bc a 1 [(4,⟨[],true,.il,[],1,false,none⟩),(5,⟨[],true,.il,[],1,false,none⟩),(6,⟨[],true,.il,[],1,false,none⟩),(7,⟨[],true,.il,[],1,false,none⟩),(8,⟨[],true,.il,[],1,false,none⟩),(9,⟨[],true,.il,[],1,false,none⟩),(10,⟨[],true,.il,[],1,false,none⟩),(11,⟨[],true,.il,[],1,false,none⟩),(12,⟨[],true,.il,[],1,false,none⟩),(13,⟨[],true,.il,[],1,false,none⟩),(16,⟨[],true,.il,[],1,false,none⟩),(17,⟨[],true,.il,[],1,false,none⟩),(18,⟨[],true,(aB true),[],1,false,none⟩),(19,⟨[],true,.il,[],1,false,none⟩)] (kp [2,7,8,10,11,28,29,30,47]) Rz 1040 (pc o1 (pc (Eq.refl true) (pc (Eq.refl true) (pc o1 (pc (Eq.refl true) (pc (Eq.refl true) (pc o1 (pc (Eq.refl true) (pc (Eq.refl true) (pc (show 0<=(0:Int)/\(0:Int) < ((1:Nat):Int) by decide) (pc (Eq.refl true) (pc (Eq.refl true) (pc (Eq.refl true) (pc (Eq.refl true) (pc (Eq.refl true) (pc (Eq.refl true) (pc o1 (pc (Eq.refl true) (pc atV (pc (Eq.refl true) (pc (Eq.refl 1) (pc (show ∀ zi,zi < 1->tv zi=tv zi from (js (n:=1) ⟨trivial,rfl⟩)) pn)))))))))))))))))))))) ?_;refine ig 0 47 ?_;refine bD a 2 abh abr 1184 (pc o1 (pc o1 (pc (show 0<=(0:Int)/\(0:Int) < ((1:Nat):Int) by decide) (pc (show 0 < 1 by decide) (pc (Eq.refl 1) (pc (show ∀ zi,zi < 1->n8 zi=((fun b=>if b=0 then [(aI 0),(aI 1),(aB true)] else tv b)) zi from (js (n:=1) ⟨trivial,rfl⟩)) pn)))))) ?_;refine bD a 1 abh abr 1216 (pc (Eq.refl 1) (pc (show ∀ zi,zi < 1->n8 zi=n8 zi from (js (n:=1) ⟨trivial,rfl⟩)) pn)) ?_;refine bD a 2 (kp [2,7,8,28,29,30,31]) abr 1232 (pc (Eq.refl 1) (pc (show ∀ zi,zi < 1->n8 zi=n8 zi from (js (n:=1) ⟨trivial,rfl⟩)) pn)) ?_;refine ig 1 31 ?_;refine bD a 2 (kp [4,5]) [(304,.arr 304 1 n8)] 1280 (pc (Eq.refl 1) (pc (show ∀ zi,zi < 1->n8 zi=n8 zi from (js (n:=1) ⟨trivial,rfl⟩)) pn)) ?_;exact ki a 0 Tryz.f149 [304] ([(4,.sl 1 n8)] ++ kp [5]) [] 1280 (pc (Eq.refl 1) (pc (show 0+1<=1 from (z1 1)) (pc (show ∀ zi,zi < 1->n8 zi=n8 (da 0 zi) from (js (n:=1) ⟨trivial,rfl⟩)) pn))) [] pn
theorem atW:Sd 209 [] [] 0 (.sl 5 (fun zi=>([[(.fn (.func 230) [] [])],[(.fn (.func 231) [] [])],[(.fn (.func 232) [] [])],[(.fn (.func 233) [] [])],[(.fn (.func 234) [] [])]]:List (List AV)).getD zi [])) []:=by
 refine sO Tryz.f209 7 fun E a=>?_;refine ah a 1 [] [] 16 ?_;refine rnR a 1 [] [96] [(0,.sl 5 (fun zi=>([[(.fn (.func 230) [] [])],[(.fn (.func 231) [] [])],[(.fn (.func 232) [] [])],[(.fn (.func 233) [] [])],[(.fn (.func 234) [] [])]]:List (List AV)).getD zi []))] [] 128 (pc (Eq.refl 5) (pc (show 0+5<=5 from (z1 5)) (pc (show ∀ zi,zi < 5->(fun zi=>([[(.fn (.func 230) [] [])],[(.fn (.func 231) [] [])],[(.fn (.func 232) [] [])],[(.fn (.func 233) [] [])],[(.fn (.func 234) [] [])]]:List (List AV)).getD zi []) zi=(fun zi=>([[(.fn (.func 230) [] [])],[(.fn (.func 231) [] [])],[(.fn (.func 232) [] [])],[(.fn (.func 233) [] [])],[(.fn (.func 234) [] [])]]:List (List AV)).getD zi []) (da 0 zi) from (js (n:=5) ⟨⟨⟨⟨⟨trivial,rfl⟩,rfl⟩,rfl⟩,rfl⟩,rfl⟩)) pn))) ?_;exact ki a 0 Tryz.f209 [] (kp [0]) [] 128 pn [] pn
theorem atX:Sd 230 [(.agg [(.sl 1 (fun zi=>([[fh,eS,(.sl 1 gk),fj,(aI (-1)),(aB false),.nil]]:List (List AV)).getD zi [])),(.sl 1 iW),.nil,.nil,.nil,(aI 0),(aI 0),(aI 0),(aI 5)]),(.sl 1 n8)] [] 0 .nil []:=by
 refine sO Tryz.f230 59 fun E a=>?_;refine ah a 1 (kp [1,2]) (kq [0]) 32 ?_;refine ah a 1 qB (kq [0]) 48 ?_;refine bc a 2 [(1,oT (.sl 1 (fun zi=>([[.nil]]:List (List AV)).getD zi [])))] (kp [1,2,5,11,12,13]) (kq [0]) 112 (pc o1 (pc aqz pn)) ?_;refine ah a 3 (kp [1,2,5,11,12,13,14]) (kq [0]) 128 ?_;refine se 1 14 ?_;refine bD a 4 (kp [1,2,5,6,7,11,12,13]) (kq [0]) 208 (pc (show 0<=(0:Int)/\(0:Int) < ((1:Nat):Int) by decide) pn) ?_;refine ah a 1 (kp [1,2,5,6,11,12,13,18,19,20]) (kq [0]) 256 ?_;refine ah a 3 (kp [1,2,5,6,11,12,13,18,19,20,21]) (kq [0]) 272 ?_;refine ig 1 21 ?_;refine ah a 2 (kp [1,2,5,11,12,13]) (kq [0]) 304 ?_;refine ah a 2 (kp [1,2,5,11,12,13,14]) (kq [0]) 320 ?_;refine ig 1 14 ?_;refine ah a 2 (kp [4]) [] 352 ?_;exact ki a 0 Tryz.f230 [] (kp [4]) [] 352 pn [] pn
theorem aeu:Sd 150 [(.agg [(aI 0),(aI 1),(aB true)]),(.agg [fh,eS,(.sl 1 gk),fj,(aI (-1)),(aB false),.nil])] [] 0 (aI 4) []:=by
 refine sO Tryz.f150 15 fun E a=>?_;refine ah a 1 (kp [2,3]) gS 48 ?_;refine bD a 1 (kp [4]) [] 224 (pc o1 (pc o1 (pc o1 (pc (show 0<=(0:Int)/\(0:Int) < ((1:Nat):Int) by decide) pn)))) ?_;exact ki a 0 Tryz.f150 [] (kp [4]) [] 224 pn [] pn
theorem atY:Sd 245 [(.agg [(.sl 1 (fun zi=>([[fh,eS,(.sl 1 gk),fj,(aI (-1)),(aB false),.nil]]:List (List AV)).getD zi [])),(.sl 1 iW),.nil,.nil,.nil,(aI 0),(aI 0),(aI 0),(aI 5)]),(.sl 1 n8),eS] [] 0 (.mp 0) [(0,⟨false,0,0,true,fun _=>[(aI 1),(aI 1),(aI 2),(aI 1),(aI 3),(aI 1)]⟩)]:=by
 refine sO Tryz.f245 56 fun E a=>?_;refine ah a 1 (kp [1,2,3]) (kq [0]) 32 ?_;refine ah a 1 (kp [1,2,3,7]) JH 64 ?_;refine ah a 2 (kp [2,3,7,13,14,15]) JH 112 ?_;refine ah a 3 (kp [2,3,7,13,14,15,16]) JH 128 ?_;refine se 1 16 ?_;refine bD a 4 (kp [2,3,7,8,9,13,14,15]) (kq [0,32,176]) 224 (pc (show 0<=(0:Int)/\(0:Int) < ((1:Nat):Int) by decide) (pc o1 pn)) ?_;refine bD a 1 (kp [2,3,7,9,10,13,14,15]) w7 336 (pc o1 (pc (show 0<=(0:Int)/\(0:Int) < ((1:Nat):Int) by decide) (pc o1 pn))) ?_;refine bc a 2 [(4,⟨[],true,.il,[],1,false,none⟩),(5,⟨[],true,.il,[],1,false,none⟩),(6,⟨[],true,.il,[],1,false,none⟩),(7,⟨[],true,.il,[],1,false,none⟩)] (kp [2,3,7,9,10,13,14,15,33]) w7 480 (pc o1 (pc (Eq.refl true) (pc (Eq.refl true) (pc o1 (pc (Eq.refl true) (pc (Eq.refl true) pn)))))) ?_;refine ig 0 33 ?_;refine bD a 2 JE w7 528 (pc o1 pn) ?_;refine bc a 4 [(3,oT (aI 4))] Wh w7 608 (pc o1 (pc o1 (pc aeu pn))) ?_;refine se 0 40 ?_;refine bc a 3 [(2,oT (aI 0)),(11,oT (.tup [(aI 1),(aI 1)]))] JE w7 800 (pc (show (Go.Ab.look Tryz.prog 3 [] (aI 1)).map (fun zr=>zr.getD (ofConst (.int .i64 0)))=some (aI 0) by kernel_rfl) (pc o1 (pc o1 (pc (show 0<=(0:Int)/\(0:Int) < ((1:Nat):Int) by decide) (pc (show Go.Ab.FC Tryz.prog 3 [] (aI 1) (aI 1)=some [(aI 1),(aI 1)] by kernel_rfl) pn))))) ?_;refine ah a 1 JE w7 848 ?_;refine bc a 3 [(3,oT (aI 4))] Wh w7 928 (pc o1 (pc o1 (pc aeu pn))) ?_;refine se 0 40 ?_;refine bc a 3 [(2,oT (aI 0)),(11,oT (.tup [(aI 1),(aI 1),(aI 2),(aI 1)]))] JE w7 1120 (pc (show (Go.Ab.look Tryz.prog 3 [(aI 1),(aI 1)] (aI 2)).map (fun zr=>zr.getD (ofConst (.int .i64 0)))=some (aI 0) by kernel_rfl) (pc o1 (pc o1 (pc (show 0<=(0:Int)/\(0:Int) < ((1:Nat):Int) by decide) (pc (show Go.Ab.FC Tryz.prog 3 [(aI 1),(aI 1)] (aI 2) (aI 1)=some [(aI 1),(aI 1),(aI 2),(aI 1)] by kernel_rfl) pn))))) ?_;refine ah a 1 JE w7 1168 ?_;refine bc a 3 [(3,oT (aI 4))] Wh w7 1248 (pc o1 (pc o1 (pc aeu pn))) ?_;refine se 0 40 ?_;refine bc a 3 [(2,oT (aI 0)),(11,oT (.tup [(aI 1),(aI 1),(aI 2),(aI 1),(aI 3),(aI 1)]))] JE w7 1440 (pc (show (Go.Ab.look Tryz.prog 3 [(aI 1),(aI 1),(aI 2),(aI 1)] (aI 3)).map (fun zr=>zr.getD (ofConst (.int .i64 0)))=some (aI 0) by kernel_rfl) (pc o1 (pc o1 (pc (show 0<=(0:Int)/\(0:Int) < ((1:Nat):Int) by decide) (pc (show Go.Ab.FC Tryz.prog 3 [(aI 1),(aI 1),(aI 2),(aI 1)] (aI 3) (aI 1)=some [(aI 1),(aI 1),(aI 2),(aI 1),(aI 3),(aI 1)] by kernel_rfl) pn))))) ?_;refine ah a 1 JE w7 1488 ?_;refine bc a 3 [(3,oT (aI 4))] Wh w7 1568 (pc o1 (pc o1 (pc aeu pn))) ?_;refine ig 0 40 ?_;refine ah a 2 (kp [2,3,7,13,14,15]) JH 1600 ?_;refine ah a 2 (kp [2,3,7,13,14,15,16]) JH 1616 ?_;refine ig 1 16 ?_;refine ah a 2 (kp [6]) (kq [32]) 1648 ?_;exact ki a 0 Tryz.f245 [] (kp [6]) [(0,.aj 32)] 1648 pn [] pn
theorem atZ:Sd 231 [(.agg [(.sl 1 (fun zi=>([[fh,eS,(.sl 1 gk),fj,(aI (-1)),(aB false),.nil]]:List (List AV)).getD zi [])),(.sl 1 iW),.nil,.nil,.nil,(aI 0),(aI 0),(aI 0),(aI 5)]),(.sl 1 n8)] [] 0 .nil []:=by
 refine sO Tryz.f231 43 fun E a=>?_;refine ah a 1 (kp [1,2]) (kq [0]) 32 ?_;refine ah a 1 qB (kq [0]) 48 ?_;refine bD a 2 (kp [1,2,5,12,13,14]) (kq [0]) 112 (pc o1 pn) ?_;refine ah a 3 (kp [1,2,5,12,13,14,15]) (kq [0]) 128 ?_;refine se 1 15 ?_;refine bD a 4 (kp [1,2,5,7,12,13,14]) rj 192 (pc (show 0<=(0:Int)/\(0:Int) < ((1:Nat):Int) by decide) (pc o1 pn)) ?_;refine ah a 1 (kp [1,2,5,7,8,12,13,14]) rj 208 ?_;refine ar.nH a 2 1 [(4,⟨[],true,(.mp 0),[(0,⟨false,0,0,true,fun _=>[(aI 1),(aI 1),(aI 2),(aI 1),(aI 3),(aI 1)]⟩)],0,false,none⟩)] 289 3 3 23 22 272 aI aI ([(1,1),(2,1),(3,1)]:List (Int×Int)) (pc o1 (pc o1 (pc atY pn))) (fun E d a b=>?_);have c:(∀ y∈([(1,1),(2,1),(3,1)]:List (Int×Int)),y.2=1)/\([(1,1),(2,1),(3,1)]:List (Int×Int)).length=3:=⟨by decide,rfl⟩;refine Lo a [] V5 rj 304 pn ?_;refine ar.nM a b 1 c 3 24 23 (fun x rem c E a b=>?_);refine Lo a [] abb rj 336 pn ?_;refine se 1 25 ?_;refine ar.nY b 3 26 23 pn ?_;refine Lo a [] aba rj 384 pn ?_;refine ah a 0 V5 rj 448 ?_;refine ar.nM a b 1 c 3 24 23 (fun x rem c E a b=>?_);refine Lo a [] abb rj 480 pn ?_;refine se 1 25 ?_;refine ar.nY b 3 26 23 pn ?_;refine Lo a [] aba rj 528 pn ?_;refine ah a 0 V5 rj 592 ?_;refine ar.nM a b 1 c 3 24 23 (fun x rem c E a b=>?_);refine Lo a [] abb rj 624 pn ?_;refine se 1 25 ?_;refine ar.nY b 3 26 23 pn ?_;refine Lo a [] aba rj 672 pn ?_;refine ah a 0 V5 rj 736 ?_;refine ar.nM0 a b c 3 24 23 ?_;refine Lo a [] (kp [1,2,5,7,8,12,13,14,25]) rj 768 pn ?_;refine ig 1 25 ?_;refine bD a 2 (kp [1,2,5,7,12,13,14,34]) rj 832 (pc o1 pn) ?_;refine ig 0 34 ?_;refine ah a 2 (kp [1,2,5,12,13,14]) (kq [0]) 864 ?_;refine ah a 2 (kp [1,2,5,12,13,14,15]) (kq [0]) 880 ?_;refine ig 1 15 ?_;refine ah a 2 (kp [4]) (kq [0]) 912 ?_;exact ki a 0 Tryz.f231 [] (kp [4]) (kq [0]) 912 pn [0] pn
theorem at0:Sd 232 [(.agg [(.sl 1 (fun zi=>([[fh,eS,(.sl 1 gk),fj,(aI (-1)),(aB false),.nil]]:List (List AV)).getD zi [])),(.sl 1 iW),.nil,.nil,.nil,(aI 0),(aI 0),(aI 0),(aI 5)]),(.sl 1 n8)] [] 0 .nil []:=by
 refine sO Tryz.f232 50 fun E a=>?_;refine ah a 1 (kp [1,2]) (kq [0]) 32 ?_;refine ah a 1 qB (kq [0]) 48 ?_;refine ah a 2 (kp [1,2,5,9,10]) (kq [0]) 96 ?_;refine ah a 3 (kp [1,2,5,9,10,11]) (kq [0]) 112 ?_;refine se 1 11 ?_;refine ah a 4 (kp [1,2,5,6,9,10]) (kq [0]) 144 ?_;refine ah a 1 (kp [1,2,5,6,7,9,10]) (kq [0]) 192 ?_;refine ah a 4 (kp [1,2,5,6,7,9,10,18]) (kq [0]) 256 ?_;refine ig 0 18 ?_;refine ah a 2 (kp [1,2,5,9,10]) (kq [0]) 288 ?_;refine ah a 2 (kp [1,2,5,9,10,11]) (kq [0]) 304 ?_;refine ig 1 11 ?_;refine ah a 2 (kp [4]) [] 336 ?_;exact ki a 0 Tryz.f232 [] (kp [4]) [] 336 pn [] pn
theorem at1:Sd 248 [(.agg [(.sl 1 (fun zi=>([[fh,eS,(.sl 1 gk),fj,(aI (-1)),(aB false),.nil]]:List (List AV)).getD zi [])),(.sl 1 iW),.nil,.nil,.nil,(aI 0),(aI 0),(aI 0),(aI 5)]),(.agg [fh,eS,(.sl 1 gk),fj,(aI (-1)),(aB false),.nil]),(.agg [(aI 0),(aI 1),(aB true)])] [] 0 (aB false) []:=by
 refine sO Tryz.f248 15 fun E a=>?_;refine ah a 1 GX jU 64 ?_;refine bc a 1 [(3,⟨[],true,(aB false),[],2,false,none⟩),(4,⟨[],true,(aB false),[],2,false,none⟩),(5,⟨[],true,(aB false),[],2,false,none⟩),(6,⟨[],true,(aB false),[],2,false,none⟩)] (kp [6]) [] 208 (pc o1 (pc (Eq.refl false) (pc (Eq.refl false) (pc (Eq.refl false) (pc (Eq.refl false) (pc (show false=true->bg [false=true] from (fun b=>absurd b (by decide))) pn)))))) ?_;exact ki a 0 Tryz.f248 [] (kp [6]) [] 208 pn [] pn
theorem at2:Sd 233 [(.agg [(.sl 1 (fun zi=>([[fh,eS,(.sl 1 gk),fj,(aI (-1)),(aB false),.nil]]:List (List AV)).getD zi [])),(.sl 1 iW),.nil,.nil,.nil,(aI 0),(aI 0),(aI 0),(aI 5)]),(.sl 1 n8)] [] 0 .nil []:=by
 refine sO Tryz.f233 35 fun E a=>?_;refine ah a 1 (kp [1,2]) (kq [0]) 32 ?_;refine ah a 1 qB (kq [0]) 48 ?_;refine ah a 2 JF (kq [0]) 96 ?_;refine ah a 3 MI (kq [0]) 112 ?_;refine se 1 11 ?_;refine bD a 4 abg rj 208 (pc (show 0<=(0:Int)/\(0:Int) < ((1:Nat):Int) by decide) (pc o1 pn)) ?_;refine bc a 1 [(7,oT (aB false))] (kp [2,5,6,8,9,10,22]) (kq [0]) 336 (pc o1 (pc o1 (pc (show 0<=(0:Int)/\(0:Int) < ((1:Nat):Int) by decide) (pc o1 (pc at1 pn))))) ?_;refine ig 0 22 ?_;refine ah a 2 JF (kq [0]) 368 ?_;refine ah a 2 MI (kq [0]) 384 ?_;refine ig 1 11 ?_;refine ah a 2 (kp [4]) [] 416 ?_;exact ki a 0 Tryz.f233 [] (kp [4]) [] 416 pn [] pn
theorem at3:Sd 234 [(.agg [(.sl 1 (fun zi=>([[fh,eS,(.sl 1 gk),fj,(aI (-1)),(aB false),.nil]]:List (List AV)).getD zi [])),(.sl 1 iW),.nil,.nil,.nil,(aI 0),(aI 0),(aI 0),(aI 5)]),(.sl 1 n8)] [] 0 .nil []:=by
 refine sO Tryz.f234 37 fun E a=>?_;refine ah a 1 (kp [1,2]) (kq [0]) 32 ?_;refine ah a 1 qB (kq [0]) 48 ?_;refine ah a 2 JF (kq [0]) 96 ?_;refine ah a 3 MI (kq [0]) 112 ?_;refine se 1 11 ?_;refine bD a 4 abg rj 208 (pc (show 0<=(0:Int)/\(0:Int) < ((1:Nat):Int) by decide) (pc o1 pn)) ?_;refine bc a 1 [(6,oT (aI 4))] (kp [2,5,6,8,9,10,24]) (kq [0]) 368 (pc o1 (pc o1 (pc (show 0<=(0:Int)/\(0:Int) < ((1:Nat):Int) by decide) (pc aeu (pc o1 pn))))) ?_;refine ig 0 24 ?_;refine ah a 2 JF (kq [0]) 400 ?_;refine ah a 2 MI (kq [0]) 416 ?_;refine ig 1 11 ?_;refine ah a 2 (kp [4]) [] 448 ?_;exact ki a 0 Tryz.f234 [] (kp [4]) [] 448 pn [] pn
theorem kc4:Sd 148 [(.agg [(.sl 1 (fun zi=>([[fh,eS,(.sl 1 gk),fj,(aI (-1)),(aB false),.nil]]:List (List AV)).getD zi [])),(.sl 1 iW),.nil,.nil,.nil,(aI 0),(aI 0),(aI 0),(aI 5)]),(.sl 1 Q6)] [] 0 (.tup [(.sl 0 dW),(aI 0)]) []:=by
 refine sO Tryz.f148 35 fun E a=>?_;refine ah a 1 (kp [1,2]) (kq [0]) 48 ?_;refine bc a 1 [(2,oT (.tup [(.sl 1 n8),(aI 0)]))] (kp [2,6,7]) (kq [0]) 176 (pc o1 (pc kc5 pn)) ?_;refine ah a 2 (kp [2,6,7,18]) (kq [0]) 208 ?_;refine ig 0 18 ?_;refine ah a 2 (kp [2,6,8]) (kq [0]) 224 ?_;refine bc a 2 [(0,oT (.sl 5 (fun zi=>([[(.fn (.func 230) [] [])],[(.fn (.func 231) [] [])],[(.fn (.func 232) [] [])],[(.fn (.func 233) [] [])],[(.fn (.func 234) [] [])]]:List (List AV)).getD zi [])))] Ah (kq [0]) 272 (pc atW pn) ?_;refine ah a 3 MJ (kq [0]) 288 ?_;refine se 1 23 ?_;refine bD a 4 Ru (kq [0,320]) 352 (pc (show 0<=(0:Int)/\(0:Int) < ((5:Nat):Int) by decide) (pc o1 pn)) ?_;refine bc a 0 [(5,oT (.nil))] Ah abt 480 (pc o1 (pc o1 (pc atX (pc (show 0 * 40<=140737488355328 by decide) (pc (Eq.refl 0) (pc (show ∀ zi,zi < 0->dW zi=((fun _=>[])) zi from (js (n:=0) trivial)) pn)))))) ?_;refine bD a 1 Ah abt 512 (pc (Eq.refl 0) (pc (show ∀ zi,zi < 0->dW zi=dW zi from (js (n:=0) trivial)) pn)) ?_;refine bD a 2 MJ abt 528 (pc (Eq.refl 0) (pc (show ∀ zi,zi < 0->dW zi=dW zi from (js (n:=0) trivial)) pn)) ?_;refine se 1 23 ?_;refine bD a 4 Ru (kq [0] ++ [(448,.arr 448 0 dW)] ++ kq [560]) 592 (pc (show 0<=(1:Int)/\(1:Int) < ((5:Nat):Int) by decide) (pc o1 (pc (Eq.refl 0) (pc (show ∀ zi,zi < 0->dW zi=dW zi from (js (n:=0) trivial)) pn)))) ?_;refine bc a 0 [(5,oT (.nil))] Ah abu 720 (pc o1 (pc o1 (pc atZ (pc (Eq.refl 0) (pc (show (0+0) * 40<=140737488355328 by decide) (pc (Eq.refl 0) (pc (show ∀ zi,zi < 0->dW zi=(fun b=>if b < 0 then dW b else ((fun _=>[])) (b - 0)) zi from (js (n:=0) trivial)) pn))))))) ?_;refine bD a 1 Ah abu 752 (pc (Eq.refl 0) (pc (show ∀ zi,zi < 0->dW zi=dW zi from (js (n:=0) trivial)) pn)) ?_;refine bD a 2 MJ abu 768 (pc (Eq.refl 0) (pc (show ∀ zi,zi < 0->dW zi=dW zi from (js (n:=0) trivial)) pn)) ?_;refine se 1 23 ?_;refine bD a 4 Ru (kq [0] ++ [(688,.arr 688 0 dW)] ++ kq [800]) 832 (pc (show 0<=(2:Int)/\(2:Int) < ((5:Nat):Int) by decide) (pc o1 (pc (Eq.refl 0) (pc (show ∀ zi,zi < 0->dW zi=dW zi from (js (n:=0) trivial)) pn)))) ?_;refine bc a 0 [(5,oT (.nil))] Ah abv 960 (pc o1 (pc o1 (pc at0 (pc (Eq.refl 0) (pc (show (0+0) * 40<=140737488355328 by decide) (pc (Eq.refl 0) (pc (show ∀ zi,zi < 0->dW zi=(fun b=>if b < 0 then dW b else ((fun _=>[])) (b - 0)) zi from (js (n:=0) trivial)) pn))))))) ?_;refine bD a 1 Ah abv 992 (pc (Eq.refl 0) (pc (show ∀ zi,zi < 0->dW zi=dW zi from (js (n:=0) trivial)) pn)) ?_;refine bD a 2 MJ abv 1008 (pc (Eq.refl 0) (pc (show ∀ zi,zi < 0->dW zi=dW zi from (js (n:=0) trivial)) pn)) ?_;refine se 1 23 ?_;refine bD a 4 Ru (kq [0] ++ [(928,.arr 928 0 dW)] ++ kq [1040]) 1072 (pc (show 0<=(3:Int)/\(3:Int) < ((5:Nat):Int) by decide) (pc o1 (pc (Eq.refl 0) (pc (show ∀ zi,zi < 0->dW zi=dW zi from (js (n:=0) trivial)) pn)))) ?_;refine bc a 0 [(5,oT (.nil))] Ah abo 1200 (pc o1 (pc o1 (pc at2 (pc (Eq.refl 0) (pc (show (0+0) * 40<=140737488355328 by decide) (pc (Eq.refl 0) (pc (show ∀ zi,zi < 0->dW zi=(fun b=>if b < 0 then dW b else ((fun _=>[])) (b - 0)) zi from (js (n:=0) trivial)) pn))))))) ?_;refine bD a 1 Ah abo 1232 (pc (Eq.refl 0) (pc (show ∀ zi,zi < 0->dW zi=dW zi from (js (n:=0) trivial)) pn)) ?_;refine bD a 2 MJ abo 1248 (pc (Eq.refl 0) (pc (show ∀ zi,zi < 0->dW zi=dW zi from (js (n:=0) trivial)) pn)) ?_;refine se 1 23 ?_;refine bD a 4 Ru (kq [0] ++ [(1168,.arr 1168 0 dW)] ++ kq [1280]) 1312 (pc (show 0<=(4:Int)/\(4:Int) < ((5:Nat):Int) by decide) (pc o1 (pc (Eq.refl 0) (pc (show ∀ zi,zi < 0->dW zi=dW zi from (js (n:=0) trivial)) pn)))) ?_;refine bc a 0 [(5,oT (.nil))] Ah abp 1440 (pc o1 (pc o1 (pc at3 (pc (Eq.refl 0) (pc (show (0+0) * 40<=140737488355328 by decide) (pc (Eq.refl 0) (pc (show ∀ zi,zi < 0->dW zi=(fun b=>if b < 0 then dW b else ((fun _=>[])) (b - 0)) zi from (js (n:=0) trivial)) pn))))))) ?_;refine bD a 1 Ah abp 1472 (pc (Eq.refl 0) (pc (show ∀ zi,zi < 0->dW zi=dW zi from (js (n:=0) trivial)) pn)) ?_;refine bD a 2 MJ abp 1488 (pc (Eq.refl 0) (pc (show ∀ zi,zi < 0->dW zi=dW zi from (js (n:=0) trivial)) pn)) ?_;refine ig 1 23 ?_;refine bD a 2 (kp [4,5]) [(1408,.arr 1408 0 dW)] 1536 (pc (Eq.refl 0) (pc (show ∀ zi,zi < 0->dW zi=dW zi from (js (n:=0) trivial)) pn)) ?_;exact ki a 0 Tryz.f148 [1408] ([(4,.sl 0 dW)] ++ kp [5]) [] 1536 (pc (Eq.refl 0) (pc (show 0+0<=0 from (z1 0)) (pc (show ∀ zi,zi < 0->dW zi=dW (da 0 zi) from (js (n:=0) trivial)) pn))) [] pn
theorem kc3:Sd 78 [(.agg [(.sl 1 (fun zi=>([[fh,eS,(.sl 1 gk),fj,(aI (-1)),(aB false),.nil]]:List (List AV)).getD zi [])),(.sl 1 iW),.nil,.nil,.nil,(aI 0),(aI 0),(aI 0),(aI 5)]),(.sl 1 Q6)] [] 0 (.tup [(.sl 1 n8),(aI 0)]) []:=by
 refine sO Tryz.f78 29 fun E a=>?_;refine ah a 1 (kp [1,2]) (kq [0]) 48 ?_;refine bc a 1 [(2,oT (.tup [(.sl 0 dW),(aI 0)]))] (kp [1,2,6,7]) (kq [0]) 176 (pc o1 (pc kc4 pn)) ?_;refine ah a 2 (kp [1,2,6,7,15]) (kq [0]) 208 ?_;refine ig 0 15 ?_;refine ah a 3 (kp [1,2,6,19]) (kq [0]) 256 ?_;refine ig 0 19 ?_;refine bc a 2 [(2,oT (.tup [(.sl 1 n8),(aI 0)]))] (kp [4,5]) [] 368 (pc o1 (pc kc5 pn)) ?_;exact ki a 0 Tryz.f78 [] (kp [4,5]) [] 368 pn [] pn
theorem at4:Sd 79 [(.agg [(.sl 1 (fun zi=>([[fh,eS,(.sl 1 gk),fj,(aI (-1)),(aB false),.nil]]:List (List AV)).getD zi [])),(.sl 1 iW),.nil,.nil,.nil,(aI 0),(aI 0),(aI 0),(aI 5)]),(.sl 1 n8)] [] 0 (aI 4) []:=by
 refine sO Tryz.f79 28 fun E a=>?_;refine ah a 1 (kp [1,2]) (kq [0]) 32 ?_;refine ah a 1 qB (kq [0]) 48 ?_;refine ah a 2 JF (kq [0]) 96 ?_;refine ah a 3 MI (kq [0]) 112 ?_;refine se 1 11 ?_;refine bD a 4 abg rj 208 (pc (show 0<=(0:Int)/\(0:Int) < ((1:Nat):Int) by decide) (pc o1 pn)) ?_;refine bD a 1 (kp [2,5,6,7,8,9,10,16]) rj 240 (pc o1 pn) ?_;refine se 0 16 ?_;refine bc a 0 [(7,oT (aI 4))] JF (kq [0]) 400 (pc o1 (pc o1 (pc (show 0<=(0:Int)/\(0:Int) < ((1:Nat):Int) by decide) (pc aeu pn)))) ?_;refine ah a 1 JF (kq [0]) 432 ?_;refine ah a 2 MI (kq [0]) 448 ?_;refine ig 1 11 ?_;refine ah a 2 (kp [4]) [] 480 ?_;exact ki a 0 Tryz.f79 [] (kp [4]) [] 480 pn [] pn
theorem kc2:Sd 33 [(.agg [(.sl 1 (fun zi=>([[fh,eS,(.sl 1 gk),fj,(aI (-1)),(aB false),.nil]]:List (List AV)).getD zi [])),(.sl 1 iW),.nil,.nil,.nil,(aI 0),(aI 0),(aI 0),(aI 5)]),(.sl 1 Q6)] [] 0 (.tup [(aI 4),(aI 0)]) []:=by
 refine sO Tryz.f33 20 fun E a=>?_;refine ah a 1 (kp [1,2]) (kq [0]) 48 ?_;refine bc a 1 [(2,oT (.tup [(.sl 1 n8),(aI 0)]))] (kp [2,6,7]) (kq [0]) 176 (pc o1 (pc kc3 pn)) ?_;refine ah a 2 (kp [2,6,7,15]) (kq [0]) 208 ?_;refine ig 0 15 ?_;refine bc a 2 [(2,oT (aI 4))] (kp [4,5]) [] 288 (pc o1 (pc at4 pn)) ?_;exact ki a 0 Tryz.f33 [] (kp [4,5]) [] 288 pn [] pn
theorem kc1:Sd 7 [] [] 0 (aB true) []:=by
 refine sO Tryz.f7 24 fun E a=>?_;refine ah a 1 [] [] 16 ?_;refine rnR a 1 [(5,⟨[],true,.il,[(64,⟨false,2,1,true,fun zi=>([[(aI 3),(aI 1)]]:List (List AV)).getD zi []⟩)],0,true,none⟩)] [96,32] (kp [1]) [(128,.var 128 [.sl 1 (fun zi=>([[fh,eS,(.sl 1 gk),fj,(aI (-1)),(aB false),.nil]]:List (List AV)).getD zi []),.sl 1 iW,.aj,.aj,.aj,.aj,.aj,.aj,.aj])] 160 (pc (show 1<=1 from (aV 1)) (pc (show ∀ zi,zi < 1->gk zi=gk zi from (js (n:=1) ⟨trivial,rfl⟩)) (pc (Eq.refl 1) (pc o1 (pc (Eq.refl 1) (pc (show 0+1<=1 from (z1 1)) (pc (show ∀ zi,zi < 1->(fun zi=>([[fh,eS,(.sl 1 gk),fj,(aI (-1)),(aB false),.nil]]:List (List AV)).getD zi []) zi=(fun zi=>([[fh,eS,(.sl 1 gk),fj,(aI (-1)),(aB false),.nil]]:List (List AV)).getD zi []) (da 0 zi) from (js (n:=1) ⟨trivial,rfl⟩)) (pc (Eq.refl 1) (pc (show 0+1<=1 from (z1 1)) (pc (show ∀ zi,zi < 1->iW zi=iW (da 0 zi) from (js (n:=1) ⟨trivial,rfl⟩)) pn)))))))))) ?_;refine bc a 1 [(3,oT (.tup [(aI 4),(aI 0)]))] (kp [2,3]) [] 304 (pc o1 (pc (show Sd 33 [(.agg [(.sl 1 (fun zi=>([[fh,eS,(.sl 1 gk),fj,(aI (-1)),(aB false),.nil]]:List (List AV)).getD zi [])),(.sl 1 iW),.nil,.nil,.nil,(aI 0),(aI 0),(aI 0),(aI 5)]),(.sl 1 (fun zi=>Q6 (da 0 zi)))] [] 0 (.tup [(aI 4),(aI 0)]) [] from (Sound.conv kc2 (.cons (Alike.refl _) (.cons (Alike.sl rfl (js (n:=1) ⟨trivial,rfl⟩)) .nil)))) (pc (show 0+1<=1 from (z1 1)) pn))) ?_;refine bc a 1 [(3,⟨[],true,.il,[],1,false,none⟩),(4,⟨[],true,.il,[],1,false,none⟩)] (kp [0]) [] 416 (pc (Eq.refl true) (pc (Eq.refl true) pn)) ?_;exact ki a 0 Tryz.f7 [] (kp [0]) [] 416 pn [] pn
noncomputable abbrev ahX:=bt Tryz.f80
def RZ (N:Nat) (K:Int->(List Int)->Option kI):Prop:=∀ (a:Int) (out:List Int) (r:(List Int)),K a out=some r->∀ E,aG E 0->ar Tryz.prog E 80 15 (aH E [] (eJ r)) [.code (ahX 56),.inLoop (ahX 56),.inBlock 0,.code (ahX 15)] ⟨[(0,(uB a)),(3,(nb out))],[(0,aU out)],1⟩
theorem OM (N fuel):RZ N (qn N fuel):=by
 induction fuel with
 | zero=>intro _ _ r h;rw [qn.eq_1] at h;cases h
 | succ fuel d =>
  intro b out r h E a;rw [qn.eq_2] at h;refine ah a 2 VY (kq [0]) 33 <| b9 0 5 h (fun e h=>?_) (fun e h=>?_)
  ·obtain ⟨c,h⟩:=ae h;refine bD a 3 (kp [0] ++ [(3,.mM ((out ++ (QX b)).length))]) [(113,ru 113 (cU .u16) 0 (out ++ (QX b)))] 145 (pc (Eq.refl out.length) (pc c (pc (z1 1) (pc (oN [[(a16 (IntKind.u16.wrap ((XT .u64 b 65535))))]]) (pc (cj out (QX b)) (pc (cj out (QX b)) (pc (S5 (cU .u16) 0 out (QX b)) pn))))))) <| bD a 1 (kp [0,3]) (kq [113]) 193 (pc (show (0:Int)<=16 by decide) pn) <| cd a 1 (kp [0,3]) [(0,.aj 113)] 1 (d _ _ _ h E a)
  ·refine ah a 2 (kp [2]) (kq [0]) 65 ?_;obtain rfl:=lk h;exact ki a 0 Tryz.f80 [0] [(2,Cx (cU .u16) 0 out)] [] 65 (pc (Eq.refl out.length) (pc (z1 out.length) (pc (eZ (cU .u16) 0 out) pn))) [] pn
theorem KS (N n r) (h:zR N n=some r):Sd 80 [(uB n)] [] 0 (eJ r) []:=by
 unfold zR at h;refine sO Tryz.f80 15 fun E a=>?_;refine ah a 1 (kp [0]) [] 16 <| ah a 1 (kp [0,3]) [] 32 <| cd a 3 (kp [0] ++ [(3,.xE 0)]) [(0,.nil 1 (fun zi=>(cU .u16) (([]:List Int).getD zi 0)))] 1 (OM N N _ _ _ h E a)
theorem Yi (N n r) (h:Uc N n=some r):Sd 35 [(aI n)] [] 0 (bO r) []:=by
 unfold Uc at h;refine sO Tryz.f35 16 fun E a=>?_;refine ah a 1 (kp [0,2]) (kq [0]) 16 <| ah a 2 (kp [0,2,4]) (kq [0]) 48 <| b9 0 4 h (fun c h=>?_) (fun c h=>?_)
 ·obtain ⟨b,d,h⟩:=a7 h;refine bc a 1 [(5,oT (eJ b))] (kp [2]) (kq [0]) 176 (pc (KS _ _ _ d) (pc o1 pn)) ?_;cases h;exact ki a 0 Tryz.f35 [] (kp [2]) [(16,.aj 0)] 176 pn [16] (pc o1 pn)
 ·obtain ⟨e,f,h⟩:=a7 h;refine bc a 2 [(2,oT (eJ e))] (kp [2]) (kq [0]) 128 (pc (KS _ _ _ f) (pc o1 pn)) ?_;cases h;exact ki a 0 Tryz.f35 [] (kp [2]) [(16,.aj 0)] 128 pn [16] (pc o1 pn)
theorem tL (N n r) (h:CU N n=some r):Sd 9 [(aI n)] [] 0 (aA r) []:=by
 unfold CU at h;refine sO Tryz.f9 7 fun E a=>?_;refine ah a 1 (kp [0,2]) (kq [0]) 16 ?_;obtain ⟨c,d,h⟩:=a7 h;obtain ⟨b,e,h⟩:=a7 h;refine bc a 1 [(1,oT (bO c)),(2,oT (bO b))] (kp [2]) (kq [0]) 96 (pc (Yi _ _ _ d) (pc (Yi _ _ _ e) (pc o1 pn))) ?_;cases h;exact ki a 0 Tryz.f9 [] (kp [2]) [(16,.aj 0)] 96 pn [16] (pc o1 pn)
noncomputable abbrev ahY:=bt Tryz.f34
def Na (N:Nat) (x:bq) (K:Int->Int->Option (Int)):Prop:=∀ (n:Int) (i:Int) (r:Int),K n i=some r->∀ E,aG E 0->ar Tryz.prog E 34 26 (aH E [] (aI r)) [.code (ahY 116),.inLoop (ahY 116),.inBlock 0,.code (ahY 15)] ⟨[(1,(.op 0 0 0)),(3,(aI n)),(4,(aI i))],[(0,vO 7 (BU x))],1⟩
theorem KT (N x fuel):Na N x (lZ N x fuel):=by
 induction fuel with
 | zero=>intro _ _ r h;rw [lZ.eq_1] at h;cases h
 | succ fuel b =>
  intro n i r h E a;rw [lZ.eq_2] at h;refine bD a 2 (kp [1,3,4,14]) (kq [0]) 81 (pc o1 pn) <| b9 0 14 h (fun c h=>?_) (fun c h=>?_)
  ·obtain ⟨d,h⟩:=ae h;refine bD a 3 B2 (kq [0]) 225 (pc o1 (pc d pn)) <| ah a 1 B2 (kq [0]) 273 <| cd a 1 B2 (kq [0]) 1 (b _ _ _ h E a)
  ·refine ah a 2 (kp [2]) [] 113 ?_;obtain rfl:=lk h;exact dN a 0 Tryz.f34 (kp [2]) [] 113
theorem Hk (N x r) (h:xO N x=some r):Sd 34 [(.agg (BU x))] [] 0 (aI r) []:=by
 unfold xO at h;refine sO Tryz.f34 26 fun E a=>?_;refine ah a 1 (kp [1]) (kq [0]) 32 ?_;obtain ⟨c,h⟩:=ae h;refine bD a 1 (kp [1,3]) (kq [0]) 128 (pc o1 (pc c pn)) <| ah a 2 B2 (kq [0]) 144 <| cd a 2 B2 (kq [0]) 1 (KT N _ N _ _ _ h E a)
noncomputable abbrev NV:=bt Tryz.f8
def qf (N:Nat) (w:aq) (K:GG->Int->Option (GG)):Prop:=∀ (out:List a8) (i:Int) (r:GG),K out i=some r->∀ E,aG E 0->ar Tryz.prog E 8 100 (aH E [] (VO r)) [.code (NV 244),.inLoop (NV 244),.inBlock 0,.code (NV 31)] ⟨[(1,(.op 0 0 0)),(3,(Mp w)),(4,(.os 1 0 out.length)),(5,(aI i))],[(eI w),(1,aO 5 Zv a8.d out)],2⟩
def xV (N:Nat) (w:aq) (i:Int) (K:GG->Int->Option (GG)):Prop:=∀ (a:List a8) (k:Int) (r:GG),K a k=some r->∀ E,aG E 0->ar Tryz.prog E 8 100 (aH E [] (VO r)) [.code (NV 250492),.inLoop (NV 250492),.inBlock 2,.inBlock 1,.code (NV 979),.inLoop (NV 244),.inBlock 0,.code (NV 31)] ⟨[(1,(.op 0 0 0)),(3,(Mp w)),(4,(.os 1 0 a.length)),(5,(aI i)),(8,(aI k))],[(eI w),(1,aO 5 Zv a8.d a)],2⟩
theorem xa (N:Nat) (w:aq) (i:Int) (m:GG->Int->Option (GG)) (p:qf N w m) (fuel:Nat):xV N w i (dJ N w i m fuel):=by
 induction fuel with
 | zero=>intro _ _ r h;rw [dJ.eq_1] at h;cases h
 | succ fuel q =>
  intro f k r h E e;rw [dJ.eq_2] at h;obtain ⟨n,h⟩:=ae h;refine bD e 2 (kp [1,3,4,5,8,61]) (kq [0,1]) 146 (pc o1 (pc n pn)) <| b9 0 61 h (fun s h=>?_) (fun s h=>?_)
  ·obtain ⟨t,h⟩:=ae h;obtain ⟨b,u,h⟩:=a7 h;refine bc e 4 [(10,oT (aI b))] (kp [1,3,4,5,8,9]) (kq [0,1]) 338 (pc o1 (pc o1 (pc n (pc t (pc (yC _ _ _ _ u) pn))))) ?_;obtain ⟨j,h⟩:=ae h;refine bD e 1 (kp [1,3,4,5,8,9] ++ [(10,.mM (NR w))]) (kq [0,1] ++ [(370,.arz 370 (NR w) (GL w))]) 402 (pc j.1 (pc (Int.le_refl (Wp w)) (pc j.2.1 (pc j.2.2 (pc (lR (Fm w) oz) (pc (lQ (Fm w) oz) (pc (show ∀ zi,zi < (tu w).length->S4 ((fun _=>[(aB false),.nil,(aB false),.nil]) zi) ((GL w) zi) from (fun v x=>nU dY aa.d aa.d (Fm w) v ⟨.inl rfl,.inr ⟨rfl,_,rfl⟩,.inl rfl,.inr ⟨rfl,_,rfl⟩,trivial⟩ x)) pn))))))) ?_;obtain ⟨c,y,h⟩:=a7 h;obtain ⟨d,z,h⟩:=a7 h;obtain ⟨o,h⟩:=ae h;obtain ⟨g,h⟩:=ae h;refine bc e 1 [(4,oT (aA c)),(5,oT (aA d))] (kp [1,3,4,5,8,9] ++ [(10,.mM ((IG w b c i d).length))]) (kq [0,1] ++ [(370,ru 370 dY aa.d (IG w b c i d))]) 562 (pc (tL _ _ _ y) (pc (tL _ _ _ z) (pc o (pc (dz o) (pc g (pc (dz g) (pc (show (tu w).length=(IG w b c i d).length from (fz (fz rfl))) (pc (show (tu w).length=(IG w b c i d).length from (fz (fz rfl))) (pc (xH dY aa.d (NS w b c) i.toNat d (cn dY aa.d (tu w) b.toNat c)) pn))))))))) ?_;obtain ⟨A,h⟩:=ae h;obtain ⟨B,C,h⟩:=a7 h;obtain ⟨a,D,h⟩:=a7 h;obtain ⟨l,h⟩:=ae h;refine bc e 0 [(7,oT (aI B)),(9,oT (aA a)),(11,⟨[],true,.il,[(370,aO 4 dY aa.d (IG w b c i d))],0,true,none⟩)] (kp [1,3] ++ [(4,.mM ((f ++ (Q1 w b c i d a)).length))] ++ kp [5,8]) (kq [0] ++ [(754,ru 754 Zv a8.d (f ++ (Q1 w b c i d a)))]) 786 (pc o1 (pc A (pc (Hk _ _ _ C) (pc (tL _ _ _ D) (pc (show (IG w b c i d).length<=(IG w b c i d).length from (aV _)) (pc (eR dY aa.d (IG w b c i d)) (pc (Eq.refl ((IG w b c i d).length)) (pc (Eq.refl f.length) (pc l (pc (z1 1) (pc (oN [[(bJ dY aa.d (IG w b c i d)),(aB a.fN.fG),(BX a),(aB a.fD.fG),(BW a)]]) (pc (cj f (Q1 w b c i d a)) (pc (cj f (Q1 w b c i d a)) (pc (S5 Zv a8.d f (Q1 w b c i d a)) pn)))))))))))))) <| ah e 1 V8 (kq [0,754]) 834 <| cd e 1 V8 (kq [0] ++ [(1,.aj 754)]) 2 (q _ _ _ h E e)
  ·refine ah e 2 uF (kq [0,1]) 194 <| cd e 1 uF (kq [0,1]) 2 (p _ _ _ h E e)
theorem xd (N w fuel):qf N w (cR N w fuel):=by
 induction fuel with
 | zero=>intro _ _ r h;rw [cR.eq_1] at h;cases h
 | succ fuel o =>
  intro out i r h E g;rw [cR.eq_2] at h;refine ah g 2 (kp [1,3,4,5,16]) (kq [0,1]) 50 <| b9 0 16 h (fun p h=>?_) (fun p h=>?_)
  ·obtain ⟨c,h⟩:=ae h;refine bD g 4 (kp [1,3,4,5] ++ [(6,.mM (NR w)),(7,.mM (NR w))]) (kq [0,1] ++ [(82,.arz 82 (NR w) (GL w)),(130,.arz 130 (NR w) (GL w))]) 178 (pc c.1 (pc (Int.le_refl (Wp w)) (pc c.2.1 (pc c.2.2 (pc c.1 (pc (Int.le_refl (Wp w)) (pc c.2.1 (pc c.2.2 (pc (lR (Fm w) oz) (pc (lR (Fm w) oz) (pc (lQ (Fm w) oz) (pc (show ∀ zi,zi < (tu w).length->S4 ((fun _=>[(aB false),.nil,(aB false),.nil]) zi) ((GL w) zi) from (fun k l=>nU dY aa.d aa.d (Fm w) k ⟨.inl rfl,.inr ⟨rfl,_,rfl⟩,.inl rfl,.inr ⟨rfl,_,rfl⟩,trivial⟩ l)) (pc (lQ (Fm w) oz) (pc (show ∀ zi,zi < (tu w).length->S4 ((fun _=>[(aB false),.nil,(aB false),.nil]) zi) ((GL w) zi) from (fun k l=>nU dY aa.d aa.d (Fm w) k ⟨.inl rfl,.inr ⟨rfl,_,rfl⟩,.inl rfl,.inr ⟨rfl,_,rfl⟩,trivial⟩ l)) pn)))))))))))))) ?_;obtain ⟨e,q,h⟩:=a7 h;obtain ⟨j,h⟩:=ae h;refine bc g 1 [(2,oT (aA e))] (kp [1,3,4,5] ++ [(6,.mM (amG w i e))] ++ kp [7]) (kq [0,1] ++ [(82,ru 82 dY aa.d (NS w i e))] ++ kq [130]) 258 (pc (tL _ _ _ q) (pc j (pc (dz j) (pc (aF (tu w) i.toNat e) (pc (aF (tu w) i.toNat e) (pc (cn dY aa.d (tu w) i.toNat e) pn)))))) ?_;obtain ⟨d,s,h⟩:=a7 h;obtain ⟨f,t,h⟩:=a7 h;obtain ⟨n,h⟩:=ae h;refine bc g 1 [(4,oT (aA d)),(5,oT (aA f))] (kp [1,3,4,5,6] ++ [(7,.mM (amF w i d f))]) (kq [0,1,82] ++ [(130,ru 130 dY aa.d (NQ w i d f))]) 418 (pc (tL _ _ _ s) (pc (tL _ _ _ t) (pc j (pc (dz j) (pc n (pc (dz n) (pc (show (tu w).length=(NQ w i d f).length from (fz (fz rfl))) (pc (show (tu w).length=(NQ w i d f).length from (fz (fz rfl))) (pc (xH dY aa.d (NS w i d) w.ab.length f (cn dY aa.d (tu w) i.toNat d)) pn))))))))) ?_;obtain ⟨a,u,h⟩:=a7 h;obtain ⟨v,h⟩:=ae h;obtain ⟨m,x,h⟩:=a7 h;obtain ⟨b,y,h⟩:=a7 h;obtain ⟨z,h⟩:=ae h;refine bc g 1 [(2,oT (aA a)),(10,oT (aI m)),(12,oT (aA b)),(14,⟨[],true,.il,[(82,aO 4 dY aa.d (NS w i e)),(130,aO 4 dY aa.d (NQ w i d f))],0,true,none⟩)] (kp [1,3] ++ [(4,.mM ((amy out w i e a d f b).length))] ++ kp [5]) (kq [0] ++ [(658,ru 658 Zv a8.d (amy out w i e a d f b))]) 690 (pc (tL _ _ _ u) (pc o1 (pc v (pc (Hk _ _ _ x) (pc (tL _ _ _ y) (pc (show (NS w i e).length<=(NS w i e).length from (aV _)) (pc (eR dY aa.d (NS w i e)) (pc (show (NQ w i d f).length<=(NQ w i d f).length from (aV _)) (pc (eR dY aa.d (NQ w i d f)) (pc (Eq.refl (amG w i e)) (pc (Eq.refl (amF w i d f)) (pc (Eq.refl out.length) (pc z (pc (z1 2) (pc (oN [[(bJ dY aa.d (NS w i e)),(aB a.fN.fG),(BX a),(aB a.fD.fG),(BW a)],[(bJ dY aa.d (NQ w i d f)),(aB b.fN.fG),(BX b),(aB b.fD.fG),(BW b)]]) (pc (cj out (aaX w i e a d f b)) (pc (cj out (aaX w i e a d f b)) (pc (S5 Zv a8.d out (aaX w i e a d f b)) pn)))))))))))))))))) <| ah g 1 V8 (kq [0,658]) 706 <| cd g 2 V8 (kq [0] ++ [(1,.aj 658)]) 2 (xa N _ _ _ o N _ _ _ h E g)
  ·refine ah g 2 (kp [2]) (kq [1]) 82 ?_;obtain rfl:=lk h;exact ki g 0 Tryz.f8 [1] [(2,Cx Zv a8.d out)] [] 82 (pc (Eq.refl out.length) (pc (z1 out.length) (pc (eZ Zv a8.d out) pn))) [] pn
theorem zo (N w r) (h:lB N w=some r):Sd 8 [(mJ w)] [] 0 (VO r) []:=by
 unfold lB at h;refine sO Tryz.f8 100 fun E a=>?_;refine ah a 1 (kp [1]) (kq [0]) 32 <| bD a 1 (kp [1,3]) (kq [0]) 96 (pc o1 pn) <| ah a 1 B2 (kq [0]) 112 <| ah a 2 uF (kq [0]) 128 <| cd a 2 (kp [1,3] ++ [(4,.xE 1)] ++ kp [5]) (kq [0] ++ [(1,.nil 5 (fun zi=>Zv (([]:List a8).getD zi a8.d)))]) 2 (xd N _ N _ _ _ h E a)
noncomputable abbrev qP:=bt Tryz.f40
def sw (N:Nat) (f:List aa) (k:Int) (l:Int) (m:Int) (a:List Int) (b:List Int) (c:List aN) (d:List aa) (K:aN->Bool->(List Int)->Bool->(List Int)->Int->Option Mn):Prop:=∀ (e:List aa) (g:Bool) (h:List Int) (i:Bool) (j:List Int) (x:Int) (r:ml×aN),K e g h i j x=some r->∀ E,aG E 6->ar Tryz.prog E 40 119 (aH E [(0,vN 12 [(aI r.1.zN),(aI r.1.zO),(mK a),(uC b),(tq c),(sf d),(.os 5 0 r.2.length),(aB r.1.ax.fN.fG),(Q5 r),(aB r.1.ax.fD.fG),(Q4 r),(aI r.1.b5)]),(ba a),(dL b),(dQ c),(dn d),(QT r)] (.tup [])) [.code (qP 12),.inLoop (qP 12),.inBlock 0] ⟨[(0,(.op 0 0 0)),(11,(rh f)),(Jl f),(13,(aI x))],[(fP k l a b c d e g h i j m),(ba a),(dL b),(dQ c),(dn d),(fa e)],6⟩
def xW (N:Nat) (f:List aa) (l:Int) (m:Int) (n:Int) (a:List Int) (b:List Int) (c:List aN) (d:List aa) (x:Int) (K:aN->Bool->(List Int)->Bool->(List Int)->(List QU)->Option Mn):Prop:=∀ (e:List aa) (g:Bool) (h:List Int) (i:Bool) (j:List Int) (rem:List QU) (r:ml×aN),K e g h i j rem=some r->∀ E,aG E 6->∀ E0 k,Pb E0 E k aI (fun x=>.agg (dY x)) none rem->ar Tryz.prog E 40 119 (aH E0 [(0,vN 12 [(aI r.1.zN),(aI r.1.zO),(mK a),(uC b),(tq c),(sf d),(.os 5 0 r.2.length),(aB r.1.ax.fN.fG),(Q5 r),(aB r.1.ax.fD.fG),(Q4 r),(aI r.1.b5)]),(ba a),(dL b),(dQ c),(dn d),(QT r)] (.tup [])) [.code (qP 3276),.inLoop (qP 3276),.inBlock 2,.inBlock 1,.code (qP 103),.inLoop (qP 12),.inBlock 0] ⟨[(0,(.op 0 0 0)),(11,(rh f)),(Jl f),(13,(aI x)),(31,(.atom (.pointer (some ⟨k,0,none⟩))))],[(fP l m a b c d e g h i j n),(ba a),(dL b),(dQ c),(dn d),(fa e)],6⟩
def Hl (N:Nat) (g:List aa) (j:Int) (k:Int) (l:Int) (a:List Int) (b:List Int) (c:List aN) (d:List aa) (x:Int) (m:List aa) (Lq:Int×aa) (left:List QU) (n:Int) (e:aa) (K:aN->Int->Option Mn):Prop:=∀ (f:List aa) (h:Int) (r:ml×aN),K f h=some r->∀ E,aG E 6->∀ E0 i,Pb E0 E i aI (fun x=>.agg (dY x)) none left->ar Tryz.prog E 40 119 (aH E0 [(0,vN 12 [(aI r.1.zN),(aI r.1.zO),(mK a),(uC b),(tq c),(sf d),(.os 5 0 r.2.length),(aB r.1.ax.fN.fG),(Q5 r),(aB r.1.ax.fD.fG),(Q4 r),(aI r.1.b5)]),(ba a),(dL b),(dQ c),(dn d),(QT r)] (.tup [])) [.code (qP 3355516),.inLoop (qP 3355516),.inBlock 4,.inBlock 3,.inLoop (qP 3276),.inBlock 2,.inBlock 1,.code (qP 103),.inLoop (qP 12),.inBlock 0] ⟨[(0,(.op 0 0 0)),(7,(.op 6 0 0)),(9,(aI n)),(11,(rh g)),(Jl g),(13,(aI x)),(31,(.atom (.pointer (some ⟨i,0,none⟩)))),(87,(Q3 m)),(88,(aI h))],[(0,vN 12 [(aI j),(aI k),(mK a),(uC b),(tq c),(sf d),(Mk f),(aB e.fN.fG),(BX e),(aB e.fD.fG),(BW e),(aI l)]),(ba a),(dL b),(dQ c),(dn d),(fa f),(6,vO 4 (dY Lq.2))],7⟩
theorem FK (N:Nat) (k:List aa) (l:Int) (m:Int) (n:Int) (o:List Int) (p:List Int) (a:List aN) (q:List aa) (x:Int) (t:List aa) (Lq:Int×aa) (left:List QU) (b:Int) (u:aa) (v:aN->Bool->(List Int)->Bool->(List Int)->(List QU)->Option Mn) (w:aN->Bool->(List Int)->Bool->(List Int)->Int->Option Mn) (F:xW N k l m n o p a q x v) (L:sw N k l m n o p a q w) (fuel:Nat):Hl N k l m n o p a q x t Lq left b u (gM N k l m n o p a q x t Lq left b u v w fuel):=by
 induction fuel with
 | zero=>intro _ _ r h;rw [gM.eq_1] at h;cases h
 | succ fuel G =>
  intro i j r h E e E0 y z;rw [gM.eq_2] at h;refine ah e 1 (kp [0,7,9,11,12,13,31,87,88,89]) iu 23 <| b9 1 89 h (fun H h=>?_) (fun H h=>?_)
  ·refine ah e 4 (kp [0,7,9,10,11,12,13,31,87,88]) iu 55 ?_;obtain ⟨A,h⟩:=ae h;refine rnO 3 b.toNat 4 (mN a b) (Ae a b) (pc A (pc (show au [] (ai a) b.toNat=mR 4 dY aa.d (kR a b) from rfl) pn)) ?_;obtain ⟨s,h⟩:=ae h;obtain ⟨B,h⟩:=ae h;obtain ⟨C,h⟩:=ae h;obtain ⟨I,J,h⟩:=a7 h;obtain ⟨g,K,h⟩:=a7 h;refine bc e 0 [(19,oF (Gz a b)),(23,oT (aA I)),(24,oT (aA g))] MD ([(0,.var 0 [.aj,.aj,.aj,.aj,.aj,.aj,.mM (u5 i j g),.aj,.aj,.aj,.aj,.aj])] ++ kq [1,2] ++ [(3,.AO 3 (a.length) [(Br b a)] (ai a))] ++ kq [4] ++ [(5,ru 5 dY aa.d (i.set j.toNat g))] ++ kq [6,55]) 503 (pc o1 (pc o1 (pc s (pc (dz s) (pc o1 (pc o1 (pc B (pc (dz B) (pc (show (abw b a)[0]?=some (Gz a b) from (gO rfl)) (pc C (pc (dz C) (pc (ja _ _ _ _ J) (pc (iZ _ _ _ _ K) (pc s (pc (dz s) (pc (aF i j.toNat g) (pc (Eq.refl a.length) (pc (show ∀ f,f < a.length->au [(Br b a)] (ai a) f=au [(Br b a)] (ai a) f from (fun _ _=>rfl)) (pc (show ∀ f,f < a.length->dA ((ai a) f)=true from (fun _ _=>rfl)) (pc (aF i j.toNat g) (pc (cn dY aa.d i j.toNat g) pn))))))))))))))))))))) <| rnL 3 55 b.toNat (pc A (pc (show au [(Br b a)] (ai a) b.toNat=[.os 55 0 (kR a b).length] from if_pos rfl) (pc (show ∀ D,D < (kR a b).length->qF (dY ((kR a b).getD D aa.d))=true from fun _ _=>rfl) pn))) <| Lo e [] MD (ahN a) 503 (pc (Eq.refl (a.length)) (pc (xI (sz:=4) (c:=dY) (d:=aa.d) a b.toNat 55 (mN a b) [] Kr) (pc (show ∀ f,f < a.length->dA ((ai a) f)=true from fun _ _=>rfl) pn))) <| ah e 1 MD iu 535 <| cd e 1 MD iu 7 (G _ _ _ h E e _ y z.forget)
  ·exact cd e 3 JA dp 6 (F _ _ _ _ _ _ _ h E e _ y z.forget)
theorem wO (N:Nat) (j:List aa) (k:Int) (l:Int) (m:Int) (f:List Int) (g:List Int) (n:List aN) (o:List aa) (x:Int) (q:aN->Bool->(List Int)->Bool->(List Int)->Int->Option Mn) (s:sw N j k l m f g n o q) (fuel:Nat):xW N j k l m f g n o x (cH N j k l m f g n o x q fuel):=by
 induction fuel with
 | zero=>intro _ _ _ _ _ _ r h;rw [cH.eq_1] at h;cases h
 | succ fuel t =>
  intro d H I J K rem r h E a E0 u e;rw [cH.eq_2] at h;refine ar.nN a e 1 32 31 h (fun h=>?_) (fun Lq left h E a e=>?_)
  ·refine Lo a [] (kp [0,11,12,13,31,33]) dp 38 pn <| sA 1 [.code (qP 13106),.code (qP 13107),.inLoop (qP 3276),.inBlock 2,.inBlock 1,.code (qP 103),.inLoop (qP 12),.inBlock 0] <| sC 33 (qP 26212) (qP 26213) false (fun p=>absurd p (by decide)) (fun _=>?_) 
   refine ah a 2 VV dp 70 <| cd a 1 VV dp 6 (s _ _ _ _ _ _ _ h E a)
  ·refine Lo a [] (kp [0,11,12,13,31,33]) dp 38 pn <| sA 1 [.code (qP 13106),.code (qP 13107),.inLoop (qP 3276),.inBlock 2,.inBlock 1,.code (qP 103),.inLoop (qP 12),.inBlock 0] <| sC 33 (qP 26212) (qP 26213) true (fun _=>?_) (fun p=>absurd p (by decide)) 
   refine ar.nY e 3 34 31 (pc o1 pn) <| Lo a [] (kp [0,6,7,11,12,13,31]) GY 134 pn ?_
   obtain ⟨b,w,h⟩:=a7 h;refine bc a 2 [(5,oT (aI b))] (kp [0,6,7,8,11,12,13,31]) GY 246 (pc o1 (pc (cN _ _ _ _ w) (pc (z1 g.length) pn))) <| ah a 1 (kp [0,6,7,8,11,12,13,31,44]) GY 278 <| b9 0 44 h (fun y h=>?_) (fun y h=>?_)
   ·obtain ⟨i,h⟩:=ae h;obtain ⟨c,z,h⟩:=a7 h;refine bc a 1 [(13,oT (aA c))] JA ([(0,.var 0 [.aj,.aj,.aj,.aj,.aj,.aj,.mM (u5 d b c),.aj,.aj,.aj,.aj,.aj])] ++ kq [1,2,3,4] ++ [(5,ru 5 dY aa.d (d.set b.toNat c))]) 534 (pc o1 (pc o1 (pc i (pc (dz i) (pc o1 (pc (iZ _ _ _ _ z) (pc i (pc (dz i) (pc (aF d b.toNat c) (pc (aF d b.toNat c) (pc (cn dY aa.d d b.toNat c) pn))))))))))) <| cd a 2 JA dp 6 (t _ _ _ _ _ _ _ h E a _ u e.forget)
   ·obtain ⟨A,B,h⟩:=a7 h;refine bc a 2 [(5,oT (aI A))] (kp [0,7,9,11,12,13,31]) GY 390 (pc o1 (pc (cN _ _ _ _ B) (pc (z1 f.length) pn))) ?_;obtain ⟨v,h⟩:=ae h;obtain ⟨C,D,h⟩:=a7 h;obtain ⟨F,G,h⟩:=a7 h;refine bc a 1 [(13,oT (aA C)),(14,oT (aA F))] (kp [0,7,9,11,12,13,31]) GY 678 (pc o1 (pc o1 (pc o1 (pc v (pc (dz v) (pc (ja _ _ _ _ D) (pc (iZ _ _ _ _ G) (pc o1 pn)))))))) <| bD a 1 MD GY 774 (pc o1 pn) <| cd a 2 MD abm 7 (FK N _ _ _ _ _ _ _ _ _ _ _ _ _ _ _ _ t s N _ _ _ h E a _ u e.forget)
theorem FM (N l a m n o p q s fuel):sw N l a m n o p q s (gN N l a m n o p q s fuel):=by
 induction fuel with
 | zero=>intro _ _ _ _ _ _ r h;rw [gN.eq_1] at h;cases h
 | succ fuel t =>
  intro C D F G H x r h E b;rw [gN.eq_2] at h;refine ah b 1 (kp [0,11,12,13,14]) dp 22 <| b9 1 14 h (fun u h=>?_) (fun u h=>?_)
  ·obtain ⟨c,h⟩:=ae h;refine bD b 4 (kp [0,4,5,11,12,13]) (kq [0,1,2,3,4,5,70]) 118 (pc c (pc o1 pn)) ?_;obtain ⟨d,v,h⟩:=a7 h;obtain ⟨f,w,h⟩:=a7 h;obtain ⟨g,y,h⟩:=a7 h;obtain ⟨e,z,h⟩:=a7 h;obtain ⟨A,B⟩:=aeb h;refine ar.nG b 1 4 13 [0,1,2,3,4,5,6,7,8,9,10,11,12,13,14,15] [0,1,2,3,5,6,7,8,9,10,11,12,13,4,14,15] [(3,oT (aA d)),(4,oT (.tup (aa1 x d))),(12,oT (aA f)),(13,oT (.tup (ahr x d a f)))] [(3,oT (aA g)),(11,oT (aA e)),(12,oT (.tup (aa3 a x e))),(13,oT (.tup (ahs a x e g)))] 164 3 39 31 30 118 118 aI (fun x=>.agg (dY x)) (D7 (fun i zb=>i == zb) (aa0 x d) (aR (a+x)) f) (D7 (fun i zb=>i == zb) (aa2 a x e) x g) (pc o1 (pc (qX _ _ _ v) (pc (show Go.Ab.FC Tryz.prog 3 ahq (aI x) (aA d)=some (aa1 x d) from (Gi aI (fun x=>.agg (dY x)) (ak2 .i64) _ _ d)) (pc o1 (pc o1 (pc (kS _ _ _ w) (pc (show Go.Ab.FC Tryz.prog 3 (aa1 x d) (aI (aR (a+x))) (aA f)=some (ahr x d a f) from (Gi aI (fun x=>.agg (dY x)) (ak2 .i64) _ _ f)) pn))))))) (pc o1 (pc (qX _ _ _ y) (pc o1 (pc o1 (pc (kS _ _ _ z) (pc (show Go.Ab.FC Tryz.prog 3 ahq (aI (aR (a+x))) (aA e)=some (aa3 a x e) from (Gi aI (fun x=>.agg (dY x)) (ak2 .i64) _ _ e)) (pc (show Go.Ab.FC Tryz.prog 3 (aa3 a x e) (aI x) (aA g)=some (ahs a x e g) from (Gi aI (fun x=>.agg (dY x)) (ak2 .i64) _ _ g)) pn))))))) (fun E j b k=>?_) (fun E j b k=>?_)
   ·replace h:=A;refine Lo b [] JA dp 374 pn <| cd b 2 JA dp 6 (wO N _ _ _ _ _ _ _ _ _ _ t N _ _ _ _ _ _ _ h E b _ j k.forget)
   ·replace h:=B;refine Lo b [] JA dp 374 pn <| cd b 2 JA dp 6 (wO N _ _ _ _ _ _ _ _ _ _ t N _ _ _ _ _ _ _ h E b _ j k.forget)
  ·cases h;exact rnF b 1 Tryz.f40 [] [] dp 54 pn [] pn
theorem JQ (N g i j k l m n o a b c d e r) (h:um N g i j k l m n o a b c d e=some r):Sd 40 [(.op 0 0 0),(rh g)] [(fP i j a b c d e k l m n o),(ba a),(dL b),(dQ c),(dn d),(fa e)] 6 (.tup []) [(0,vN 12 [(aI r.1.zN),(aI r.1.zO),(mK a),(uC b),(tq c),(sf d),(.os 5 0 r.2.length),(aB r.1.ax.fN.fG),(Q5 r),(aB r.1.ax.fD.fG),(Q4 r),(aI r.1.b5)]),(ba a),(dL b),(dQ c),(dn d),(QT r)]:=by
 unfold um at h;refine sO Tryz.f40 119 fun E f=>?_;refine ah f 1 VV dp 54 <| cd f 2 VV dp 6 (FM N _ _ _ _ _ _ _ _ N _ _ _ _ _ _ _ h E f)
theorem Hm (N j f g i k l m n a b c d e r) (h:vT N j f g i k l m n a b c d e=some r):Sd 43 [(.op 0 0 0),(aI j)] [(fP f g a b c d e i k l m n),(ba a),(dL b),(dQ c),(dn d),(fa e)] 6 (.fn (.func 97) [] [(.op 6 0 0),(.op 7 0 0)]) [(fP f g a b c d e i k l m n),(ba a),(dL b),(dQ c),(dn d),(fa e),(6,vN 1 [(.op 0 0 0)]),(7,vO 1 [(aI r)])]:=by
 unfold vT at h;refine sO Tryz.f43 6 fun E o=>?_;refine ah o 1 (kp [2,3]) (kq [0,1,2,3,4,5,6,22]) 54 <| ah o 1 (kp [4]) (kq [0,1,2,3,4,5,6,22]) 86 ?_
 obtain rfl:=lk h;exact dN o 0 Tryz.f43 (kp [4]) (kq [0,1,2,3,4,5,6] ++ [(7,.aj 22)]) 86
theorem wa (N u s g i j k l m n o a p q t r) (h:pH N u s g i j k l m n o a p q t=some r):Sd 97 [(aI u),(.op 0 0 0),(.op 7 0 0)] [(0,vN 1 [(.op 1 0 0)]),(1,vN 12 [(aI s),(aI g),(uC n),(.os 3 0 o.length),(.os 4 0 a.length),(Mk p),(po q),(aB i),(b8 j),(aB k),(b8 l),(aI m)]),(dL n),(3,aO 1 cI 0 o),(4,aM 4 dY aa.d a),(fa p),(si q),(7,vO 1 [(aI t)])] 8 (aA r) [(0,vN 1 [(.op 1 0 0)]),(1,vN 12 [(aI s),(aI g),(uC n),(.os 3 0 o.length),(.os 4 0 a.length),(Mk p),(po q),(aB i),(b8 j),(aB k),(b8 l),(aI m)]),(dL n),(3,aO 1 cI 0 o),(4,aM 4 dY aa.d a),(fa p),(si q),(7,vO 1 [(aI t)])]:=by
 unfold pH at h;refine sO Tryz.f97 35 fun E e=>?_;refine ah e 1 (kp [0,1,2,4]) yu 24 ?_;obtain ⟨c,h⟩:=ae h;refine bD e 2 (kp [0,1,2,4,14]) yu 168 (pc o1 (pc o1 (pc o1 (pc c (pc (dz c) pn))))) <| b9 0 14 h (fun z h=>?_) (fun z h=>?_)
 ·obtain ⟨A,B,h⟩:=a7 h;refine bc e 1 [(0,oT (aA A))] (kp [4]) yu 200 (pc (fQ _ _ _ B) (pc o1 pn)) ?_;obtain rfl:=lk h;exact ki e 0 Tryz.f97 [] (kp [4]) abl 200 pn [24] (pc o1 pn)
 ·obtain ⟨b,C,h⟩:=a7 h;refine bc e 3 [(5,oT (aI b))] (kp [1,2,4,5]) yu 280 (pc o1 (pc o1 (pc (cN _ _ _ _ C) (pc (z1 n.length) pn)))) <| ah e 1 (kp [1,2,4,5,23]) yu 312 <| b9 0 23 h (fun D h=>?_) (fun D h=>?_)
  ·obtain ⟨v,h⟩:=ae h;refine rnO 4 b.toNat 4 (mN a b) (Ae a b) (pc v (pc (show au [] (ai a) b.toNat=mR 4 dY aa.d (kR a b) from rfl) pn)) ?_;obtain ⟨w,h⟩:=ae h;obtain ⟨x,h⟩:=ae h;refine bc e 1 [(6,oF (.os 312 0 (mN a b)))] (kp [4]) (kq [0,1,2,3] ++ [(4,.AO 4 (a.length) [(Yc b a)] (ai a))] ++ kq [5,6,7,8,312]) 504 (pc o1 (pc o1 (pc w (pc (dz w) (pc (show (au [(Yc b a)] (ai a) b.toNat)[0]?=some (.os 312 0 (mN a b)) from (gO rfl)) (pc o1 (pc x (pc (dz x) (pc o1 (pc (Eq.refl a.length) (pc (show ∀ f,f < a.length->au [(Yc b a)] (ai a) f=au [(Yc b a)] (ai a) f from (fun _ _=>rfl)) (pc (show ∀ f,f < a.length->dA ((ai a) f)=true from (fun _ _=>rfl)) pn)))))))))))) <| rnL 4 312 b.toNat (pc v (pc (show au [(Yc b a)] (ai a) b.toNat=[.os 312 0 (kR a b).length] from if_pos rfl) (pc (show ∀ y,y < (kR a b).length->qF (dY ((kR a b).getD y aa.d))=true from fun _ _=>rfl) pn))) <| Lo e [] (kp [4]) (kq [0,1,2,3] ++ [(4,.AO 4 (a.length) [] (ai a))] ++ kq [5,6,7,8]) 504 (pc (Eq.refl (a.length)) (pc (xI (sz:=4) (c:=dY) (d:=aa.d) a b.toNat 312 (mN a b) [] Kr) (pc (show ∀ f,f < a.length->dA ((ai a) f)=true from fun _ _=>rfl) pn))) ?_
   cases h;exact ki e 0 Tryz.f97 [] (kp [4]) abl 504 pn [24] (pc o1 pn)
  ·obtain ⟨F,G,h⟩:=a7 h;refine bc e 2 [(0,oT (aA F))] (kp [4]) yu 344 (pc (fQ _ _ _ G) (pc o1 pn)) ?_;obtain rfl:=lk h;exact ki e 0 Tryz.f97 [] (kp [4]) abl 344 pn [24] (pc o1 pn)
noncomputable abbrev ahZ:=bt Tryz.f42
def AX (N:Nat) (f:Int) (g:Int) (h:Bool) (i:List Int) (j:Bool) (k:List Int) (l:Int) (a:List Int) (b:List Int) (c:List aN) (d:List aa) (e:List aa) (m:Int) (K:aN->Int->Option Gx):Prop:=∀ (out:List aa) (x:Int) (r:aN),K out x=some r->∀ E,aG E 8->ar Tryz.prog E 42 34 (aH E [(fP f g a b c d e h i j k l),(ba a),(dL b),(dQ c),(dn d),(fa e),(6,vN 1 [(.op 0 0 0)]),(7,vO 1 [(aI m)]),(8,aO 4 dY aa.d r)] (.os 8 0 r.length)) [.code (ahZ 116),.inLoop (ahZ 116),.inBlock 0,.code (ahZ 15)] ⟨[(0,(.op 0 0 0)),(1,(.fn (.func 97) [] [(.op 6 0 0),(.op 7 0 0)])),(5,(.os 8 0 out.length)),(ahl f),(14,(aI x))],[(fP f g a b c d e h i j k l),(ba a),(dL b),(dQ c),(dn d),(fa e),(6,vN 1 [(.op 0 0 0)]),(7,vO 1 [(aI m)]),(8,aO 4 dY aa.d out)],9⟩
theorem Ar (N e f g i j k l m n b o p q fuel):AX N e f g i j k l m n b o p q (j4 N e f g i j k l m n b o p q fuel):=by
 induction fuel with
 | zero=>intro _ _ r h;rw [j4.eq_1] at h;cases h
 | succ fuel t =>
  intro out x r h E a;rw [j4.eq_2] at h;refine ah a 1 (kp [0,1,5,13,14,15]) yu 25 <| b9 1 15 h (fun u h=>?_) (fun u h=>?_)
  ·refine ah a 4 (kp [0,1,5,6,13,14]) yu 57 ?_;obtain ⟨v,w,h⟩:=a7 h;obtain ⟨y,z,h⟩:=a7 h;obtain ⟨c,A,h⟩:=a7 h;obtain ⟨s,h⟩:=ae h;refine bc a 0 [(4,⟨[6,0,1,2,3,4,5,7],true,(aA v),[],0,false,none⟩),(12,⟨[6,0,1,2,3,4,5,7],true,(aA y),[],0,false,none⟩),(13,oT (aA c))] (kp [0,1] ++ [(5,.mM (u5 out x c))] ++ kp [13,14]) (kq [0,1,2,3,4,5,6,7] ++ [(8,ru 8 dY aa.d (out.set x.toNat c))]) 313 (pc (wa _ _ _ _ _ _ _ _ _ _ _ _ _ _ _ _ w) (pc (show ∀ d,d < b.length->dA ((ai b) d)=true from (fun _ _=>rfl)) (pc o1 (pc (wa _ _ _ _ _ _ _ _ _ _ _ _ _ _ _ _ z) (pc (show ∀ d,d < b.length->dA ((ai b) d)=true from (fun _ _=>rfl)) (pc (B4 _ _ _ _ A) (pc s (pc (dz s) (pc (aF out x.toNat c) (pc (aF out x.toNat c) (pc (cn dY aa.d out x.toNat c) pn))))))))))) <| ah a 1 GO yu 345 <| cd a 1 GO yu 9 (t _ _ _ h E a)
  ·refine ah a 2 (kp [4]) yu 57 ?_;obtain rfl:=lk h;exact dN a 0 Tryz.f42 (kp [4]) yu 57
theorem Dv (N a j k l m n o b d e f g p r) (h:r7 N a j k l m n o b d e f g p=some r):Sd 42 [(.op 0 0 0),(.fn (.func 97) [] [(.op 6 0 0),(.op 7 0 0)])] [(fP a j b d e f g k l m n o),(ba b),(dL d),(dQ e),(dn f),(fa g),(6,vN 1 [(.op 0 0 0)]),(7,vO 1 [(aI p)])] 8 (.os 8 0 r.length) [(fP a j b d e f g k l m n o),(ba b),(dL d),(dQ e),(dn f),(fa g),(6,vN 1 [(.op 0 0 0)]),(7,vO 1 [(aI p)]),(8,aO 4 dY aa.d r)]:=by
 unfold r7 at h;refine sO Tryz.f42 34 fun E i=>?_;refine ah i 1 (kp [0,1]) (kq [0,1,2,3,4,5,6,7]) 24 ?_;obtain ⟨c,h⟩:=ae h;refine bD i 1 (ahA a) (kq [0,1,2,3,4,5,6,7] ++ [(88,.arz 88 (acT a) (Mt a))]) 120 (pc o1 (pc c.1 (pc (Int.le_refl a) (pc c.2.1 (pc c.2.2 (pc (lR a.toNat oz) (pc (lQ a.toNat oz) (pc (show ∀ zi,zi < (VK a).length->S4 ((fun _=>[(aB false),.nil,(aB false),.nil]) zi) ((Mt a) zi) from (fun q s=>nU dY aa.d aa.d a.toNat q ⟨.inl rfl,.inr ⟨rfl,_,rfl⟩,.inl rfl,.inr ⟨rfl,_,rfl⟩,trivial⟩ s)) pn)))))))) <| ah i 2 GO (kq [0,1,2,3,4,5,6,7,88]) 168 <| cd i 2 GO (kq [0,1,2,3,4,5,6,7] ++ [(8,.aj 88)]) 9 (Ar N _ _ _ _ _ _ _ _ _ _ _ _ _ N _ _ _ h E i)
theorem ON (N o l r) (h:y9 N o l=some r):Sd 10 [(rh o),(qz l)] [] 0 (.tup [(.agg (uT.cells r.1)),(aI r.2)]) []:=by
 unfold y9 at h;refine sO Tryz.f10 51 fun E e=>?_;refine ah e 1 Mx (kq [0]) 32 ?_;obtain ⟨p,q,h⟩:=a7 h;refine bc e 2 [(3,oT (aI p))] (kp [0,1,4,6]) (kq [0]) 112 (pc (C8 _ _ _ _ q) pn) <| ah e 1 (kp [0,1,4,6,14]) (kq [0]) 144 <| b9 0 14 h (fun s h=>?_) (fun s h=>?_)
 ·refine bD e 1 (kp [4,5]) (kq [0]) 208 (pc o1 pn) ?_;cases h;exact ki e 0 Tryz.f10 [] (kp [4,5]) [(16,.var 0 [.aj,Cx (cU .u16) 0 ([]:List Int),.aj,Cx (cU .u16) 0 ([]:List Int),Cx dY aa.d ([]:List aa),Cx dY aa.d ([]:List aa)])] 208 (pc (Eq.refl 0) (pc (Eq.refl 0) (pc (Eq.refl 0) (pc (Eq.refl 0) pn)))) [16] (pc o1 pn)
 ·obtain ⟨d,t,h⟩:=a7 h;refine bc e 2 [(3,⟨[],true,(.op 0 0 0),[(0,vN 12 [(aI d.zN),(aI d.zO),(Jd d),(Je d),(.os 3 0 d.f_a.length),(.os 4 0 d.f_b.length),(Jf d),(Jv d),(Jy d),(Ju d),(Jx d),(aI d.b5)]),(Jk d),(Jn d),(Jo d),(Jp d),(Jq d)],0,false,none⟩)] (kp [0,4,7]) (kq [0,192,193,194,195,196,197]) 224 (pc (Wu _ _ _ _ t) pn) ?_;obtain ⟨a,u,h⟩:=a7 h;obtain ⟨c,h⟩:=ae h;obtain ⟨F,h⟩:=ae h;obtain ⟨G,h⟩:=ae h;refine bc e 2 [(1,⟨[192,193,194,195,196,197],false,(aB a.1),[(0,vN 12 [(aI a.2.1.zN),(aI a.2.1.zO),(.os 1 0 a.2.2.1.length),(.os 2 0 a.2.2.2.1.length),(.os 3 0 a.2.2.2.2.1.length),(.os 4 0 a.2.2.2.2.2.length),(.os 6 0 a.2.1.rP.length),(aB a.2.1.ax.fN.fG),(GK a),(aB a.2.1.ax.fD.fG),(GJ a),(aI a.2.1.b5)]),(1,aO 1 cI 0 a.2.2.1),(2,aO 1 cI 0 a.2.2.2.1),(Eh a),(Ej a),(GD a)],0,false,none⟩)] (kp [0,4,7,23]) Wo 272 (pc (FG _ _ _ _ _ _ _ _ _ _ _ _ _ _ u) pn) <| b9 0 23 h (fun v h=>?_) (fun v h=>?_)
  ·obtain ⟨i,w,h⟩:=a7 h;refine bc e 1 [(1,⟨[192,193,194,195,196,240],true,(.os 6 0 i.length),[(GC i)],0,false,none⟩)] (kp [4,5]) (kq [0,288]) 352 (pc (su _ _ _ _ _ _ _ _ _ _ _ _ _ _ w) (pc (iM a.2.2.2.2.1) (pc o1 pn))) ?_;cases h;exact ki e 0 Tryz.f10 [288] (kp [4,5]) [(16,.var 0 [.aj,Cx (cU .u16) 0 ([]:List Int),.aj,Cx (cU .u16) 0 ([]:List Int),Cx dY aa.d ([]:List aa),Cx dY aa.d i])] 352 (pc (Eq.refl 0) (pc (Eq.refl 0) (pc (Eq.refl 0) (pc (Eq.refl i.length) (pc (z1 i.length) (pc (eZ dY aa.d i) pn)))))) [16] (pc o1 pn)
  ·obtain ⟨g,x,h⟩:=a7 h;obtain ⟨H,h⟩:=ae h;refine bc e 2 [(2,⟨[192,193,194,195,196,240],false,(.tup []),[(0,vN 12 [(aI g.1.zN),(aI g.1.zO),(.os 1 0 a.2.2.1.length),(.os 2 0 a.2.2.2.1.length),(.os 3 0 a.2.2.2.2.1.length),(.os 4 0 a.2.2.2.2.2.length),(.os 5 0 g.2.length),(aB g.1.ax.fN.fG),(Q5 g),(aB g.1.ax.fD.fG),(Q4 g),(aI g.1.b5)]),(1,aO 1 cI 0 a.2.2.1),(2,aO 1 cI 0 a.2.2.2.1),(Eh a),(Ej a),(QT g)],0,false,none⟩)] (kp [4,7]) Wo 320 (pc (JQ _ _ _ _ _ _ _ _ _ _ _ _ _ _ _ x) pn) ?_;obtain ⟨b,y,h⟩:=a7 h;obtain ⟨I,h⟩:=ae h;obtain ⟨J,h⟩:=ae h;obtain ⟨K,h⟩:=ae h;obtain ⟨L,h⟩:=ae h;obtain ⟨M,h⟩:=ae h;refine bc e 2 [(1,⟨[192,193,194,195,196,240],false,(aI b.1),[(0,vN 12 [(aI b.2.1.zN),(aI b.2.1.zO),(.os 1 0 b.2.2.1.length),(.os 2 0 b.2.2.2.1.length),(.os 3 0 b.2.2.2.2.1.length),(.os 4 0 b.2.2.2.2.2.1.length),(.os 5 0 b.2.2.2.2.2.2.length),(aB b.2.1.ax.fN.fG),(eU b.2.1.ax.fN.fL),(aB b.2.1.ax.fD.fG),(eU b.2.1.ax.fD.fL),(aI b.2.1.b5)]),(1,aO 1 cI 0 b.2.2.1),(2,aO 1 cI 0 b.2.2.2.1),(3,aM 4 dY aa.d b.2.2.2.2.1),(4,aO 4 dY aa.d b.2.2.2.2.2.1),(5,aO 4 dY aa.d b.2.2.2.2.2.2)],0,false,none⟩)] (kp [4,7,8]) Wo 368 (pc (xS _ _ _ _ _ _ _ _ _ _ _ _ _ _ y) pn) <| ah e 1 (kp [4,7,8,33]) Wo 400 <| b9 0 33 h (fun z h=>?_) (fun z h=>?_)
   ·obtain ⟨n,A,h⟩:=a7 h;obtain ⟨j,B,h⟩:=a7 h;refine bc e 1 [(3,⟨[192,193,194,195,196,240],true,(.fn (.func 97) [] [(.op 6 0 0),(.op 7 0 0)]),[(6,vN 1 [(.op 0 0 0)]),(7,vO 1 [(aI n)])],0,false,none⟩),(4,⟨[192,193,194,195,196,240,448,449],true,(.os 8 0 j.length),[(8,aO 4 dY aa.d j)],0,false,none⟩)] (kp [4,5]) (kq [0,464]) 528 (pc (Hm _ _ _ _ _ _ _ _ _ _ _ _ _ _ _ A) (pc (show ∀ f,f < b.2.2.2.2.1.length->dA ((VQ b) f)=true from (fun _ _=>rfl)) (pc (Dv _ _ _ _ _ _ _ _ _ _ _ _ _ _ _ B) (pc (show ∀ f,f < b.2.2.2.2.1.length->dA ((VQ b) f)=true from (fun _ _=>rfl)) (pc o1 pn))))) ?_;cases h;exact ki e 0 Tryz.f10 [464] (kp [4,5]) [(16,.var 0 [.aj,Cx (cU .u16) 0 ([]:List Int),.aj,Cx (cU .u16) 0 ([]:List Int),Cx dY aa.d j,Cx dY aa.d ([]:List aa)])] 528 (pc (Eq.refl 0) (pc (Eq.refl 0) (pc (Eq.refl j.length) (pc (z1 j.length) (pc (eZ dY aa.d j) (pc (Eq.refl 0) pn)))))) [16] (pc o1 pn)
   ·obtain ⟨k,C,h⟩:=a7 h;obtain ⟨m,D,h⟩:=a7 h;refine bc e 2 [(7,⟨[192,193,194,195,196,240],true,(.os 6 0 k.length),[(GC k)],0,false,none⟩),(9,⟨[192,193,194,195,196,240],true,(.os 6 0 m.length),[(GC m)],0,false,none⟩)] (kp [4,5]) (kq [0,512,544]) 608 (pc o1 (pc (Hb _ _ _ _ _ _ _ _ _ _ _ _ _ _ C) (pc (show ∀ f,f < b.2.2.2.2.1.length->dA ((VQ b) f)=true from (fun _ _=>rfl)) (pc (su _ _ _ _ _ _ _ _ _ _ _ _ _ _ D) (pc (show ∀ f,f < b.2.2.2.2.1.length->dA ((VQ b) f)=true from (fun _ _=>rfl)) (pc o1 pn)))))) ?_;cases h;exact ki e 0 Tryz.f10 [512,544] (kp [4,5]) [(16,.var 0 [.aj,.aj,.aj,.aj,Cx dY aa.d k,Cx dY aa.d m])] 608 (pc (Eq.refl k.length) (pc (z1 k.length) (pc (eZ dY aa.d k) (pc (Eq.refl m.length) (pc (z1 m.length) (pc (eZ dY aa.d m) pn)))))) [16] (pc o1 pn)
theorem As (N x r) (h:my N x=some r):Sd 162 [(.agg (de.cells x))] [] 0 (aS r) []:=by
 unfold my at h;refine sO Tryz.f162 5 fun E a=>?_;refine ah a 1 (kp [1]) (kq [0]) 32 <| bD a 1 (kp [2]) [] 80 (pc o1 pn) ?_
 cases h;exact dN a 0 Tryz.f162 (kp [2]) [] 80
noncomputable abbrev ah0:=bt Tryz.f161
def zp (N:Nat) (l:List de) (K:qy->Int->Option Fk):Prop:=∀ (out:List ByteArray) (x:Int) (r:qy),K out x=some r->∀ E,aG E 0->ar Tryz.prog E 161 22 (aH E [] (mb r)) [.code (ah0 116),.inLoop (ah0 116),.inBlock 0,.code (ah0 15)] ⟨[(1,(.fn (.func 162) [] [])),(5,(.os 0 0 out.length)),(8,(bJ de.cells de.d l)),(9,(aI (l.length:Int))),(10,(aI x))],[(0,aO 1 cS ByteArray.empty out)],1⟩
theorem yD (N l fuel):zp N l (eE N l fuel):=by
 induction fuel with
 | zero=>intro _ _ r h;rw [eE.eq_1] at h;cases h
 | succ fuel d =>
  intro out x r h E a;rw [eE.eq_2] at h;refine ah a 1 GV (kq [0]) 17 <| b9 1 11 h (fun e h=>?_) (fun e h=>?_)
  ·obtain ⟨c,h⟩:=ae h;refine bD a 4 Rr MO 81 (pc c (pc o1 pn)) ?_;obtain ⟨b,f,h⟩:=a7 h;obtain ⟨g,h⟩:=ae h;refine bc a 0 [(3,oT (aS b))] (abd out b) [(aaM out b)] 193 (pc o1 (pc (As _ _ _ f) (pc (Eq.refl out.length) (pc g (pc (z1 1) (pc (oN [[(aS b)]]) (pc (cj out (El b)) (pc (cj out (El b)) (pc (S5 cS ByteArray.empty out (El b)) pn))))))))) <| ah a 1 tw (kq [161]) 225 <| cd a 1 tw [(0,.aj 161)] 1 (d _ _ _ h E a)
  ·refine ah a 2 (kp [4]) (kq [0]) 49 ?_;obtain rfl:=lk h;exact ki a 0 Tryz.f161 [0] [(4,Cx cS ByteArray.empty out)] [] 49 (pc (Eq.refl out.length) (pc (z1 out.length) (pc (eZ cS ByteArray.empty out) pn))) [] pn
theorem AY (N l r) (h:qp N l=some r):Sd 161 [(bJ de.cells de.d l),(.fn (.func 162) [] [])] [] 0 (mb r) []:=by
 unfold qp at h;refine sO Tryz.f161 22 fun E a=>?_;refine ah a 1 (kp [0,1]) [] 16 <| ah a 1 mL [] 32 <| ah a 2 tw [] 80 <| cd a 2 abc [(0,.nil 1 Q7)] 1 (yD N _ N _ _ _ h E a)
theorem tM (N w r) (h:lh N w=some r):Sd 99 [(mJ w)] [] 0 (mb r) []:=by
 unfold lh at h;refine sO Tryz.f99 6 fun E a=>?_;refine ah a 1 (kp [1]) (kq [0]) 32 ?_;obtain ⟨b,c,h⟩:=a7 h;refine bc a 1 [(2,oT (mb b))] (kp [2]) [] 96 (pc o1 (pc (AY _ _ _ c) pn)) ?_;obtain rfl:=lk h;exact dN a 0 Tryz.f99 (kp [2]) [] 96
noncomputable abbrev ah1:=bt Tryz.f160
def EG (N:Nat) (s:ByteArray) (K:Int->Option (Bool)):Prop:=∀ (x:Int) (r:Bool),K x=some r->∀ E,aG E 0->ar Tryz.prog E 160 55 (aH E [] (aB r)) [.code (ah1 116),.inLoop (ah1 116),.inBlock 0,.code (ah1 15)] ⟨[(0,(aS s)),(15,(aI (s.size:Int))),(16,(aI x))],[],0⟩
theorem Dw (N s fuel):EG N s (iT N s fuel):=by
 induction fuel with
 | zero=>intro _ r h;rw [iT.eq_1] at h;cases h
 | succ fuel e =>
  intro x r h E d;rw [iT.eq_2] at h;refine ah d 1 Rb [] 16 <| b9 1 17 h (fun f h=>?_) (fun f h=>?_)
  ·refine ah d 4 B1 [] 48 ?_;obtain ⟨c,h⟩:=ae h;refine bD d 1 VX [] 112 (pc c pn) <| bD d 1 aa8 [] 352 (pc (fun a:(VL s x)=true=>(pc a pn)) (pc (fun b:(VL s x)=true=>(pc b pn)) (pc (fun a:(Uf s x)=true=>(pc a pn)) (pc (fun a:(acM s x)=true=>(pc a pn)) (pc (fun a:(Uf s x)=true=>(pc a (pc a (pc (fun b:(Vo s x)=true=>(pc (show (acM s x)=true from (pZ a (pZ a b))) pn)) pn)))) (pc (fun b:(Uf s x)=true=>(pc b pn)) pn)))))) <| bD d 1 aa7 [] 640 (pc (fun a:(Ue s x)=true=>(pc a pn)) (pc (fun a:(Ui s x)=true=>(pc a pn)) (pc (fun a:(Uj s x)=true=>(pc a pn)) (pc (fun a:(acQ s x)=true=>(pc a pn)) (pc (fun a:(Uj s x)=true=>(pc a (pc a (pc (fun b:(!(decide ((zA s x) < 48)))=true=>(pc (show (acQ s x)=true from (pZ a (pZ a b))) pn)) pn)))) (pc (fun a:(Ui s x)=true=>(pc a (pc a (pc (fun b:((zA s x) != 45)=true=>(pc (show (Uj s x)=true from (pZ a (pZ a b))) pn)) pn)))) (pc (fun a:(Ue s x)=true=>(pc a (pc a (pc (fun b:(!(x == 0))=true=>(pc (show (Ui s x)=true from (pZ a (pZ a b))) pn)) pn)))) (pc (fun b:(Ue s x)=true=>(pc b pn)) pn)))))))) <| b9 0 53 h (fun g h=>?_) (fun g h=>?_)
   ·refine ah d 1 (kp [2]) [] 656 ?_;obtain rfl:=lk h;exact dN d 0 Tryz.f160 (kp [2]) [] 656
   ·refine ah d 2 GR [] 672 <| cd d 1 GR [] 0 (e _ _ h E d)
  ·refine ah d 2 (kp [2]) [] 32 ?_;obtain rfl:=lk h;exact dN d 0 Tryz.f160 (kp [2]) [] 48
theorem sx (N s r) (h:jn N s=some r):Sd 160 [(aS s)] [] 0 (aB r) []:=by
 unfold jn at h;refine sO Tryz.f160 55 fun E a=>?_;refine ah a 1 (kp [0]) [] 16 <| bD a 2 (kp [0,13]) [] 144 (pc (fun b:(Ug s)=true=>(pc b pn)) (pc (fun b:(Ug s)=true=>(pc b pn)) (pc (fun c:(Ug s)=true=>(pc c pn)) pn))) <| b9 0 13 h (fun d h=>?_) (fun d h=>?_)
 ·refine ah a 1 (kp [2]) [] 160 ?_;obtain rfl:=lk h;exact dN a 0 Tryz.f160 (kp [2]) [] 160
 ·refine ah a 3 GR [] 192 <| cd a 2 GR [] 0 (Dw N _ N _ _ h E a)
noncomputable abbrev ah2:=bt Tryz.f166
def vB (N:Nat) (s:List ByteArray) (v:ByteArray) (K:Int->Option (Int)):Prop:=∀ (x:Int) (r:Int),K x=some r->∀ E,aG E 0->ar Tryz.prog E 166 19 (aH E [] (aI r)) [.code (ah2 52),.inLoop (ah2 52),.inBlock 0,.code (ah2 7)] ⟨[(Ji s),(1,(aS v)),(7,(Q2 s)),(8,(aI x))],[],0⟩
theorem uH (N s v fuel):vB N s v (cA N s v fuel):=by
 induction fuel with
 | zero=>intro _ r h;rw [cA.eq_1] at h;cases h
 | succ fuel b =>
  intro x r h E a;rw [cA.eq_2] at h;refine ah a 1 ri [] 16 <| b9 1 9 h (fun d h=>?_) (fun d h=>?_)
  ·refine ah a 4 oa [] 48 ?_;obtain ⟨c,h⟩:=ae h;refine bD a 1 vZ [] 144 (pc c pn) <| b9 0 16 h (fun e h=>?_) (fun e h=>?_)
   ·refine ah a 1 (kp [4]) [] 176 ?_;obtain rfl:=lk h;exact dN a 0 Tryz.f166 (kp [4]) [] 176
   ·refine ah a 2 eD [] 176 <| cd a 1 eD [] 0 (b _ _ h E a)
  ·refine ah a 2 (kp [4]) [] 32 ?_;cases h;exact dN a 0 Tryz.f166 (kp [4]) [] 48
theorem kW (N s v r) (h:eC N s v=some r):Sd 166 [(uE s),(aS v)] [] 0 (aI r) []:=by
 unfold eC at h;refine sO Tryz.f166 19 fun E a=>?_;refine ah a 1 (kp [0,1]) [] 16 <| ah a 2 eD [] 64 <| cd a 2 eD [] 0 (uH N _ _ N _ _ h E a)
theorem dM (N s v r) (h:a6 N s v=some r):Sd 106 [(uE s),(aS v)] [] 0 (aB r) []:=by
 unfold a6 at h;refine sO Tryz.f106 9 fun E a=>?_;refine ah a 1 (kp [0,1]) [] 16 ?_;obtain ⟨b,c,h⟩:=a7 h;refine bc a 1 [(2,oT (aI b))] (kp [4]) [] 96 (pc (kW _ _ _ _ c) pn) ?_;cases h;exact dN a 0 Tryz.f106 (kp [4]) [] 96
theorem dy (N n b r) (h:dm N n b=some r):Sd 101 [(aI n),(aI b)] [] 0 (aB r) []:=by
 unfold dm at h;refine sO Tryz.f101 12 fun E a=>?_;refine ah a 1 (kp [0,1]) [] 16 <| bD a 1 (kp [4]) [] 144 (pc (fun c:(BV n)=true=>(pc c (pc c pn))) (pc (fun d:(BV n)=true=>(pc d pn)) pn)) ?_
 cases h;exact dN a 0 Tryz.f101 (kp [4]) [] 144
theorem AZ (N i e r) (h:m5 N i e=some r):Sd 100 [(aI i),(.op 0 0 0)] [(eI e)] 1 (aI r) [(eI e)]:=by
 unfold m5 at h;refine sO Tryz.f100 22 fun E d=>?_;refine ah d 1 (kp [0,1]) (kq [0]) 17 ?_;obtain ⟨c,h⟩:=ae h;obtain ⟨b,f,h⟩:=a7 h;obtain ⟨g,h⟩:=ae h;obtain ⟨j,k,h⟩:=a7 h;refine bc d 2 [(6,oT (aB b)),(15,oT (aB j))] (kp [21]) (kq [0]) 305 (pc o1 (pc c (pc (dy _ _ _ _ f) (pc (fun a:(!(!b))=true=>(pc a (pc o1 pn))) (pc (fun a:(!(!b))=true=>(pc a (pc a (pc (g a) pn)))) (pc (fun a:(!(!b))=true=>(pc a pn)) (pc (fun a:(!(!b))=true=>(pc a pn)) (pc (fun a:(!(!b))=true=>(pc (dy _ _ _ _ (aW k a)) (pc a pn))) (pc (fun a:(!(!b))=true=>(pc a pn)) (pc (fun l:(!(!b))=true=>(pc l pn)) pn)))))))))) <| b9 0 21 h (fun m h=>?_) (fun m h=>?_)
 ·refine ah d 1 (kp [3]) (kq [0]) 321 ?_;cases h;exact dN d 0 Tryz.f100 (kp [3]) (kq [0]) 321
 ·refine ah d 2 (kp [3]) (kq [0]) 321 ?_;cases h;exact dN d 0 Tryz.f100 (kp [3]) (kq [0]) 321
noncomputable abbrev ah3:=bt Tryz.f98
def FN (N:Nat) (names:List ByteArray) (a:aq) (K:Int->Option (Int)):Prop:=∀ (x:Int) (r:Int),K x=some r->∀ E,aG E 1->ar Tryz.prog E 98 36 (aH E [(eI a)] (aI r)) [.code (ah3 116),.inLoop (ah3 116),.inBlock 0,.code (ah3 15)] ⟨[(Ji names),(2,(.fn (.func 100) [] [(.op 0 0 0)])),(14,(uE names)),(15,(Q2 names)),(16,(aI x))],[(eI a)],1⟩
theorem EH (N names b fuel):FN N names b (ji N names b fuel):=by
 induction fuel with
 | zero=>intro _ r h;rw [ji.eq_1] at h;cases h
 | succ fuel f =>
  intro x r h E a;rw [ji.eq_2] at h;refine ah a 1 GS (kq [0]) 17 <| b9 1 17 h (fun g h=>?_) (fun g h=>?_)
  ·obtain ⟨c,h⟩:=ae h;refine bD a 4 Rg (kq [0]) 97 (pc c pn) ?_;obtain ⟨i,j,h⟩:=a7 h;refine bc a 2 [(1,oT (aB i))] Rf (kq [0]) 145 (pc (sx _ _ _ j) pn) <| b9 0 23 h (fun k h=>?_) (fun k h=>?_)
   ·refine ah a 1 (kp [6]) (kq [0]) 161 ?_;cases h;exact dN a 0 Tryz.f98 (kp [6]) (kq [0]) 161
   ·obtain ⟨d,h⟩:=ae h;obtain ⟨l,h⟩:=ae h;obtain ⟨e,m,h⟩:=a7 h;refine bc a 3 [(4,oT (aB e))] Re (kq [0]) 225 (pc d (pc l (pc (show Sd 106 [(aaJ x names),(aS (names.getD x.toNat ByteArray.empty))] [] 0 (aB e) [] from (Sound.conv (dM _ _ _ _ m) (.cons (Alike.sl (vL names 0 x.toNat d) (Bk cS ByteArray.empty names 0 x.toNat)) (.cons (Alike.refl _) .nil)))) pn))) <| b9 0 28 h (fun n h=>?_) (fun n h=>?_)
    ·refine ah a 1 (kp [6]) (kq [0]) 241 ?_;cases h;exact dN a 0 Tryz.f98 (kp [6]) (kq [0]) 241
    ·obtain ⟨o,p,h⟩:=a7 h;refine bc a 2 [(2,⟨[0],true,(aI o),[],0,false,none⟩)] Ri (kq [0]) 289 (pc (AZ _ _ _ _ p) pn) <| ah a 1 Rh (kq [0]) 321 <| b9 0 33 h (fun q h=>?_) (fun q h=>?_)
     ·refine ah a 1 (kp [6]) (kq [0]) 353 ?_;obtain rfl:=lk h;exact dN a 0 Tryz.f98 (kp [6]) (kq [0]) 353
     ·refine ah a 2 sj (kq [0]) 353 <| cd a 1 sj (kq [0]) 1 (f _ _ h E a)
  ·refine ah a 2 (kp [6]) (kq [0]) 33 ?_;cases h;exact dN a 0 Tryz.f98 (kp [6]) (kq [0]) 49
theorem Ir (N names c b r) (h:sW N names c b=some r):Sd 98 [(uE names),(aI c),(.fn (.func 100) [] [(.op 0 0 0)])] [(eI b)] 1 (aI r) [(eI b)]:=by
 unfold sW at h;refine sO Tryz.f98 36 fun E a=>?_;refine ah a 1 qA (kq [0]) 17 <| ah a 2 MA (kq [0]) 81 <| b9 0 13 h (fun d h=>?_) (fun d h=>?_)
 ·refine ah a 1 (kp [6]) (kq [0]) 97 ?_;cases h;exact dN a 0 Tryz.f98 (kp [6]) (kq [0]) 97
 ·refine ah a 3 sj (kq [0]) 129 <| cd a 2 sj (kq [0]) 1 (EH N _ _ N _ _ h E a)
theorem Au (N x r) (h:mz N x=some r):Sd 164 [(.agg (dj.cells x))] [] 0 (aS r) []:=by
 unfold mz at h;refine sO Tryz.f164 5 fun E a=>?_;refine ah a 1 (kp [1]) (kq [0]) 32 <| bD a 1 (kp [2]) [] 80 (pc o1 pn) ?_
 cases h;exact dN a 0 Tryz.f164 (kp [2]) [] 80
noncomputable abbrev ah4:=bt Tryz.f163
def zt (N:Nat) (l:List dj) (K:qy->Int->Option Fk):Prop:=∀ (out:List ByteArray) (x:Int) (r:qy),K out x=some r->∀ E,aG E 0->ar Tryz.prog E 163 22 (aH E [] (mb r)) [.code (ah4 116),.inLoop (ah4 116),.inBlock 0,.code (ah4 15)] ⟨[(1,(.fn (.func 164) [] [])),(5,(.os 0 0 out.length)),(8,(bJ dj.cells dj.d l)),(9,(aI (l.length:Int))),(10,(aI x))],[(0,aO 1 cS ByteArray.empty out)],1⟩
theorem yE (N l fuel):zt N l (eF N l fuel):=by
 induction fuel with
 | zero=>intro _ _ r h;rw [eF.eq_1] at h;cases h
 | succ fuel d =>
  intro out x r h E a;rw [eF.eq_2] at h;refine ah a 1 GV (kq [0]) 17 <| b9 1 11 h (fun e h=>?_) (fun e h=>?_)
  ·obtain ⟨c,h⟩:=ae h;refine bD a 4 Rr MO 81 (pc c (pc o1 pn)) ?_;obtain ⟨b,f,h⟩:=a7 h;obtain ⟨g,h⟩:=ae h;refine bc a 0 [(3,oT (aS b))] (abd out b) [(aaM out b)] 193 (pc o1 (pc (Au _ _ _ f) (pc (Eq.refl out.length) (pc g (pc (z1 1) (pc (oN [[(aS b)]]) (pc (cj out (El b)) (pc (cj out (El b)) (pc (S5 cS ByteArray.empty out (El b)) pn))))))))) <| ah a 1 tw (kq [161]) 225 <| cd a 1 tw [(0,.aj 161)] 1 (d _ _ _ h E a)
  ·refine ah a 2 (kp [4]) (kq [0]) 49 ?_;obtain rfl:=lk h;exact ki a 0 Tryz.f163 [0] [(4,Cx cS ByteArray.empty out)] [] 49 (pc (Eq.refl out.length) (pc (z1 out.length) (pc (eZ cS ByteArray.empty out) pn))) [] pn
theorem A1 (N l r) (h:qq N l=some r):Sd 163 [(bJ dj.cells dj.d l),(.fn (.func 164) [] [])] [] 0 (mb r) []:=by
 unfold qq at h;refine sO Tryz.f163 22 fun E a=>?_;refine ah a 1 (kp [0,1]) [] 16 <| ah a 1 mL [] 32 <| ah a 2 tw [] 80 <| cd a 2 abc [(0,.nil 1 Q7)] 1 (yE N _ N _ _ _ h E a)
theorem tN (N w r) (h:jw N w=some r):Sd 102 [(mJ w)] [] 0 (mb r) []:=by
 unfold jw at h;refine sO Tryz.f102 6 fun E a=>?_;refine ah a 1 (kp [1]) (kq [0]) 32 ?_;obtain ⟨b,c,h⟩:=a7 h;refine bc a 1 [(2,oT (mb b))] (kp [2]) [] 96 (pc o1 (pc (A1 _ _ _ c) pn)) ?_;obtain rfl:=lk h;exact dN a 0 Tryz.f102 (kp [2]) [] 96
theorem zu (N s a r) (h:lC N s a=some r):Sd 105 [(aS s),(.op 0 0 0)] [(GB a)] 1 (aB r) [(GB a)]:=by
 unfold lC at h;refine sO Tryz.f105 8 fun E b=>?_;refine ah b 1 (kp [0,1]) (kq [0]) 17 ?_;obtain ⟨c,d,h⟩:=a7 h;refine bc b 1 [(2,oT (aB c))] (kp [3]) (kq [0]) 97 (pc o1 (pc (dM _ _ _ _ d) pn)) ?_;cases h;exact dN b 0 Tryz.f105 (kp [3]) (kq [0]) 97
noncomputable abbrev ah5:=bt Tryz.f165
def sZ (N:Nat) (s:List ByteArray) (a:List ByteArray) (K:Int->Option (Int)):Prop:=∀ (x:Int) (r:Int),K x=some r->∀ E,aG E 1->ar Tryz.prog E 165 19 (aH E [(GB a)] (aI r)) [.code (ah5 52),.inLoop (ah5 52),.inBlock 0,.code (ah5 7)] ⟨[(Ji s),(1,(.fn (.func 105) [] [(.op 0 0 0)])),(7,(Q2 s)),(8,(aI x))],[(GB a)],1⟩
theorem sy (N s b fuel):sZ N s b (bX N s b fuel):=by
 induction fuel with
 | zero=>intro _ r h;rw [bX.eq_1] at h;cases h
 | succ fuel d =>
  intro x r h E a;rw [bX.eq_2] at h;refine ah a 1 ri (kq [0]) 17 <| b9 1 9 h (fun e h=>?_) (fun e h=>?_)
  ·refine ah a 4 oa (kq [0]) 49 ?_;obtain ⟨c,h⟩:=ae h;obtain ⟨f,g,h⟩:=a7 h;refine bc a 1 [(5,⟨[0],true,(aB f),[],0,false,none⟩)] vZ (kq [0]) 145 (pc c (pc (zu _ _ _ _ g) pn)) <| b9 0 16 h (fun i h=>?_) (fun i h=>?_)
   ·refine ah a 1 (kp [4]) (kq [0]) 177 ?_;obtain rfl:=lk h;exact dN a 0 Tryz.f165 (kp [4]) (kq [0]) 177
   ·refine ah a 2 eD (kq [0]) 177 <| cd a 1 eD (kq [0]) 1 (d _ _ h E a)
  ·refine ah a 2 (kp [4]) (kq [0]) 33 ?_;cases h;exact dN a 0 Tryz.f165 (kp [4]) (kq [0]) 49
theorem tO (N s b r) (h:iz N s b=some r):Sd 165 [(uE s),(.fn (.func 105) [] [(.op 0 0 0)])] [(GB b)] 1 (aI r) [(GB b)]:=by
 unfold iz at h;refine sO Tryz.f165 19 fun E a=>?_;refine ah a 1 (kp [0,1]) (kq [0]) 17 <| ah a 2 eD (kq [0]) 65 <| cd a 2 eD (kq [0]) 1 (sy N _ _ N _ _ h E a)
theorem sD (N s a r) (h:jE N s a=some r):Sd 104 [(uE s),(.fn (.func 105) [] [(.op 0 0 0)])] [(GB a)] 1 (aB r) [(GB a)]:=by
 unfold jE at h;refine sO Tryz.f104 9 fun E b=>?_;refine ah b 1 (kp [0,1]) (kq [0]) 17 ?_;obtain ⟨c,d,h⟩:=a7 h;refine bc b 1 [(2,⟨[0],true,(aI c),[],0,false,none⟩)] (kp [4]) (kq [0]) 97 (pc (tO _ _ _ _ d) pn) ?_;cases h;exact dN b 0 Tryz.f104 (kp [4]) (kq [0]) 97
theorem A2 (N i b d r) (h:m7 N i b d=some r):Sd 103 [(aI i),(.op 0 0 0),(.op 1 0 0)] [(eI b),(yn d)] 2 (aI r) [(eI b),(yn d)]:=by
 unfold m7 at h;refine sO Tryz.f103 13 fun E a=>?_;refine ah a 1 qA (kq [0,1]) 18 ?_;obtain ⟨c,h⟩:=ae h;obtain ⟨e,f,h⟩:=a7 h;refine bc a 2 [(7,⟨[1],true,(aB e),[],0,false,none⟩)] (kp [12]) (kq [0,1]) 146 (pc o1 (pc c (pc (sD _ _ _ _ f) pn))) <| b9 0 12 h (fun g h=>?_) (fun g h=>?_)
 ·refine ah a 1 (kp [4]) (kq [0,1]) 162 ?_;cases h;exact dN a 0 Tryz.f103 (kp [4]) (kq [0,1]) 162
 ·refine ah a 2 (kp [4]) (kq [0,1]) 162 ?_;cases h;exact dN a 0 Tryz.f103 (kp [4]) (kq [0,1]) 162
noncomputable abbrev ah6:=bt Tryz.f98
def Ce (N:Nat) (names:List ByteArray) (a:aq) (b:List ByteArray) (K:Int->Option (Int)):Prop:=∀ (x:Int) (r:Int),K x=some r->∀ E,aG E 2->ar Tryz.prog E 98 36 (aH E [(eI a),(yn b)] (aI r)) [.code (ah6 116),.inLoop (ah6 116),.inBlock 0,.code (ah6 15)] ⟨[(Ji names),(2,(.fn (.func 103) [] [(.op 0 0 0),(.op 1 0 0)])),(14,(uE names)),(15,(Q2 names)),(16,(aI x))],[(eI a),(yn b)],2⟩
theorem A3 (N names b d fuel):Ce N names b d (gQ N names b d fuel):=by
 induction fuel with
 | zero=>intro _ r h;rw [gQ.eq_1] at h;cases h
 | succ fuel g =>
  intro x r h E a;rw [gQ.eq_2] at h;refine ah a 1 GS (kq [0,1]) 18 <| b9 1 17 h (fun i h=>?_) (fun i h=>?_)
  ·obtain ⟨c,h⟩:=ae h;refine bD a 4 Rg (kq [0,1]) 98 (pc c pn) ?_;obtain ⟨j,k,h⟩:=a7 h;refine bc a 2 [(1,oT (aB j))] Rf (kq [0,1]) 146 (pc (sx _ _ _ k) pn) <| b9 0 23 h (fun l h=>?_) (fun l h=>?_)
   ·refine ah a 1 (kp [6]) (kq [0,1]) 162 ?_;cases h;exact dN a 0 Tryz.f98 (kp [6]) (kq [0,1]) 162
   ·obtain ⟨e,h⟩:=ae h;obtain ⟨m,h⟩:=ae h;obtain ⟨f,n,h⟩:=a7 h;refine bc a 3 [(4,oT (aB f))] Re (kq [0,1]) 226 (pc e (pc m (pc (show Sd 106 [(aaJ x names),(aS (names.getD x.toNat ByteArray.empty))] [] 0 (aB f) [] from (Sound.conv (dM _ _ _ _ n) (.cons (Alike.sl (vL names 0 x.toNat e) (Bk cS ByteArray.empty names 0 x.toNat)) (.cons (Alike.refl _) .nil)))) pn))) <| b9 0 28 h (fun o h=>?_) (fun o h=>?_)
    ·refine ah a 1 (kp [6]) (kq [0,1]) 242 ?_;cases h;exact dN a 0 Tryz.f98 (kp [6]) (kq [0,1]) 242
    ·obtain ⟨p,q,h⟩:=a7 h;refine bc a 2 [(2,⟨[0,1],true,(aI p),[],0,false,none⟩)] Ri (kq [0,1]) 290 (pc (A2 _ _ _ _ _ q) pn) <| ah a 1 Rh (kq [0,1]) 322 <| b9 0 33 h (fun s h=>?_) (fun s h=>?_)
     ·refine ah a 1 (kp [6]) (kq [0,1]) 354 ?_;obtain rfl:=lk h;exact dN a 0 Tryz.f98 (kp [6]) (kq [0,1]) 354
     ·refine ah a 2 sj (kq [0,1]) 354 <| cd a 1 sj (kq [0,1]) 2 (g _ _ h E a)
  ·refine ah a 2 (kp [6]) (kq [0,1]) 34 ?_;cases h;exact dN a 0 Tryz.f98 (kp [6]) (kq [0,1]) 50
theorem EI (N names d b c r) (h:pJ N names d b c=some r):Sd 98 [(uE names),(aI d),(.fn (.func 103) [] [(.op 0 0 0),(.op 1 0 0)])] [(eI b),(yn c)] 2 (aI r) [(eI b),(yn c)]:=by
 unfold pJ at h;refine sO Tryz.f98 36 fun E a=>?_;refine ah a 1 qA (kq [0,1]) 18 <| ah a 2 MA (kq [0,1]) 82 <| b9 0 13 h (fun e h=>?_) (fun e h=>?_)
 ·refine ah a 1 (kp [6]) (kq [0,1]) 98 ?_;cases h;exact dN a 0 Tryz.f98 (kp [6]) (kq [0,1]) 98
 ·refine ah a 3 sj (kq [0,1]) 130 <| cd a 2 sj (kq [0,1]) 2 (A3 N _ _ _ N _ _ h E a)
noncomputable abbrev Um:=bt Tryz.f107
def Cf (N:Nat) (w:aq) (K:Int->Option (Int)):Prop:=∀ (x:Int) (r:Int),K x=some r->∀ E,aG E 0->ar Tryz.prog E 107 62 (aH E [] (aI r)) [.code (Um 116),.inLoop (Um 116),.inBlock 0,.code (Um 15)] ⟨[(1,(.op 0 0 0)),(12,(bJ dU.cells dU.d w.bK)),(13,(aI (w.bK.length:Int))),(14,(aI x))],[(eI w)],1⟩
def Cg (N:Nat) (w:aq) (K:Int->Option (Int)):Prop:=∀ (a:Int) (r:Int),K a=some r->∀ E,aG E 0->ar Tryz.prog E 107 62 (aH E [] (aI r)) [.code (Um 500),.inLoop (Um 500),.inBlock 2,.code (Um 63)] ⟨[(40,(bJ iy.cells iy.d w.cO)),(41,(aI (w.cO.length:Int))),(42,(aI a))],[],0⟩
theorem A4 (N w fuel):Cg N w (fH N w fuel):=by
 induction fuel with
 | zero=>intro _ r h;rw [fH.eq_1] at h;cases h
 | succ fuel e =>
  intro n r h E a;rw [fH.eq_2] at h;refine ah a 1 (kp [40,41,42,43]) [] 16 <| b9 1 43 h (fun f h=>?_) (fun f h=>?_)
  ·obtain ⟨g,h⟩:=ae h;refine bD a 4 (kp [6,40,41,42]) (kq [48]) 80 (pc g (pc o1 pn)) ?_;obtain ⟨c,i,h⟩:=a7 h;obtain ⟨j,k,h⟩:=a7 h;refine bc a 2 [(2,oT (aB c)),(7,oT (aB j))] (kp [6,40,41,42,55]) (kq [48]) 240 (pc o1 (pc (dy _ _ _ _ i) (pc (fun b:(!(!c))=true=>(pc b (pc o1 pn))) (pc (fun b:(!(!c))=true=>(pc (dy _ _ _ _ (aW k b)) (pc b pn))) (pc (fun b:(!(!c))=true=>(pc b pn)) (pc (fun l:(!(!c))=true=>(pc l pn)) pn)))))) <| b9 0 55 h (fun m h=>?_) (fun m h=>?_)
   ·refine ah a 1 (kp [2]) [] 256 ?_;cases h;exact dN a 0 Tryz.f107 (kp [2]) [] 256
   ·refine bD a 2 (kp [40,41,42,60]) [] 320 (pc o1 (pc o1 pn)) <| b9 0 60 h (fun d h=>?_) (fun d h=>?_)
    ·refine ah a 1 (kp [2]) [] 336 ?_;cases h;exact dN a 0 Tryz.f107 (kp [2]) [] 336
    ·refine ah a 2 Rx [] 352 <| cd a 1 Rx [] 0 (e _ _ h E a)
  ·refine ah a 2 (kp [2]) [] 32 ?_;cases h;exact dN a 0 Tryz.f107 (kp [2]) [] 48
theorem A5 (N w fuel):Cf N w (fI N w fuel):=by
 induction fuel with
 | zero=>intro _ r h;rw [fI.eq_1] at h;cases h
 | succ fuel g =>
  intro x r h E a;rw [fI.eq_2] at h;refine ah a 1 (kp [1,12,13,14,15]) (kq [0]) 17 <| b9 1 15 h (fun i h=>?_) (fun i h=>?_)
  ·obtain ⟨c,h⟩:=ae h;refine bD a 4 (kp [1,4,12,13,14]) MO 81 (pc c (pc o1 pn)) ?_;obtain ⟨d,j,h⟩:=a7 h;obtain ⟨e,k,h⟩:=a7 h;obtain ⟨l,m,h⟩:=a7 h;refine bc a 1 [(2,oT (aB d)),(7,oT (aB e)),(13,oT (aB l))] (kp [1,12,13,14,33]) (kq [0]) 337 (pc o1 (pc (dy _ _ _ _ j) (pc (fun b:(!(!d))=true=>(pc b (pc o1 pn))) (pc (fun b:(!(!d))=true=>(pc (dy _ _ _ _ (aW k b)) (pc b pn))) (pc (fun b:(!(!d))=true=>(pc b pn)) (pc (fun f:(!(!d))=true=>(pc f pn)) (pc (fun b:(Im d e)=true=>(pc b (pc o1 pn))) (pc (fun b:(Im d e)=true=>(pc (dy _ _ _ _ (aW m b)) (pc b pn))) (pc (fun b:(Im d e)=true=>(pc b pn)) (pc (fun f:(Im d e)=true=>(pc f pn)) pn)))))))))) <| b9 0 33 h (fun n h=>?_) (fun n h=>?_)
   ·refine ah a 1 (kp [2]) [] 353 ?_;cases h;exact dN a 0 Tryz.f107 (kp [2]) [] 353
   ·refine ah a 2 Rl (kq [0]) 369 <| cd a 1 Rl (kq [0]) 1 (g _ _ h E a)
  ·refine bD a 3 (kp [1,38]) (kq [0]) 81 (pc o1 pn) <| b9 0 38 h (fun o h=>?_) (fun o h=>?_)
   ·refine ah a 1 (kp [2]) [] 97 ?_;cases h;exact dN a 0 Tryz.f107 (kp [2]) [] 97
   ·refine bD a 3 Rx [] 145 (pc o1 pn) <| cd a 2 Rx [] 0 (A4 N _ N _ _ h E a)
theorem EJ (N w r) (h:pK N w=some r):Sd 107 [(mJ w)] [] 0 (aI r) []:=by
 unfold pK at h;refine sO Tryz.f107 62 fun E a=>?_;refine ah a 1 (kp [1]) (kq [0]) 32 <| bD a 2 (kp [1,10]) (kq [0]) 96 (pc o1 pn) <| b9 0 10 h (fun b h=>?_) (fun b h=>?_)
 ·refine ah a 1 (kp [2]) [] 112 ?_;cases h;exact dN a 0 Tryz.f107 (kp [2]) [] 112
 ·refine bD a 3 Rl (kq [0]) 160 (pc o1 pn) <| cd a 2 Rl (kq [0]) 1 (A5 N _ N _ _ h E a)
theorem A6 (N x r) (h:m8 N x=some r):Sd 168 [(.agg (BU x))] [] 0 (aS r) []:=by
 unfold m8 at h;refine sO Tryz.f168 5 fun E a=>?_;refine ah a 1 (kp [1]) (kq [0]) 32 <| bD a 1 (kp [2]) [] 80 (pc o1 pn) ?_
 cases h;exact dN a 0 Tryz.f168 (kp [2]) [] 80
noncomputable abbrev ah7:=bt Tryz.f167
def Av (N:Nat) (l:List bq) (K:qy->Int->Option Fk):Prop:=∀ (out:List ByteArray) (x:Int) (r:qy),K out x=some r->∀ E,aG E 0->ar Tryz.prog E 167 22 (aH E [] (mb r)) [.code (ah7 116),.inLoop (ah7 116),.inBlock 0,.code (ah7 15)] ⟨[(1,(.fn (.func 168) [] [])),(5,(.os 0 0 out.length)),(8,(bJ bq.cells bq.d l)),(9,(aI (l.length:Int))),(10,(aI x))],[(0,aO 1 cS ByteArray.empty out)],1⟩
theorem zw (N l fuel):Av N l (eY N l fuel):=by
 induction fuel with
 | zero=>intro _ _ r h;rw [eY.eq_1] at h;cases h
 | succ fuel d =>
  intro out x r h E a;rw [eY.eq_2] at h;refine ah a 1 GV (kq [0]) 17 <| b9 1 11 h (fun e h=>?_) (fun e h=>?_)
  ·obtain ⟨c,h⟩:=ae h;refine bD a 4 Rr MO 81 (pc c (pc o1 pn)) ?_;obtain ⟨b,f,h⟩:=a7 h;obtain ⟨g,h⟩:=ae h;refine bc a 0 [(3,oT (aS b))] (abd out b) [(aaM out b)] 193 (pc o1 (pc (A6 _ _ _ f) (pc (Eq.refl out.length) (pc g (pc (z1 1) (pc (oN [[(aS b)]]) (pc (cj out (El b)) (pc (cj out (El b)) (pc (S5 cS ByteArray.empty out (El b)) pn))))))))) <| ah a 1 tw (kq [161]) 225 <| cd a 1 tw [(0,.aj 161)] 1 (d _ _ _ h E a)
  ·refine ah a 2 (kp [4]) (kq [0]) 49 ?_;obtain rfl:=lk h;exact ki a 0 Tryz.f167 [0] [(4,Cx cS ByteArray.empty out)] [] 49 (pc (Eq.refl out.length) (pc (z1 out.length) (pc (eZ cS ByteArray.empty out) pn))) [] pn
theorem Ch (N l r) (h:re N l=some r):Sd 167 [(bJ bq.cells bq.d l),(.fn (.func 168) [] [])] [] 0 (mb r) []:=by
 unfold re at h;refine sO Tryz.f167 22 fun E a=>?_;refine ah a 1 (kp [0,1]) [] 16 <| ah a 1 mL [] 32 <| ah a 2 tw [] 80 <| cd a 2 abc [(0,.nil 1 Q7)] 1 (zw N _ N _ _ _ h E a)
theorem ve (N w r) (h:l5 N w=some r):Sd 108 [(mJ w)] [] 0 (mb r) []:=by
 unfold l5 at h;refine sO Tryz.f108 6 fun E a=>?_;refine ah a 1 (kp [1]) (kq [0]) 32 ?_;obtain ⟨b,c,h⟩:=a7 h;refine bc a 1 [(2,oT (mb b))] (kp [2]) [] 96 (pc o1 (pc (Ch _ _ _ c) pn)) ?_;obtain rfl:=lk h;exact dN a 0 Tryz.f108 (kp [2]) [] 96
noncomputable abbrev Un:=bt Tryz.f110
def Dx (N:Nat) (w:aq) (x:bq) (items:List ByteArray) (b:Int) (K:Int->Option (Int)):Prop:=∀ (a:Int) (r:Int),K a=some r->∀ E,aG E 0->ar Tryz.prog E 110 106 (aH E [] (aI r)) [.code (Un 500),.inLoop (Un 500),.inBlock 0,.code (Un 63)] ⟨[(2,(uE items)),(3,(.op 0 0 0)),(4,(.op 1 0 0)),(7,(aI b)),(30,(bJ eV.cells eV.d x.aP)),(31,(aI (x.aP.length:Int))),(32,(aI a))],[(eI w),(1,vO 7 (BU x))],2⟩
def Dy (N:Nat) (x:bq) (items:List ByteArray) (K:Int->Option (Int)):Prop:=∀ (a:Int) (r:Int),K a=some r->∀ E,aG E 0->ar Tryz.prog E 110 106 (aH E [] (aI r)) [.code (Un 2036),.inLoop (Un 2036),.inBlock 3,.code (Un 255)] ⟨[(2,(uE items)),(4,(.op 0 0 0)),(91,(bJ cS ByteArray.empty x.a9)),(92,(aI (x.a9.length:Int))),(93,(aI a))],[(0,vO 7 (BU x))],1⟩
theorem Ci (N x items fuel):Dy N x items (fT N x items fuel):=by
 induction fuel with
 | zero=>intro _ r h;rw [fT.eq_1] at h;cases h
 | succ fuel e =>
  intro j r h E a;rw [fT.eq_2] at h;refine ah a 1 (kp [2,4,91,92,93,94]) (kq [0]) 17 <| b9 1 94 h (fun b h=>?_) (fun b h=>?_)
  ·obtain ⟨f,h⟩:=ae h;refine bD a 4 (kp [2,4,11,91,92,93]) (kq [0]) 65 (pc f pn) ?_;obtain ⟨g,i,h⟩:=a7 h;refine bc a 2 [(2,oT (aB g))] (kp [2,4,11,91,92,93,100]) (kq [0]) 129 (pc (dM _ _ _ _ i) pn) <| b9 0 100 h (fun c h=>?_) (fun c h=>?_)
   ·refine ah a 1 (kp [6]) [] 145 ?_;cases h;exact dN a 0 Tryz.f110 (kp [6]) [] 145
   ·refine bD a 2 (kp [2,4,91,92,93,104]) (kq [0]) 193 (pc o1 pn) <| b9 0 104 h (fun d h=>?_) (fun d h=>?_)
    ·refine ah a 1 (kp [6]) [] 209 ?_;cases h;exact dN a 0 Tryz.f110 (kp [6]) [] 209
    ·refine ah a 2 Rt (kq [0]) 225 <| cd a 1 Rt (kq [0]) 1 (e _ _ h E a)
  ·refine ah a 2 (kp [6]) [] 33 ?_;cases h;exact dN a 0 Tryz.f110 (kp [6]) [] 48
theorem Cj (N w x items i fuel):Dx N w x items i (fU N w x items i fuel):=by
 induction fuel with
 | zero=>intro _ r h;rw [fU.eq_1] at h;cases h
 | succ fuel j =>
  intro e r h E b;rw [fU.eq_2] at h;refine ah b 1 abf (kq [0,1]) 18 <| b9 1 33 h (fun k h=>?_) (fun k h=>?_)
  ·obtain ⟨c,h⟩:=ae h;refine bD b 4 (kp [2,3,4,7,9,30,31,32]) (kq [0,1,50]) 82 (pc c (pc o1 pn)) ?_;obtain ⟨l,m,h⟩:=a7 h;refine bc b 2 [(11,oT (aB l))] ahC (kq [0,1,50]) 306 (pc o1 (pc (fun a:(agV x e)=true=>(pc a (pc o1 pn))) (pc (fun a:(agV x e)=true=>(pc a pn)) (pc (fun d:(agV x e)=true=>(pc d pn)) (pc (fun a:(acF x e)=true=>(pc a (pc o1 pn))) (pc (fun a:(acF x e)=true=>(pc (dy _ _ _ _ (aW m a)) (pc a pn))) (pc (fun a:(acF x e)=true=>(pc a pn)) (pc (fun d:(acF x e)=true=>(pc d pn)) pn)))))))) <| b9 0 49 h (fun n h=>?_) (fun n h=>?_)
   ·refine ah b 1 (kp [6]) [] 322 ?_;cases h;exact dN b 0 Tryz.f110 (kp [6]) [] 322
   ·obtain ⟨o,h⟩:=ae h;refine bD b 2 (kp [2,3,4,7,30,31,32,58]) (kq [0,1]) 450 (pc o1 (pc o1 (pc o pn))) <| b9 0 58 h (fun p h=>?_) (fun p h=>?_)
    ·refine ah b 1 (kp [6]) [] 466 ?_;cases h;exact dN b 0 Tryz.f110 (kp [6]) [] 466
    ·refine ah b 2 MH (kq [0,1]) 482 <| cd b 1 MH (kq [0,1]) 2 (j _ _ h E b)
  ·obtain ⟨q,s,h⟩:=a7 h;obtain ⟨t,u,h⟩:=a7 h;refine bc b 4 [(5,oT (mb q)),(8,oT (aB t))] (kp [2,4,60]) (kq [1]) 210 (pc o1 (pc (fun a:(Gu x)=true=>(pc o1 pn)) (pc (fun a:(Gu x)=true=>(pc (tN _ _ _ (aW s a)) (pc a pn))) (pc (fun a:(Gu x)=true=>(pc a (pc o1 pn))) (pc (fun a:(Gu x)=true=>(pc (dM _ _ _ _ (aW u a)) (pc a (pc a pn)))) (pc (fun a:(Gu x)=true=>(pc a pn)) (pc (fun d:(Gu x)=true=>(pc d pn)) pn))))))) <| b9 0 60 h (fun v h=>?_) (fun v h=>?_)
   ·refine ah b 1 (kp [6]) [] 226 ?_;cases h;exact dN b 0 Tryz.f110 (kp [6]) [] 226
   ·refine bD b 1 (kp [2,4,72]) (kq [1]) 354 (pc o1 (pc (fun a:(!(decide (x.pQ < (-1))))=true=>(pc a (pc o1 pn))) (pc (fun a:(!(decide (x.pQ < (-1))))=true=>(pc a pn)) (pc (fun d:(!(decide (x.pQ < (-1))))=true=>(pc d pn)) pn)))) <| b9 0 72 h (fun f h=>?_) (fun f h=>?_)
    ·refine ah b 1 (kp [6]) [] 370 ?_;cases h;exact dN b 0 Tryz.f110 (kp [6]) [] 370
    ·refine bD b 1 (kp [2,4,81]) (kq [1]) 498 (pc o1 (pc (fun a:(x.pQ != (-1))=true=>(pc a (pc o1 pn))) (pc (fun a:(x.pQ != (-1))=true=>(pc a pn)) (pc (fun d:(x.pQ != (-1))=true=>(pc d pn)) pn)))) <| b9 0 81 h (fun g h=>?_) (fun g h=>?_)
     ·refine ah b 1 (kp [6]) [] 514 ?_;cases h;exact dN b 0 Tryz.f110 (kp [6]) [] 514
     ·refine bD b 4 Rt (kq [1]) 562 (pc o1 pn) <| cd b 2 Rt [(0,.aj 1)] 1 (Ci N _ _ N _ _ h E b)
theorem FO (N w x items r) (h:qt N w x items=some r):Sd 110 [(mJ w),(.agg (BU x)),(uE items)] [] 0 (aI r) []:=by
 unfold qt at h;refine sO Tryz.f110 106 fun E a=>?_;refine ah a 1 sm gS 48 ?_;obtain ⟨c,d,h⟩:=a7 h;obtain ⟨e,f,h⟩:=a7 h;refine bc a 1 [(1,oT (mb c)),(4,oT (aI e))] (kp [2,3,4,7]) gS 144 (pc o1 (pc (tM _ _ _ d) (pc o1 (pc (kW _ _ _ _ f) pn)))) <| ah a 2 (kp [2,3,4,7,18]) gS 176 <| b9 0 18 h (fun g h=>?_) (fun g h=>?_)
 ·refine ah a 1 (kp [6]) [] 192 ?_;cases h;exact dN a 0 Tryz.f110 (kp [6]) [] 192
 ·refine bD a 3 (kp [2,3,4,7,28]) gS 336 (pc o1 (pc (fun b:(NM x)=true=>(pc b (pc o1 pn))) (pc (fun b:(NM x)=true=>(pc b pn)) (pc (fun b:(NM x)=true=>(pc b pn)) (pc (fun i:(NM x)=true=>(pc i pn)) pn))))) <| b9 0 28 h (fun j h=>?_) (fun j h=>?_)
  ·refine ah a 1 (kp [6]) [] 352 ?_;cases h;exact dN a 0 Tryz.f110 (kp [6]) [] 352
  ·refine bD a 3 MH gS 400 (pc o1 pn) <| cd a 2 MH (kq [0] ++ [(1,.aj 16)]) 2 (Cj N _ _ _ _ N _ _ h E a)
theorem A7 (N i a b r) (h:na N i a b=some r):Sd 109 [(aI i),(.op 0 0 0),(.op 1 0 0)] [(eI a),(yn b)] 2 (aI r) [(eI a),(yn b)]:=by
 unfold na at h;refine sO Tryz.f109 13 fun E d=>?_;refine ah d 1 qA (kq [0,1]) 18 ?_;obtain ⟨c,h⟩:=ae h;obtain ⟨e,f,h⟩:=a7 h;refine bc d 1 [(7,oT (aI e))] (kp [4]) (kq [0,1]) 162 (pc o1 (pc o1 (pc c (pc o1 (pc (FO _ _ _ _ _ f) pn))))) ?_;obtain rfl:=lk h;exact dN d 0 Tryz.f109 (kp [4]) (kq [0,1]) 162
noncomputable abbrev ah8:=bt Tryz.f98
def Ck (N:Nat) (names:List ByteArray) (a:aq) (b:List ByteArray) (K:Int->Option (Int)):Prop:=∀ (x:Int) (r:Int),K x=some r->∀ E,aG E 2->ar Tryz.prog E 98 36 (aH E [(eI a),(yn b)] (aI r)) [.code (ah8 116),.inLoop (ah8 116),.inBlock 0,.code (ah8 15)] ⟨[(Ji names),(2,(.fn (.func 109) [] [(.op 0 0 0),(.op 1 0 0)])),(14,(uE names)),(15,(Q2 names)),(16,(aI x))],[(eI a),(yn b)],2⟩
theorem A8 (N names b d fuel):Ck N names b d (gR N names b d fuel):=by
 induction fuel with
 | zero=>intro _ r h;rw [gR.eq_1] at h;cases h
 | succ fuel g =>
  intro x r h E a;rw [gR.eq_2] at h;refine ah a 1 GS (kq [0,1]) 18 <| b9 1 17 h (fun i h=>?_) (fun i h=>?_)
  ·obtain ⟨c,h⟩:=ae h;refine bD a 4 Rg (kq [0,1]) 98 (pc c pn) ?_;obtain ⟨j,k,h⟩:=a7 h;refine bc a 2 [(1,oT (aB j))] Rf (kq [0,1]) 146 (pc (sx _ _ _ k) pn) <| b9 0 23 h (fun l h=>?_) (fun l h=>?_)
   ·refine ah a 1 (kp [6]) (kq [0,1]) 162 ?_;cases h;exact dN a 0 Tryz.f98 (kp [6]) (kq [0,1]) 162
   ·obtain ⟨e,h⟩:=ae h;obtain ⟨m,h⟩:=ae h;obtain ⟨f,n,h⟩:=a7 h;refine bc a 3 [(4,oT (aB f))] Re (kq [0,1]) 226 (pc e (pc m (pc (show Sd 106 [(aaJ x names),(aS (names.getD x.toNat ByteArray.empty))] [] 0 (aB f) [] from (Sound.conv (dM _ _ _ _ n) (.cons (Alike.sl (vL names 0 x.toNat e) (Bk cS ByteArray.empty names 0 x.toNat)) (.cons (Alike.refl _) .nil)))) pn))) <| b9 0 28 h (fun o h=>?_) (fun o h=>?_)
    ·refine ah a 1 (kp [6]) (kq [0,1]) 242 ?_;cases h;exact dN a 0 Tryz.f98 (kp [6]) (kq [0,1]) 242
    ·obtain ⟨p,q,h⟩:=a7 h;refine bc a 2 [(2,⟨[0,1],true,(aI p),[],0,false,none⟩)] Ri (kq [0,1]) 290 (pc (A7 _ _ _ _ _ q) pn) <| ah a 1 Rh (kq [0,1]) 322 <| b9 0 33 h (fun s h=>?_) (fun s h=>?_)
     ·refine ah a 1 (kp [6]) (kq [0,1]) 354 ?_;obtain rfl:=lk h;exact dN a 0 Tryz.f98 (kp [6]) (kq [0,1]) 354
     ·refine ah a 2 sj (kq [0,1]) 354 <| cd a 1 sj (kq [0,1]) 2 (g _ _ h E a)
  ·refine ah a 2 (kp [6]) (kq [0,1]) 34 ?_;cases h;exact dN a 0 Tryz.f98 (kp [6]) (kq [0,1]) 50
theorem EK (N names d b c r) (h:pL N names d b c=some r):Sd 98 [(uE names),(aI d),(.fn (.func 109) [] [(.op 0 0 0),(.op 1 0 0)])] [(eI b),(yn c)] 2 (aI r) [(eI b),(yn c)]:=by
 unfold pL at h;refine sO Tryz.f98 36 fun E a=>?_;refine ah a 1 qA (kq [0,1]) 18 <| ah a 2 MA (kq [0,1]) 82 <| b9 0 13 h (fun e h=>?_) (fun e h=>?_)
 ·refine ah a 1 (kp [6]) (kq [0,1]) 98 ?_;cases h;exact dN a 0 Tryz.f98 (kp [6]) (kq [0,1]) 98
 ·refine ah a 3 sj (kq [0,1]) 130 <| cd a 2 sj (kq [0,1]) 2 (A8 N _ _ _ N _ _ h E a)
noncomputable abbrev NW:=bt Tryz.f112
def wb (N:Nat) (w:aq) (a:qy) (K:n6->Int->Option (n6)):Prop:=∀ (out:List (List Int)) (x:Int) (r:n6),K out x=some r->∀ E,aG E 0->ar Tryz.prog E 112 44 (aH E [] (Jz r)) [.code (NW 244),.inLoop (NW 244),.inBlock 0,.code (NW 31)] ⟨[(3,(mb a)),(4,(.os 0 0 out.length)),(15,(VN w)),(16,(Mp w)),(17,(aI x))],[(0,aM 1 cI 0 out)],1⟩
def EL (N:Nat) (w:aq) (c:qy) (x:Int) (K:n6->Int->Option (n6)):Prop:=∀ (a:List (List Int)) (b:Int) (r:n6),K a b=some r->∀ E,aG E 0->ar Tryz.prog E 112 44 (aH E [] (Jz r)) [.code (NW 62668),.inLoop (NW 62668),.inBlock 2,.inBlock 1,.code (NW 1959),.inLoop (NW 244),.inBlock 0,.code (NW 31)] ⟨[(3,(mb c)),(4,(.os 0 0 a.length)),(5,(aI x)),(15,(VN w)),(16,(Mp w)),(17,(aI x)),(23,(bJ cS ByteArray.empty ((QE w x).a9))),(24,(aI ((((QE w x).a9).length:Nat):Int))),(25,(aI b))],[(0,aM 1 cI 0 a)],1⟩
theorem Dz (N:Nat) (w:aq) (i:qy) (x:Int) (k:n6->Int->Option (n6)) (m:wb N w i k) (fuel:Nat):EL N w i x (gF N w i x k fuel):=by
 induction fuel with
 | zero=>intro _ _ r h;rw [gF.eq_1] at h;cases h
 | succ fuel n =>
  intro a t r h E f;rw [gF.eq_2] at h;refine ah f 1 ahD (kq [0]) 17 <| b9 1 26 h (fun o h=>?_) (fun o h=>?_)
  ·obtain ⟨p,h⟩:=ae h;refine bD f 4 (kp [3,4,5,8,15,16,17,23,24,25]) (kq [0]) 65 (pc p pn) ?_;obtain ⟨j,h⟩:=ae h;refine rnO 0 x.toNat 1 ((vX a x).length) (fun zi=>cI ((vX a x).getD zi 0)) (pc j (pc (show au [] (GN a) x.toNat=mR 1 cI 0 (vX a x) from rfl) pn)) ?_;obtain ⟨g,h⟩:=ae h;obtain ⟨b,q,h⟩:=a7 h;obtain ⟨s,h⟩:=ae h;refine bc f 0 [(5,oF (.os 65 0 ((vX a x).length))),(8,oT (aI b))] ML [(0,.AO 0 (a.length) [(ag9 x a b)] (GN a)),(241,ru 241 cI 0 (NP a x b))] 289 (pc g (pc (dz g) (pc (show (au [(x.toNat,65,(vX a x).length)] (GN a) x.toNat)[0]?=some (.os 65 0 ((vX a x).length)) from (gO rfl)) (pc (kW _ _ _ _ q) (pc (Eq.refl ((vX a x).length)) (pc s (pc (z1 1) (pc (oN [[(aI b)]]) (pc g (pc (dz g) (pc (Eq.refl a.length) (pc (show ∀ e,e < a.length->au [(ag9 x a b)] (GN a) e=if e=(x).toNat then [.os 241 0 ((vX a x).length+1)] else au [(x.toNat,65,(vX a x).length)] (GN a) e from (agv _ _ _ _ _ _ rfl (uS rfl rfl))) (pc (show ∀ e,e < a.length->dA ((GN a) e)=true from (fun _ _=>rfl)) (pc (cj (vX a x) (rf b)) (pc (S5 cI 0 (vX a x) (rf b)) pn))))))))))))))) <| rnL 0 241 x.toNat (pc j (pc (show au [(ag9 x a b)] (GN a) x.toNat=[.os 241 0 (NP a x b).length] from if_pos rfl) (pc (show ∀ l,l < (NP a x b).length->qF (cI ((NP a x b).getD l 0))=true from fun _ _=>rfl) pn))) <| Lo f [] (kp [3] ++ [(4,.mM ((X8 a x b).length))] ++ kp [5,15,16,17,23,24,25]) [(0,.AO 0 ((X8 a x b).length) [] (fun e=>mR 1 cI 0 ((X8 a x b).getD e [])))] 289 (pc (aF a x.toNat (NP a x b)) (pc (aF a x.toNat (NP a x b)) (pc (HX (sz:=1) (c:=cI) (d:=0) a x.toNat 241 ((NP a x b).length) (NP a x b) [] j Kr) (pc (show ∀ e,e < (X8 a x b).length->dA ((fun e=>mR 1 cI 0 ((X8 a x b).getD e [])) e)=true from fun _ _=>rfl) pn)))) <| ah f 1 ML (kq [0]) 321 <| cd f 1 ML (kq [0]) 1 (n _ _ _ h E f)
  ·refine ah f 2 MK (kq [0]) 49 <| cd f 1 MK (kq [0]) 1 (m _ _ _ h E f)
theorem DB (N w b fuel):wb N w b (fJ N w b fuel):=by
 induction fuel with
 | zero=>intro _ _ r h;rw [fJ.eq_1] at h;cases h
 | succ fuel c =>
  intro out x r h E a;rw [fJ.eq_2] at h;refine ah a 1 abi (kq [0]) 17 <| b9 1 18 h (fun d h=>?_) (fun d h=>?_)
  ·obtain ⟨e,h⟩:=ae h;refine bD a 4 (kp [3,4,5,6,15,16,17]) (kq [0,65]) 113 (pc e (pc o1 pn)) <| bD a 1 ML (kq [0]) 177 (pc o1 pn) <| cd a 2 ML (kq [0]) 1 (Dz N _ _ _ _ c N _ _ _ h E a)
  ·refine ah a 2 (kp [2]) (kq [0]) 49 <| ar.nFR a 0 1 out.length (fun zi=>(out.getD zi []).length) (aa5 out) (fun zi=>Mr (out.getD zi [])) (pc (show false=false from rfl) (pc (show (1:Nat)=1 from rfl) (pc (show ∀ zi,zi < out.length->(au [] (GN out)) zi=[.mr 1 ((fun zi=>(out.getD zi []).length) zi) ((aa5 out) zi)] from fun _ _=>rfl) (pc (show out.length=out.length from rfl) (pc (show ∀ zi,zi < out.length->(fun zi=>Mr (out.getD zi [])) zi=[.sl ((fun zi=>(out.getD zi []).length) zi) ((aa5 out) zi)] from fun _ _=>rfl) pn))))) ?_
   obtain rfl:=lk h;exact ki a 0 Tryz.f112 [0] [(2,Cx Mr [] out)] [] 49 (pc (Eq.refl out.length) (pc (z1 out.length) (pc (eZ Mr [] out) pn))) [] pn
theorem pg (N w r) (h:kE N w=some r):Sd 112 [(mJ w)] [] 0 (Jz r) []:=by
 unfold kE at h;refine sO Tryz.f112 44 fun E b=>?_;refine ah b 1 (kp [1]) (kq [0]) 32 ?_;obtain ⟨a,d,h⟩:=a7 h;refine bc b 1 [(1,oT (mb a))] (kp [1,3]) (kq [0]) 80 (pc o1 (pc (ve _ _ _ d) pn)) ?_;obtain ⟨c,h⟩:=ae h;refine bD b 1 (kp [1,3] ++ [(4,.mM ((VJ a).length))]) (kq [0,112]) 144 (pc c.1 (pc (Int.le_refl (a.length:Int)) (pc c.2.1 (pc c.2.2 (pc (lR a.length ([]:List Int)) pn))))) <| ar.nNR 112 1 (VJ a).length GM (ahS a) (pc (show (1:Nat)=1 from rfl) (pc (show 1<=1 from by decide) (pc (show ∀ zi,zi < a.length->(fun _=>[AV.nil]) zi=[AV.nil] from fun _ _=>rfl) (pc (show a.length=(VJ a).length from (iB).symm) (pc (show ∀ zi,zi < (VJ a).length->(ahS a) zi=[.mr 1 0 GM] from fun zi _=>congrArg (mR 1 cI 0) (ak4 _ zi)) pn))))) <| bD b 2 MK (kq [112]) 208 (pc o1 pn) <| cd b 2 MK [(0,.aj 112)] 1 (DB N _ _ N _ _ _ h E b)
theorem g9 (N s v r) (h:cM N s v=some r):Sd 117 [(bJ cI 0 s),(aI v)] [] 0 (aB r) []:=by
 unfold cM at h;refine sO Tryz.f117 9 fun E a=>?_;refine ah a 1 (kp [0,1]) [] 16 ?_;obtain ⟨b,c,h⟩:=a7 h;refine bc a 1 [(2,oT (aI b))] (kp [4]) [] 96 (pc (cN _ _ _ _ c) pn) ?_;cases h;exact dN a 0 Tryz.f117 (kp [4]) [] 96
theorem yF (N k a r) (h:k6 N k a=some r):Sd 172 [(aI k),(.op 0 0 0)] [(jI a),(ba a)] 2 (aB r) [(jI a),(ba a)]:=by
 unfold k6 at h;refine sO Tryz.f172 8 fun E b=>?_;refine ah b 1 (kp [0,1]) (kq [0,1]) 18 ?_;obtain ⟨c,d,h⟩:=a7 h;refine bc b 1 [(2,oT (aB c))] (kp [3]) (kq [0,1]) 98 (pc o1 (pc (g9 _ _ _ _ d) (pc (z1 a.length) pn))) ?_;cases h;exact dN b 0 Tryz.f172 (kp [3]) (kq [0,1]) 98
noncomputable abbrev ah9:=bt Tryz.f115
def uI (N:Nat) (s:List Int) (a:List Int) (K:Int->Option (Int)):Prop:=∀ (x:Int) (r:Int),K x=some r->∀ E,aG E 2->ar Tryz.prog E 115 19 (aH E [(jI a),(ba a)] (aI r)) [.code (ah9 52),.inLoop (ah9 52),.inBlock 0,.code (ah9 7)] ⟨[(uD s),(1,(.fn (.func 172) [] [(.op 0 0 0)])),(VF s),(8,(aI x))],[(jI a),(ba a)],2⟩
theorem tP (N s b fuel):uI N s b (cr N s b fuel):=by
 induction fuel with
 | zero=>intro _ r h;rw [cr.eq_1] at h;cases h
 | succ fuel d =>
  intro x r h E a;rw [cr.eq_2] at h;refine ah a 1 ri (kq [0,1]) 18 <| b9 1 9 h (fun e h=>?_) (fun e h=>?_)
  ·refine ah a 4 oa (kq [0,1]) 50 ?_;obtain ⟨c,h⟩:=ae h;obtain ⟨f,g,h⟩:=a7 h;refine bc a 1 [(5,⟨[0,1],true,(aB f),[],0,false,none⟩)] vZ (kq [0,1]) 146 (pc c (pc (yF _ _ _ _ g) pn)) <| b9 0 16 h (fun i h=>?_) (fun i h=>?_)
   ·refine ah a 1 (kp [4]) (kq [0,1]) 178 ?_;obtain rfl:=lk h;exact dN a 0 Tryz.f115 (kp [4]) (kq [0,1]) 178
   ·refine ah a 2 eD (kq [0,1]) 178 <| cd a 1 eD (kq [0,1]) 2 (d _ _ h E a)
  ·refine ah a 2 (kp [4]) (kq [0,1]) 34 ?_;cases h;exact dN a 0 Tryz.f115 (kp [4]) (kq [0,1]) 50
theorem wc (N s a r) (h:l6 N s a=some r):Sd 115 [(bJ cI 0 s),(.fn (.func 172) [] [(.op 0 0 0)])] [(jI a),(ba a)] 2 (aI r) [(jI a),(ba a)]:=by
 unfold l6 at h;refine sO Tryz.f115 19 fun E b=>?_;refine ah b 1 (kp [0,1]) (kq [0,1]) 18 <| ah b 2 eD (kq [0,1]) 66 <| cd b 2 eD (kq [0,1]) 2 (tP N _ _ N _ _ h E b)
theorem tQ (N s a r) (h:kF N s a=some r):Sd 171 [(bJ cI 0 s),(.fn (.func 172) [] [(.op 0 0 0)])] [(jI a),(ba a)] 2 (aB r) [(jI a),(ba a)]:=by
 unfold kF at h;refine sO Tryz.f171 9 fun E b=>?_;refine ah b 1 (kp [0,1]) (kq [0,1]) 18 ?_;obtain ⟨c,d,h⟩:=a7 h;refine bc b 1 [(2,⟨[0,1],true,(aI c),[],0,false,none⟩)] (kp [4]) (kq [0,1]) 98 (pc (wc _ _ _ _ d) pn) ?_;cases h;exact dN b 0 Tryz.f171 (kp [4]) (kq [0,1]) 98
theorem Aw (N l a r) (h:j5 N l a=some r):Sd 170 [(bJ cI 0 l),(.op 0 0 0)] [(jI a),(ba a)] 2 (aB r) [(jI a),(ba a)]:=by
 unfold j5 at h;refine sO Tryz.f170 8 fun E b=>?_;refine ah b 1 (kp [0,1]) (kq [0,1]) 18 ?_;obtain ⟨c,d,h⟩:=a7 h;refine bc b 1 [(2,⟨[0,1],true,(aB c),[],0,false,none⟩)] (kp [3]) (kq [0,1]) 98 (pc (tQ _ _ _ _ d) pn) ?_;cases h;exact dN b 0 Tryz.f170 (kp [3]) (kq [0,1]) 98
noncomputable abbrev aia:=bt Tryz.f169
def uJ (N:Nat) (s:List (List Int)) (a:List Int) (K:Int->Option (Int)):Prop:=∀ (x:Int) (r:Int),K x=some r->∀ E,aG E 2->ar Tryz.prog E 169 19 (aH E [(jI a),(ba a)] (aI r)) [.code (aia 52),.inLoop (aia 52),.inBlock 0,.code (aia 7)] ⟨[(0,(VM s)),(1,(.fn (.func 170) [] [(.op 0 0 0)])),(7,(aI (s.length:Int))),(8,(aI x))],[(jI a),(ba a)],2⟩
theorem tR (N s b fuel):uJ N s b (ct N s b fuel):=by
 induction fuel with
 | zero=>intro _ r h;rw [ct.eq_1] at h;cases h
 | succ fuel d =>
  intro x r h E a;rw [ct.eq_2] at h;refine ah a 1 ri (kq [0,1]) 18 <| b9 1 9 h (fun e h=>?_) (fun e h=>?_)
  ·refine ah a 4 oa (kq [0,1]) 50 ?_;obtain ⟨c,h⟩:=ae h;obtain ⟨f,g,h⟩:=a7 h;refine bc a 1 [(5,⟨[0,1],true,(aB f),[],0,false,none⟩)] vZ (kq [0,1]) 146 (pc c (pc (Aw _ _ _ _ g) pn)) <| b9 0 16 h (fun i h=>?_) (fun i h=>?_)
   ·refine ah a 1 (kp [4]) (kq [0,1]) 178 ?_;obtain rfl:=lk h;exact dN a 0 Tryz.f169 (kp [4]) (kq [0,1]) 178
   ·refine ah a 2 eD (kq [0,1]) 178 <| cd a 1 eD (kq [0,1]) 2 (d _ _ h E a)
  ·refine ah a 2 (kp [4]) (kq [0,1]) 34 ?_;cases h;exact dN a 0 Tryz.f169 (kp [4]) (kq [0,1]) 50
theorem we (N s a r) (h:jo N s a=some r):Sd 169 [(VM s),(.fn (.func 170) [] [(.op 0 0 0)])] [(jI a),(ba a)] 2 (aI r) [(jI a),(ba a)]:=by
 unfold jo at h;refine sO Tryz.f169 19 fun E b=>?_;refine ah b 1 (kp [0,1]) (kq [0,1]) 18 <| ah b 2 eD (kq [0,1]) 66 <| cd b 2 eD (kq [0,1]) 2 (tR N _ _ N _ _ h E b)
theorem yG (N k a r) (h:k7 N k a=some r):Sd 174 [(aI k),(.op 0 0 0)] [(jI a),(ba a)] 2 (aB r) [(jI a),(ba a)]:=by
 unfold k7 at h;refine sO Tryz.f174 8 fun E b=>?_;refine ah b 1 (kp [0,1]) (kq [0,1]) 18 ?_;obtain ⟨c,d,h⟩:=a7 h;refine bc b 1 [(2,oT (aB c))] (kp [3]) (kq [0,1]) 98 (pc o1 (pc (g9 _ _ _ _ d) (pc (z1 a.length) pn))) ?_;cases h;exact dN b 0 Tryz.f174 (kp [3]) (kq [0,1]) 98
noncomputable abbrev aib:=bt Tryz.f115
def uK (N:Nat) (s:List Int) (a:List Int) (K:Int->Option (Int)):Prop:=∀ (x:Int) (r:Int),K x=some r->∀ E,aG E 2->ar Tryz.prog E 115 19 (aH E [(jI a),(ba a)] (aI r)) [.code (aib 52),.inLoop (aib 52),.inBlock 0,.code (aib 7)] ⟨[(uD s),(1,(.fn (.func 174) [] [(.op 0 0 0)])),(VF s),(8,(aI x))],[(jI a),(ba a)],2⟩
theorem tS (N s b fuel):uK N s b (cu N s b fuel):=by
 induction fuel with
 | zero=>intro _ r h;rw [cu.eq_1] at h;cases h
 | succ fuel d =>
  intro x r h E a;rw [cu.eq_2] at h;refine ah a 1 ri (kq [0,1]) 18 <| b9 1 9 h (fun e h=>?_) (fun e h=>?_)
  ·refine ah a 4 oa (kq [0,1]) 50 ?_;obtain ⟨c,h⟩:=ae h;obtain ⟨f,g,h⟩:=a7 h;refine bc a 1 [(5,⟨[0,1],true,(aB f),[],0,false,none⟩)] vZ (kq [0,1]) 146 (pc c (pc (yG _ _ _ _ g) pn)) <| b9 0 16 h (fun i h=>?_) (fun i h=>?_)
   ·refine ah a 1 (kp [4]) (kq [0,1]) 178 ?_;obtain rfl:=lk h;exact dN a 0 Tryz.f115 (kp [4]) (kq [0,1]) 178
   ·refine ah a 2 eD (kq [0,1]) 178 <| cd a 1 eD (kq [0,1]) 2 (d _ _ h E a)
  ·refine ah a 2 (kp [4]) (kq [0,1]) 34 ?_;cases h;exact dN a 0 Tryz.f115 (kp [4]) (kq [0,1]) 50
theorem wg (N s a r) (h:l7 N s a=some r):Sd 115 [(bJ cI 0 s),(.fn (.func 174) [] [(.op 0 0 0)])] [(jI a),(ba a)] 2 (aI r) [(jI a),(ba a)]:=by
 unfold l7 at h;refine sO Tryz.f115 19 fun E b=>?_;refine ah b 1 (kp [0,1]) (kq [0,1]) 18 <| ah b 2 eD (kq [0,1]) 66 <| cd b 2 eD (kq [0,1]) 2 (tS N _ _ N _ _ h E b)
theorem tT (N s a r) (h:kG N s a=some r):Sd 171 [(bJ cI 0 s),(.fn (.func 174) [] [(.op 0 0 0)])] [(jI a),(ba a)] 2 (aB r) [(jI a),(ba a)]:=by
 unfold kG at h;refine sO Tryz.f171 9 fun E b=>?_;refine ah b 1 (kp [0,1]) (kq [0,1]) 18 ?_;obtain ⟨c,d,h⟩:=a7 h;refine bc b 1 [(2,⟨[0,1],true,(aI c),[],0,false,none⟩)] (kp [4]) (kq [0,1]) 98 (pc (wg _ _ _ _ d) pn) ?_;cases h;exact dN b 0 Tryz.f171 (kp [4]) (kq [0,1]) 98
theorem Ax (N l a r) (h:j6 N l a=some r):Sd 173 [(bJ cI 0 l),(.op 0 0 0)] [(jI a),(ba a)] 2 (aB r) [(jI a),(ba a)]:=by
 unfold j6 at h;refine sO Tryz.f173 8 fun E b=>?_;refine ah b 1 (kp [0,1]) (kq [0,1]) 18 ?_;obtain ⟨c,d,h⟩:=a7 h;refine bc b 1 [(2,⟨[0,1],true,(aB c),[],0,false,none⟩)] (kp [3]) (kq [0,1]) 98 (pc (tT _ _ _ _ d) pn) ?_;cases h;exact dN b 0 Tryz.f173 (kp [3]) (kq [0,1]) 98
noncomputable abbrev aic:=bt Tryz.f169
def uL (N:Nat) (s:List (List Int)) (a:List Int) (K:Int->Option (Int)):Prop:=∀ (x:Int) (r:Int),K x=some r->∀ E,aG E 2->ar Tryz.prog E 169 19 (aH E [(jI a),(ba a)] (aI r)) [.code (aic 52),.inLoop (aic 52),.inBlock 0,.code (aic 7)] ⟨[(0,(VM s)),(1,(.fn (.func 173) [] [(.op 0 0 0)])),(7,(aI (s.length:Int))),(8,(aI x))],[(jI a),(ba a)],2⟩
theorem tU (N s b fuel):uL N s b (cw N s b fuel):=by
 induction fuel with
 | zero=>intro _ r h;rw [cw.eq_1] at h;cases h
 | succ fuel d =>
  intro x r h E a;rw [cw.eq_2] at h;refine ah a 1 ri (kq [0,1]) 18 <| b9 1 9 h (fun e h=>?_) (fun e h=>?_)
  ·refine ah a 4 oa (kq [0,1]) 50 ?_;obtain ⟨c,h⟩:=ae h;obtain ⟨f,g,h⟩:=a7 h;refine bc a 1 [(5,⟨[0,1],true,(aB f),[],0,false,none⟩)] vZ (kq [0,1]) 146 (pc c (pc (Ax _ _ _ _ g) pn)) <| b9 0 16 h (fun i h=>?_) (fun i h=>?_)
   ·refine ah a 1 (kp [4]) (kq [0,1]) 178 ?_;obtain rfl:=lk h;exact dN a 0 Tryz.f169 (kp [4]) (kq [0,1]) 178
   ·refine ah a 2 eD (kq [0,1]) 178 <| cd a 1 eD (kq [0,1]) 2 (d _ _ h E a)
  ·refine ah a 2 (kp [4]) (kq [0,1]) 34 ?_;cases h;exact dN a 0 Tryz.f169 (kp [4]) (kq [0,1]) 50
theorem wh (N s a r) (h:jq N s a=some r):Sd 169 [(VM s),(.fn (.func 173) [] [(.op 0 0 0)])] [(jI a),(ba a)] 2 (aI r) [(jI a),(ba a)]:=by
 unfold jq at h;refine sO Tryz.f169 19 fun E b=>?_;refine ah b 1 (kp [0,1]) (kq [0,1]) 18 <| ah b 2 eD (kq [0,1]) 66 <| cd b 2 eD (kq [0,1]) 2 (tU N _ _ N _ _ h E b)
noncomputable abbrev NX:=bt Tryz.f111
def vf (N:Nat) (a:n6) (K:(List Int)->Option kI):Prop:=∀ (out:List Int) (r:(List Int)),K out=some r->∀ E,aG E 0->ar Tryz.prog E 111 44 (aH E [(0,aO 1 cI 0 r)] (.os 0 0 r.length)) [.code (NX 120),.inLoop (NX 120),.inBlock 0,.code (NX 31)] ⟨[(QR a),(4,(.op 0 0 0))],[(jI out),(ba out)],2⟩
def DC (N:Nat) (b:n6) (out:List Int) (K:Int->Option kI):Prop:=∀ (a:Int) (r:(List Int)),K a=some r->∀ E,aG E 0->ar Tryz.prog E 111 44 (aH E [(0,aO 1 cI 0 r)] (.os 0 0 r.length)) [.code (NX 7720),.inLoop (NX 7720),.inBlock 2,.code (NX 1931),.inBlock 1,.inLoop (NX 120),.inBlock 0,.code (NX 31)] ⟨[(QR b),(4,(.op 0 0 0)),(5,(aI a))],[(jI out),(ba out)],2⟩
theorem Cl (N:Nat) (d:n6) (out:List Int) (f:(List Int)->Option kI) (j:vf N d f) (fuel:Nat):DC N d out (ej N d out f fuel):=by
 induction fuel with
 | zero=>intro _ r h;rw [ej.eq_1] at h;cases h
 | succ fuel g =>
  intro b r h E a;rw [ej.eq_2] at h;obtain ⟨k,l,h⟩:=a7 h;refine bc a 2 [(5,oT (aB k))] (kp [3,4,5,23]) (kq [0,1]) 114 (pc (fun e:(BV b)=true=>(pc o1 pn)) (pc (fun e:(BV b)=true=>(pc (g9 _ _ _ _ (aW l e)) (pc (z1 out.length) (pc e (pc e pn))))) (pc (fun m:(BV b)=true=>(pc m pn)) pn))) <| b9 0 23 h (fun n h=>?_) (fun n h=>?_)
  ·obtain ⟨c,h⟩:=ae h;obtain ⟨o,h⟩:=ae h;obtain ⟨i,p,h⟩:=a7 h;refine bc a 3 [(5,⟨[0,1],true,(aI i),[],0,false,none⟩)] (kp [3,4,5,6]) (kq [0,1]) 226 (pc c (pc o (pc (show Sd 169 [(.sl (d.length - (aR (b+1)).toNat) (fun zi=>Mr (d.getD (da (KB b) zi) []))),(.fn (.func 173) [] [(.op 0 0 0)])] [(jI out),(ba out)] 2 (aI i) [(jI out),(ba out)] from (Sound.conv (wh _ _ _ _ p) (.cons (Alike.sl (vL d (KB b) d.length c) (Bk Mr [] d (KB b) d.length)) (.cons (Alike.refl _) .nil)))) pn))) <| ah a 1 (kp [3,4,5,6,31]) (kq [0,1]) 258 <| b9 0 31 h (fun q h=>?_) (fun q h=>?_)
   ·refine ah a 0 GX (kq [0,1]) 274 <| cd a 2 GX (kq [0,1]) 2 (g _ _ h E a)
   ·refine ah a 0 GX (kq [0,1]) 338 <| cd a 2 GX (kq [0,1]) 2 (g _ _ h E a)
  ·refine ah a 3 (kp [3,4,5,37]) (kq [0,1]) 146 <| b9 0 37 h (fun s h=>?_) (fun s h=>?_)
   ·refine bD a 1 (kp [2]) (kq [1]) 178 (pc o1 pn) ?_;obtain rfl:=lk h;exact dN a 0 Tryz.f111 (kp [2]) [(0,.aj 1)] 178
   ·obtain ⟨t,h⟩:=ae h;refine bD a 1 (kp [3,4]) [(0,.var 0 [.mM ((out ++ (rf b)).length)]),(194,ru 194 cI 0 (out ++ (rf b)))] 226 (pc o1 (pc (Eq.refl out.length) (pc t (pc (z1 1) (pc (oN [[(aI b)]]) (pc o1 (pc (cj out (rf b)) (pc (cj out (rf b)) (pc (S5 cI 0 out (rf b)) pn))))))))) <| cd a 2 (kp [3,4]) (kq [0] ++ [(1,.aj 194)]) 2 (j _ _ h E a)
theorem Cn (N b fuel):vf N b (cX N b fuel):=by
 induction fuel with
 | zero=>intro _ r h;rw [cX.eq_1] at h;cases h
 | succ fuel c =>
  intro out r h E a;rw [cX.eq_2] at h;refine bD a 2 (kp [3,4,13]) (kq [0,1]) 82 (pc o1 pn) <| b9 0 13 h (fun d h=>?_) (fun d h=>?_)
  ·obtain ⟨e,f,h⟩:=a7 h;refine bc a 3 [(2,⟨[0,1],true,(aI e),[],0,false,none⟩)] GX (kq [0,1]) 146 (pc (we _ _ _ _ f) pn) <| cd a 3 GX (kq [0,1]) 2 (Cl N _ _ _ c N _ _ h E a)
  ·refine bD a 2 (kp [2]) (kq [1]) 114 (pc o1 pn) ?_;obtain rfl:=lk h;exact dN a 0 Tryz.f111 (kp [2]) [(0,.aj 1)] 114
theorem rr (N w r) (h:lq N w=some r):Sd 111 [(mJ w)] [] 0 (.os 0 0 r.length) [(0,aO 1 cI 0 r)]:=by
 unfold lq at h;refine sO Tryz.f111 44 fun E a=>?_;refine ah a 1 (kp [1]) (kq [0]) 32 ?_;obtain ⟨b,c,h⟩:=a7 h;refine bc a 1 [(1,oT (Jz b))] (kp [3]) [] 80 (pc o1 (pc (pg _ _ _ c) pn)) <| ah a 1 (kp [3,4]) (kq [80]) 96 <| cd a 3 (kp [3,4]) [(0,.var 80 [.xE 1]),(1,.nil 1 GM)] 2 (Cn N _ N _ _ h E a)
theorem vg (N w r) (h:l8 N w=some r):Sd 45 [(mJ w)] [] 0 (aI r) []:=by
 unfold l8 at h;refine sO Tryz.f45 64 fun E a=>?_;refine ah a 1 (kp [1]) (kq [0]) 32 ?_;obtain ⟨j,k,h⟩:=a7 h;obtain ⟨l,m,h⟩:=a7 h;refine bc a 1 [(1,oT (mb j)),(3,⟨[0],true,(aI l),[],0,false,none⟩)] (kp [1,3]) (kq [0]) 112 (pc o1 (pc (tM _ _ _ k) (pc (Ir _ _ _ _ _ m) pn))) <| ah a 2 (kp [1,3,12]) (kq [0]) 144 <| b9 0 12 h (fun n h=>?_) (fun n h=>?_)
 ·refine ah a 1 (kp [2]) [] 176 ?_;obtain rfl:=lk h;exact dN a 0 Tryz.f45 (kp [2]) [] 176
 ·obtain ⟨o,p,h⟩:=a7 h;refine bc a 2 [(1,oT (mb o))] (kp [1,4]) (kq [0,176]) 208 (pc o1 (pc (tN _ _ _ p) (pc o1 pn))) ?_;obtain ⟨q,s,h⟩:=a7 h;refine bc a 1 [(2,⟨[0,176],true,(aI q),[],0,false,none⟩)] (kp [1,3]) (kq [0]) 272 (pc o1 (pc (EI _ _ _ _ _ _ s) pn)) <| ah a 2 (kp [1,3,20]) (kq [0]) 304 <| b9 0 20 h (fun t h=>?_) (fun t h=>?_)
  ·refine ah a 1 (kp [2]) [] 336 ?_;obtain rfl:=lk h;exact dN a 0 Tryz.f45 (kp [2]) [] 336
  ·obtain ⟨u,v,h⟩:=a7 h;refine bc a 3 [(1,oT (aI u))] (kp [1,5]) (kq [0]) 352 (pc o1 (pc (EJ _ _ _ v) pn)) <| ah a 1 (kp [1,5,25]) (kq [0]) 384 <| b9 0 25 h (fun x h=>?_) (fun x h=>?_)
   ·refine ah a 1 (kp [2]) [] 416 ?_;obtain rfl:=lk h;exact dN a 0 Tryz.f45 (kp [2]) [] 416
   ·obtain ⟨y,z,h⟩:=a7 h;refine bc a 2 [(1,oT (mb y))] (kp [1,6]) (kq [0,416]) 448 (pc o1 (pc (ve _ _ _ z) (pc o1 pn))) ?_;obtain ⟨A,B,h⟩:=a7 h;refine bc a 1 [(2,⟨[0,416],true,(aI A),[],0,false,none⟩)] (kp [1,3]) (kq [0]) 512 (pc o1 (pc (EK _ _ _ _ _ _ B) pn)) <| ah a 2 (kp [1,3,33]) (kq [0]) 544 <| b9 0 33 h (fun C h=>?_) (fun C h=>?_)
    ·refine ah a 1 (kp [2]) [] 576 ?_;obtain rfl:=lk h;exact dN a 0 Tryz.f45 (kp [2]) [] 576
    ·obtain ⟨c,D,h⟩:=a7 h;obtain ⟨d,F,h⟩:=a7 h;obtain ⟨e,G,h⟩:=a7 h;obtain ⟨H,I,h⟩:=a7 h;refine bc a 3 [(2,oT (aB c)),(7,oT (aB d)),(13,oT (aB e)),(19,oT (aB H))] (kp [1,56]) (kq [0]) 896 (pc o1 (pc (dy _ _ _ _ D) (pc (fun b:(!(!c))=true=>(pc b (pc o1 pn))) (pc (fun b:(!(!c))=true=>(pc (dy _ _ _ _ (aW F b)) (pc b pn))) (pc (fun b:(!(!c))=true=>(pc b pn)) (pc (fun f:(!(!c))=true=>(pc f pn)) (pc (fun b:(Im c d)=true=>(pc b (pc o1 pn))) (pc (fun b:(Im c d)=true=>(pc (dy _ _ _ _ (aW G b)) (pc b pn))) (pc (fun b:(Im c d)=true=>(pc b pn)) (pc (fun f:(Im c d)=true=>(pc f pn)) (pc (fun b:(X5 c d e)=true=>(pc b (pc o1 pn))) (pc (fun b:(X5 c d e)=true=>(pc (dy _ _ _ _ (aW I b)) (pc b pn))) (pc (fun b:(X5 c d e)=true=>(pc b pn)) (pc (fun f:(X5 c d e)=true=>(pc f pn)) pn)))))))))))))) <| b9 0 56 h (fun J h=>?_) (fun J h=>?_)
     ·refine ah a 1 (kp [2]) [] 912 ?_;cases h;exact dN a 0 Tryz.f45 (kp [2]) [] 912
     ·obtain ⟨i,g,h⟩:=a7 h;refine bc a 3 [(1,⟨[],true,(.os 0 0 i.length),[(0,aO 1 cI 0 i)],0,false,none⟩)] (kp [63]) [] 1008 (pc o1 (pc (rr _ _ _ g) (pc o1 pn))) <| b9 0 63 h (fun K h=>?_) (fun K h=>?_)
      ·refine ah a 1 (kp [2]) [] 1024 ?_;cases h;exact dN a 0 Tryz.f45 (kp [2]) [] 1024
      ·refine ah a 2 (kp [2]) [] 1024 ?_;cases h;exact dN a 0 Tryz.f45 (kp [2]) [] 1024
noncomputable abbrev aid:=bt Tryz.f113
def FP (N:Nat) (x:bq) (K:Int->Int->Int->Option (Int×Int)):Prop:=∀ (days:Int) (work:Int) (a:Int) (r:Int×Int),K days work a=some r->∀ E,aG E 0->ar Tryz.prog E 113 43 (aH E [] (Jg r)) [.code (aid 116),.inLoop (aid 116),.inBlock 0,.code (aid 15)] ⟨[(2,(aI days)),(3,(aI work)),(23,(bJ eV.cells eV.d x.aP)),(24,(aI (x.aP.length:Int))),(25,(aI a))],[],0⟩
theorem EM (N x fuel):FP N x (ik N x fuel):=by
 induction fuel with
 | zero=>intro _ _ _ r h;rw [ik.eq_1] at h;cases h
 | succ fuel b =>
  intro days work e r h E a;rw [ik.eq_2] at h;refine ah a 1 (kp [2,3,23,24,25,26]) [] 16 <| b9 1 26 h (fun c h=>?_) (fun c h=>?_)
  ·obtain ⟨d,h⟩:=ae h;refine bD a 4 (kp [2,3,5,23,24,25]) (kq [48]) 80 (pc d (pc o1 pn)) <| bD a 0 Rs [] 288 (pc o1 (pc o1 (pc o1 pn))) <| ah a 1 Rs [] 320 <| cd a 1 Rs [] 0 (b _ _ _ _ h E a)
  ·refine ah a 2 (kp [2,3]) [] 80 ?_;cases h;exact dN a 0 Tryz.f113 (kp [2,3]) [] 80
theorem mO (N x r) (h:ia N x=some r):Sd 113 [(.agg (BU x))] [] 0 (Jg r) []:=by
 unfold ia at h;refine sO Tryz.f113 43 fun E a=>?_;refine ah a 1 (kp [1]) (kq [0]) 48 ?_;obtain ⟨c,h⟩:=ae h;refine bD a 1 (kp [1,2,3]) (kq [0]) 336 (pc o1 (pc c (pc o1 (pc c (pc o1 (pc c pn)))))) <| bD a 2 Rs [] 400 (pc o1 pn) <| cd a 2 Rs [] 0 (EM N _ N _ _ _ _ h E a)
noncomputable abbrev KU:=bt Tryz.f46
def tV (N:Nat) (w:aq) (b:n6) (a:(List Int)) (K:(List Int)->Int->Int->Option acR):Prop:=∀ (out:List Int) (last:Int) (x:Int) (r:(List Int)×Int),K out last x=some r->∀ E,aG E 0->ar Tryz.prog E 46 80 (aH E [] (VA r)) [.code (KU 500),.inLoop (KU 500),.inBlock 0,.code (KU 63)] ⟨[(1,(.op 0 0 0)),(QS b),(5,(mK out)),(6,(aI last)),(21,(.os 2 0 a.length)),(QP a),(23,(aI x))],[(eI w),(ba out),(2,aO 1 cI 0 a)],3⟩
def Co (N:Nat) (w:aq) (b:n6) (a:(List Int)) (last:Int) (x:Int) (K:(List Int)->Int->Option acR):Prop:=∀ (c:List Int) (d:Int) (r:(List Int)×Int),K c d=some r->∀ E,aG E 0->ar Tryz.prog E 46 80 (aH E [] (VA r)) [.code (KU 256404),.inLoop (KU 256404),.inBlock 2,.code (KU 32051),.inBlock 1,.code (KU 4007),.inLoop (KU 500),.inBlock 0,.code (KU 63)] ⟨[(1,(.op 0 0 0)),(QS b),(5,(mK c)),(6,(aI last)),(8,(aI (a.getD x.toNat 0))),(21,(.os 2 0 a.length)),(QP a),(23,(aI x)),(30,(bJ cI 0 (b.getD (Gw a x) []))),(31,(aI (((b.getD (Gw a x) []).length:Nat):Int))),(32,(aI d))],[(eI w),(ba c),(2,aO 1 cI 0 a)],3⟩
theorem A9 (N:Nat) (w:aq) (c:n6) (b:(List Int)) (last:Int) (x:Int) (i:(List Int)->Int->Int->Option acR) (l:tV N w c b i) (fuel:Nat):Co N w c b last x (fK N w c b last x i fuel):=by
 induction fuel with
 | zero=>intro _ _ r h;rw [fK.eq_1] at h;cases h
 | succ fuel m =>
  intro d f r h E a;rw [fK.eq_2] at h;refine ah a 1 (kp [1,4,5,6,8,21,22,23,30,31,32,33]) cJ 19 <| b9 1 33 h (fun n h=>?_) (fun n h=>?_)
  ·obtain ⟨o,h⟩:=ae h;refine bD a 4 (kp [1,4,5,6,8,10,21,22,23,30,31,32]) cJ 67 (pc o pn) ?_;obtain ⟨p,h⟩:=ae h;obtain ⟨e,q,h⟩:=a7 h;refine bc a 1 [(5,oT (Jg e))] (kp [1,4,5,6,8,10,11,21,22,23,30,31,32]) cJ 243 (pc o1 (pc p (pc (mO _ _ _ q) pn))) ?_;obtain ⟨g,h⟩:=ae h;obtain ⟨j,h⟩:=ae h;refine bD a 0 (kp [1,4] ++ [(5,.mM ((amC d b x c f e).length))] ++ kp [6,8,21,22,23,30,31,32]) (kq [0] ++ [(1,ru 1 cI 0 (amC d b x c f e))] ++ kq [2]) 483 (pc g (pc (dz g) (pc j (pc (dz j) (pc g (pc (dz g) (pc (aF d (NO b x) (aa6 d c b x f e)) (pc (aF d (NO b x) (aa6 d c b x f e)) (pc (cn cI 0 d (NO b x) (aa6 d c b x f e)) pn))))))))) <| ah a 1 V9 cJ 515 <| cd a 1 V9 cJ 3 (m _ _ _ h E a)
  ·obtain ⟨s,h⟩:=ae h;obtain ⟨t,u,h⟩:=a7 h;refine bc a 2 [(5,oT (Jg t))] (kp [1,4,5,6,8,13,21,22,23]) cJ 195 (pc o1 (pc s (pc (mO _ _ _ u) pn))) ?_;obtain ⟨k,h⟩:=ae h;refine bD a 0 Ro cJ 339 (pc k (pc (dz k) pn)) <| ah a 1 Ro cJ 371 <| cd a 1 Ro cJ 3 (l _ _ _ _ h E a)
theorem Bb (N w b c fuel):tV N w b c (eP N w b c fuel):=by
 induction fuel with
 | zero=>intro _ _ _ r h;rw [eP.eq_1] at h;cases h
 | succ fuel e =>
  intro out last x r h E a;rw [eP.eq_2] at h;refine ah a 1 (kp [1,4,5,6,21,22,23,24]) cJ 19 <| b9 1 24 h (fun f h=>?_) (fun f h=>?_)
  ·obtain ⟨d,h⟩:=ae h;refine bD a 4 (kp [1,4,5,6,8,21,22,23]) cJ 67 (pc d (pc (dz d) pn)) ?_;obtain ⟨g,h⟩:=ae h;refine bD a 2 V9 cJ 163 (pc g pn) <| cd a 2 V9 cJ 3 (A9 N _ _ _ _ _ _ e N _ _ _ h E a)
  ·refine ah a 2 (kp [2,3]) (kq [1]) 83 ?_;cases h;exact ki a 0 Tryz.f46 [1] ([(2,Cx cI 0 out)] ++ kp [3]) [] 83 (pc (Eq.refl out.length) (pc (z1 out.length) (pc (eZ cI 0 out) pn))) [] pn
theorem EN (N w r) (h:pM N w=some r):Sd 46 [(mJ w)] [] 0 (VA r) []:=by
 unfold pM at h;refine sO Tryz.f46 80 fun E a=>?_;refine ah a 1 (kp [1]) (kq [0]) 48 ?_;obtain ⟨b,e,h⟩:=a7 h;refine bc a 1 [(1,oT (Jz b))] (kp [1,4]) (kq [0]) 96 (pc o1 (pc (pg _ _ _ e) pn)) ?_;obtain ⟨c,h⟩:=ae h;refine bD a 1 (kp [1,4] ++ [(5,.mM ((VI b).length))]) (kq [0] ++ [(128,ru 128 cI 0 (VI b))]) 160 (pc c.1 (pc (Int.le_refl (b.length:Int)) (pc c.2.1 (pc c.2.2 (pc (lR b.length (0:Int)) (pc (lR b.length (0:Int)) (pc (vK cI 0 0 b.length) pn))))))) <| ah a 1 MG (kq [0,128]) 176 ?_
 obtain ⟨d,f,h⟩:=a7 h;refine bc a 2 [(1,⟨[],true,(.os 0 0 d.length),[(0,aO 1 cI 0 d)],0,false,none⟩)] Ro (kq [0,128,192]) 240 (pc o1 (pc (rr _ _ _ f) pn)) <| cd a 2 Ro (kq [0] ++ [(1,.aj 128),(2,.aj 192)]) 3 (Bb N _ _ _ N _ _ _ _ h E a)
theorem EO (N w r) (h:pN N w=some r):Sd 11 [(mJ w)] [] 0 (.tup [(bJ cI 0 r.1),(aI r.2.1),(aI r.2.2)]) []:=by
 unfold pN at h;refine sO Tryz.f11 20 fun E a=>?_;refine ah a 1 (kp [1]) (kq [0]) 64 ?_;obtain ⟨b,c,h⟩:=a7 h;refine bc a 2 [(1,oT (aI b))] (kp [1,5]) (kq [0]) 112 (pc o1 (pc (vg _ _ _ c) pn)) <| ah a 1 (kp [1,5,11]) (kq [0]) 144 <| b9 0 11 h (fun d h=>?_) (fun d h=>?_)
 ·refine ah a 1 sm [] 208 ?_;cases h;exact ki a 0 Tryz.f11 [] ([(2,Cx cI 0 ([]:List Int))] ++ kp [3,4]) [] 208 (pc (Eq.refl 0) pn) [] pn
 ·obtain ⟨e,f,h⟩:=a7 h;refine bc a 2 [(1,oT (VA e))] (kp [6,7]) [] 256 (pc o1 (pc (EN _ _ _ f) pn)) <| ah a 1 sm [] 336 ?_
  cases h;exact dN a 0 Tryz.f11 sm [] 336
noncomputable abbrev amH:=bt Tryz.f175
def xX (N:Nat) (K:(List Int)->Int->Int->Option kI):Prop:=∀ (a:List Int) (i:Int) (j:Int) (r:(List Int)),K a i j=some r->∀ E,aG E 1->ar Tryz.prog E 175 28 (aH E [(0,aO 1 cI 0 r)] (.tup [])) [.code (amH 12),.inLoop (amH 12),.inBlock 0] ⟨[(0,(nb a)),(2,(aI i)),(3,(aI j))],[(0,aO 1 cI 0 a)],1⟩
theorem xe (N fuel):xX N (dK N fuel):=by
 induction fuel with
 | zero=>intro _ _ _ r h;rw [dK.eq_1] at h;cases h
 | succ fuel e =>
  intro a i j r h E b;rw [dK.eq_2] at h;refine ah b 2 (kp [0,2,3,9]) (kq [0]) 49 <| b9 0 9 h (fun f h=>?_) (fun f h=>?_)
  ·obtain ⟨c,h⟩:=ae h;obtain ⟨d,h⟩:=ae h;refine bD b 3 ([(0,.mM ((acN a i j).length))] ++ kp [2,3]) [(0,ru 0 cI 0 (acN a i j))] 305 (pc c (pc (dz c) (pc d (pc (dz d) (pc d (pc (dz d) (pc c (pc (dz c) (pc (show a.length=(acN a i j).length from (fz (fz rfl))) (pc (show a.length=(acN a i j).length from (fz (fz rfl))) (pc (xH cI 0 (a.set i.toNat (wY a j)) j.toNat (wM a i) (cn cI 0 a i.toNat (wM a j))) pn))))))))))) <| ah b 1 Rd (kq [0]) 401 <| cd b 1 Rd (kq [0]) 1 (e _ _ _ _ h E b)
  ·obtain rfl:=lk h;exact rnF b 1 Tryz.f175 [] [] (kq [0]) 49 pn [] pn
theorem zx (N a r) (h:lD N a=some r):Sd 175 [(nb a)] [(0,aO 1 cI 0 a)] 1 (.tup []) [(0,aO 1 cI 0 r)]:=by
 unfold lD at h;refine sO Tryz.f175 28 fun E b=>?_;refine ah b 1 Rd (kq [0]) 81 <| cd b 2 Rd (kq [0]) 1 (xe N N _ _ _ _ h E b)
noncomputable abbrev Ay:=bt Tryz.f114
def oB (N:Nat) (w:aq) (c:n6) (b:(List Int)) (K:(List Int)->Int->Option kI):Prop:=∀ (a:List Int) (x:Int) (r:(List Int)),K a x=some r->∀ E,aG E 0->ar Tryz.prog E 114 62 (aH E [] (bJ cI 0 r)) [.code (Ay 1012),.inLoop (Ay 1012),.inBlock 0,.code (Ay 127)] ⟨[(1,(.op 0 0 0)),(QR c),(4,(mK a)),(21,(.os 2 0 b.length)),(QP b),(23,(aI x))],[(eI w),(ba a),(2,aO 1 cI 0 b)],3⟩
def th (N:Nat) (w:aq) (c:n6) (b:(List Int)) (a:List Int) (x:Int) (K:Int->Int->Option kI):Prop:=∀ (d:Int) (e:Int) (r:(List Int)),K d e=some r->∀ E,aG E 0->ar Tryz.prog E 114 62 (aH E [] (bJ cI 0 r)) [.code (Ay 1037108),.inLoop (Ay 1037108),.inBlock 2,.code (Ay 129639),.inBlock 1,.code (Ay 8103),.inLoop (Ay 1012),.inBlock 0,.code (Ay 127)] ⟨[(1,(.op 0 0 0)),(QR c),(4,(mK a)),(7,(aI (b.getD x.toNat 0))),(8,(aI d)),(21,(.os 2 0 b.length)),(QP b),(23,(aI x)),(28,(aI (c.length:Int))),(29,(aI e))],[(eI w),(ba a),(2,aO 1 cI 0 b)],3⟩
def Bc (N:Nat) (w:aq) (c:n6) (b:(List Int)) (a:List Int) (x:Int) (e:Int) (K:Int->Option kI):Prop:=∀ (d:Int) (r:(List Int)),K d=some r->∀ E,aG E 0->ar Tryz.prog E 114 62 (aH E [] (bJ cI 0 r)) [.code (Ay 8296871),.inLoop (Ay 1037108),.inBlock 2,.code (Ay 129639),.inBlock 1,.code (Ay 8103),.inLoop (Ay 1012),.inBlock 0,.code (Ay 127)] ⟨[(1,(.op 0 0 0)),(QR c),(4,(mK a)),(7,(aI (b.getD x.toNat 0))),(8,(aI d)),(21,(.os 2 0 b.length)),(QP b),(23,(aI x)),(28,(aI (c.length:Int))),(29,(aI e))],[(eI w),(ba a),(2,aO 1 cI 0 b)],3⟩
theorem sE (N:Nat) (w:aq) (b:n6) (c:(List Int)) (a:List Int) (x:Int) (e:Int) (f:Int->Int->Option kI) (g:(List Int)->Int->Option kI) (i:th N w b c a x f) (j:oB N w b c g):Bc N w b c a x e (iH N w b c a x e f g):=by
 intro k r h E d;unfold iH at h;refine ah d 0 JD cJ 35 <| cd d 1 JD cJ 3 (i _ _ _ h E d)
theorem AA (N:Nat) (w:aq) (f:n6) (c:(List Int)) (a:List Int) (x:Int) (i:(List Int)->Int->Option kI) (g:oB N w f c i) (fuel:Nat):th N w f c a x (dB N w f c a x i fuel):=by
 induction fuel with
 | zero=>intro _ _ r h;rw [dB.eq_1] at h;cases h
 | succ fuel j =>
  intro e u r h E b;rw [dB.eq_2] at h;refine ah b 1 (kp [1,3,4,7,8,21,22,23,28,29,30]) cJ 19 <| b9 1 30 h (fun m h=>?_) (fun m h=>?_)
  ·refine ah b 4 (kp [1,3,4,7,8,9,21,22,23,28,29]) cJ 51 ?_;obtain ⟨n,h⟩:=ae h;obtain ⟨o,p,h⟩:=a7 h;refine bc b 1 [(5,oT (aB o))] (kp [1,3,4,7,8,9,21,22,23,28,29,37]) cJ 147 (pc n (pc (g9 _ _ _ _ p) pn)) <| b9 0 37 h (fun q h=>?_) (fun q h=>?_)
   ·obtain ⟨k,h⟩:=ae h;refine bD b 0 JD cJ 259 (pc k (pc (dz k) pn)) <| cd b 1 JD cJ 3 (sE N _ _ _ _ _ _ _ _ j g _ _ h E b)
   ·exact cd b 2 JD cJ 3 (sE N _ _ _ _ _ _ _ _ j g _ _ h E b)
  ·obtain ⟨s,h⟩:=ae h;obtain ⟨d,t,h⟩:=a7 h;refine bc b 2 [(5,oT (Jg d))] (kp [1,3,4,7,8,10,21,22,23]) cJ 195 (pc o1 (pc s (pc (mO _ _ _ t) pn))) ?_;obtain ⟨l,h⟩:=ae h;refine bD b 0 (kp [1,3] ++ [(4,.mM ((a.set (NO c x) (aR (d.1+e))).length))] ++ kp [21,22,23]) (kq [0] ++ [(1,ru 1 cI 0 (a.set (NO c x) (aR (d.1+e))))] ++ kq [2]) 307 (pc l (pc (dz l) (pc (aF a (NO c x) (aR (d.1+e))) (pc (aF a (NO c x) (aR (d.1+e))) (pc (cn cI 0 a (NO c x) (aR (d.1+e))) pn))))) <| ah b 1 V7 cJ 339 <| cd b 1 V7 cJ 3 (g _ _ _ h E b)
theorem AB (N w c d fuel):oB N w c d (ee N w c d fuel):=by
 induction fuel with
 | zero=>intro _ _ r h;rw [ee.eq_1] at h;cases h
 | succ fuel f =>
  intro a x r h E b;rw [ee.eq_2] at h;refine ah b 1 (kp [1,3,4,21,22,23,24]) cJ 19 <| b9 1 24 h (fun g h=>?_) (fun g h=>?_)
  ·obtain ⟨e,h⟩:=ae h;refine bD b 4 (kp [1,3,4,7,21,22,23]) cJ 67 (pc e (pc (dz e) pn)) <| ah b 1 (kp [1,3,4,7,8,21,22,23]) cJ 83 <| ah b 2 JD cJ 131 <| cd b 2 JD cJ 3 (AA N _ _ _ _ _ _ f N _ _ _ h E b)
  ·refine ah b 2 (kp [2]) (kq [1]) 51 ?_;obtain rfl:=lk h;exact ki b 0 Tryz.f114 [1] [(2,Cx cI 0 a)] [] 51 (pc (Eq.refl a.length) (pc (z1 a.length) (pc (eZ cI 0 a) pn))) [] pn
theorem DD (N w r) (h:o7 N w=some r):Sd 114 [(mJ w)] [] 0 (bJ cI 0 r) []:=by
 unfold o7 at h;refine sO Tryz.f114 62 fun E a=>?_;refine ah a 1 (kp [1]) (kq [0]) 32 ?_;obtain ⟨b,f,h⟩:=a7 h;refine bc a 1 [(1,oT (Jz b))] (kp [1,3]) (kq [0]) 80 (pc o1 (pc (pg _ _ _ f) pn)) ?_;obtain ⟨c,h⟩:=ae h;refine bD a 1 (kp [1,3] ++ [(4,.mM ((VI b).length))]) (kq [0] ++ [(112,ru 112 cI 0 (VI b))]) 144 (pc c.1 (pc (Int.le_refl (b.length:Int)) (pc c.2.1 (pc c.2.2 (pc (lR b.length (0:Int)) (pc (lR b.length (0:Int)) (pc (vK cI 0 0 b.length) pn))))))) ?_;obtain ⟨d,g,h⟩:=a7 h;refine bc a 1 [(1,⟨[],true,(.os 0 0 d.length),[(0,aO 1 cI 0 d)],0,false,none⟩)] uF (kq [0,112,160]) 192 (pc o1 (pc (rr _ _ _ g) pn)) ?_;obtain ⟨e,i,h⟩:=a7 h;obtain ⟨j,h⟩:=ae h;refine bc a 1 [(1,⟨[160],false,(.tup []),[(0,aO 1 cI 0 e)],0,false,none⟩)] (kp [1,3,4] ++ [(5,.mM (e.length))]) (kq [0,112,160]) 224 (pc (zx _ _ _ i) (pc (show d.length=e.length from (Eq.symm j)) pn)) <| ah a 2 V7 (kq [0,112,160]) 272 <| cd a 2 V7 (kq [0] ++ [(1,.aj 112),(2,.aj 160)]) 3 (AB N _ _ _ N _ _ _ h E a)
theorem DE (N n a r) (h:sa N n a=some r):Sd 116 [(aI n),(.op 0 0 0)] [(vY a)] 1 (aB r) [(vY a)]:=by
 unfold sa at h;refine sO Tryz.f116 7 fun E b=>?_;refine ah b 1 (kp [0,1]) (kq [0]) 17 <| bD b 1 (kp [3]) (kq [0]) 81 (pc o1 pn) ?_
 cases h;exact dN b 0 Tryz.f116 (kp [3]) (kq [0]) 81
noncomputable abbrev aie:=bt Tryz.f115
def uM (N:Nat) (s:List Int) (a:Int) (K:Int->Option (Int)):Prop:=∀ (x:Int) (r:Int),K x=some r->∀ E,aG E 1->ar Tryz.prog E 115 19 (aH E [(vY a)] (aI r)) [.code (aie 52),.inLoop (aie 52),.inBlock 0,.code (aie 7)] ⟨[(uD s),(1,(.fn (.func 116) [] [(.op 0 0 0)])),(VF s),(8,(aI x))],[(vY a)],1⟩
theorem tW (N s b fuel):uM N s b (cx N s b fuel):=by
 induction fuel with
 | zero=>intro _ r h;rw [cx.eq_1] at h;cases h
 | succ fuel d =>
  intro x r h E a;rw [cx.eq_2] at h;refine ah a 1 ri (kq [0]) 17 <| b9 1 9 h (fun e h=>?_) (fun e h=>?_)
  ·refine ah a 4 oa (kq [0]) 49 ?_;obtain ⟨c,h⟩:=ae h;obtain ⟨f,g,h⟩:=a7 h;refine bc a 1 [(5,⟨[0],true,(aB f),[],0,false,none⟩)] vZ (kq [0]) 145 (pc c (pc (DE _ _ _ _ g) pn)) <| b9 0 16 h (fun i h=>?_) (fun i h=>?_)
   ·refine ah a 1 (kp [4]) (kq [0]) 177 ?_;obtain rfl:=lk h;exact dN a 0 Tryz.f115 (kp [4]) (kq [0]) 177
   ·refine ah a 2 eD (kq [0]) 177 <| cd a 1 eD (kq [0]) 1 (d _ _ h E a)
  ·refine ah a 2 (kp [4]) (kq [0]) 33 ?_;cases h;exact dN a 0 Tryz.f115 (kp [4]) (kq [0]) 49
theorem wi (N s b r) (h:jr N s b=some r):Sd 115 [(bJ cI 0 s),(.fn (.func 116) [] [(.op 0 0 0)])] [(vY b)] 1 (aI r) [(vY b)]:=by
 unfold jr at h;refine sO Tryz.f115 19 fun E a=>?_;refine ah a 1 (kp [0,1]) (kq [0]) 17 <| ah a 2 eD (kq [0]) 65 <| cd a 2 eD (kq [0]) 1 (tW N _ _ N _ _ h E a)
noncomputable abbrev II:=bt Tryz.f47
def DF (N:Nat) (w:aq) (a:(List Int)) (b:n6) (K:Int->Int->Option (dH)):Prop:=∀ (bound:Int) (x:Int) (r:dH),K bound x=some r->∀ E,aG E 0->ar Tryz.prog E 47 90 (aH E [] (QN r)) [.code (II 500),.inLoop (II 500),.inBlock 0,.code (II 63)] ⟨[(1,(.op 0 0 0)),(2,(.op 1 0 0)),(3,(bJ cI 0 a)),(QS b),(5,(.op 2 0 0)),(19,(bJ cI 0 a)),(20,(aI (a.length:Int))),(21,(aI x))],[(eI w),(1,vO 3 [(aI 0),.nil,fj]),(2,vO 3 [(aI bound),.nil,fj])],3⟩
def vj (N:Nat) (w:aq) (c:(List Int)) (d:n6) (bound:Int) (x:Int) (K:qy->Int->Int->Option (dH)):Prop:=∀ (a:List ByteArray) (b:Int) (left:Int) (r:dH),K a b left=some r->∀ E,aG E 0->ar Tryz.prog E 47 90 (aH E [] (QN r)) [.code (II 1016),.inLoop (II 1016),.inBlock 2,.code (II 255)] ⟨[(1,(.op 0 0 0)),(2,(.op 1 0 0)),(3,(bJ cI 0 c)),(QS d),(5,(.op 2 0 0)),(8,(aI b)),(9,(.op 4 0 0))],[(eI w),(1,vO 3 [(aI 0),.nil,fj]),(2,vN 3 [(aI bound),(.os 3 0 a.length),fj]),(3,aO 1 cS ByteArray.empty a),(4,vO 1 [(aI left)])],5⟩
def DG (N:Nat) (w:aq) (d:(List Int)) (e:n6) (bound:Int) (x:Int) (b:List ByteArray) (a:Int) (left:Int) (f:Int×Int) (K:Int->Option (dH)):Prop:=∀ (c:Int) (r:dH),K c=some r->∀ E,aG E 0->ar Tryz.prog E 47 90 (aH E [] (QN r)) [.code (II 520572),.inLoop (II 520572),.inBlock 4,.inBlock 3,.inLoop (II 1016),.inBlock 2,.code (II 255)] ⟨[(1,(.op 0 0 0)),(2,(.op 1 0 0)),(3,(bJ cI 0 d)),(QS e),(5,(.op 2 0 0)),(8,(aI c)),(9,(.op 4 0 0)),(12,(aI a))],[(eI w),(1,vO 3 [(aI 0),.nil,fj]),(2,vN 3 [(aI bound),(.os 3 0 (ag8 b w a)),fj]),(3,aO 1 cS ByteArray.empty (agW b w a)),(4,vO 1 [(aI (aR (left - f.1)))])],5⟩
theorem Cp (N:Nat) (w:aq) (c:(List Int)) (e:n6) (bound:Int) (x:Int) (g:List ByteArray) (i:Int) (left:Int) (f:Int×Int) (j:qy->Int->Int->Option (dH)) (k:vj N w c e bound x j) (fuel:Nat):DG N w c e bound x g i left f (cY N w c e bound x g i left f j fuel):=by
 induction fuel with
 | zero=>intro _ r h;rw [cY.eq_1] at h;cases h
 | succ fuel n =>
  intro d r h E b;rw [cY.eq_2] at h;obtain ⟨o,h⟩:=ae h;obtain ⟨p,q,h⟩:=a7 h;refine bc b 2 [(8,oT (aB p))] (kp [1,2,3,4,5,8,9,12,76]) Ep 181 (pc (fun a:(BV d)=true=>(pc a (pc a (pc (o a) pn)))) (pc (fun a:(BV d)=true=>(pc a pn)) (pc (fun a:(BV d)=true=>(pc (g9 _ _ _ _ (aW q a)) (pc a (pc a pn)))) (pc (fun a:(BV d)=true=>(pc a pn)) (pc (fun s:(BV d)=true=>(pc s pn)) pn))))) <| b9 0 76 h (fun t h=>?_) (fun t h=>?_)
  ·obtain ⟨l,h⟩:=ae h;obtain ⟨u,h⟩:=ae h;obtain ⟨m,v,h⟩:=a7 h;refine bc b 3 [(5,oT (aI m))] (kp [1,2,3,4,5,8,9,12,13]) Ep 293 (pc l (pc u (pc o1 (pc (show Sd 87 [(.sl (c.length - (aR (d+1)).toNat) (fun zi=>cI (c.getD (da (KB d) zi) 0))),(aI (aR (left - f.1)))] [] 0 (aI m) [] from (Sound.conv (cN _ _ _ _ v) (.cons (Alike.sl (vL c (KB d) c.length l) (Bk cI 0 c (KB d) c.length)) (.cons (Alike.refl _) .nil)))) pn)))) <| ah b 2 (kp [1,2,3,4,5,8,9,12,13,84]) Ep 325 <| b9 0 84 h (fun y h=>?_) (fun y h=>?_)
   ·exact cd b 3 MF Ep 5 (k _ _ _ _ h E b)
   ·refine ah b 1 V4 Ep 405 <| cd b 2 V4 Ep 5 (n _ _ h E b)
  ·exact cd b 3 MF Ep 5 (k _ _ _ _ h E b)
theorem Cq (N w d e bound x fuel):vj N w d e bound x (cZ N w d e bound x fuel):=by
 induction fuel with
 | zero=>intro _ _ _ r h;rw [cZ.eq_1] at h;cases h
 | succ fuel g =>
  intro a c left r h E b;rw [cZ.eq_2] at h;refine bD b 2 (kp [1,2,3,4,5,8,9,38]) Ep 37 (pc o1 pn) <| b9 0 38 h (fun i h=>?_) (fun i h=>?_)
  ·obtain ⟨f,h⟩:=ae h;obtain ⟨j,h⟩:=ae h;refine bD b 3 MF (kq [0,1] ++ [(2,.var 2 [.aj,.mM (ag8 a w c),.aj])] ++ kq [4] ++ [(181,ru 181 cS ByteArray.empty (agW a w c))]) 229 (pc o1 (pc o1 (pc f (pc (Eq.refl a.length) (pc j (pc (z1 1) (pc (oN [[(aS (Vn w c))]]) (pc o1 (pc (cj a (Mo w c)) (pc (cj a (Mo w c)) (pc (S5 cS ByteArray.empty a (Mo w c)) pn))))))))))) ?_;obtain ⟨k,l,h⟩:=a7 h;refine bc b 1 [(5,oT (Jg k))] (kp [1,2,3,4,5,8,9,10]) Wm 405 (pc o1 (pc f (pc (mO _ _ _ l) pn))) <| bD b 1 MF Wm 469 (pc o1 (pc o1 pn)) <| ah b 1 (kp [1,2,3,4,5,9,12]) Wm 501 ?_
   obtain ⟨m,n,h⟩:=a7 h;refine bc b 1 [(2,⟨[4],true,(aI m),[],0,false,none⟩)] V4 Wm 565 (pc (wi _ _ _ _ n) pn) <| cd b 2 V4 (kq [0,1,2] ++ [(3,.aj 181)] ++ kq [4]) 5 (Cp N _ _ _ _ _ _ _ _ _ _ g N _ _ h E b)
  ·refine bD b 2 (kp [2]) (kq [1,3]) 69 (pc o1 (pc o1 pn)) ?_;cases h;exact ki b 0 Tryz.f47 [3] (kp [2]) [(16,.var 1 [.aj,Cx cS ByteArray.empty a,.aj])] 69 (pc (Eq.refl a.length) (pc (z1 a.length) (pc (eZ cS ByteArray.empty a) pn))) [16] (pc o1 pn)
theorem Cr (N w b d fuel):DF N w b d (fV N w b d fuel):=by
 induction fuel with
 | zero=>intro _ _ r h;rw [fV.eq_1] at h;cases h
 | succ fuel e =>
  intro bound x r h E a;rw [fV.eq_2] at h;refine ah a 1 (kp [1,2,3,4,5,19,20,21,22]) cJ 19 <| b9 1 22 h (fun f h=>?_) (fun f h=>?_)
  ·obtain ⟨c,h⟩:=ae h;refine bD a 4 (kp [1,2,3,4,5,7,19,20,21]) cJ 67 (pc c pn) <| bD a 0 Rm cJ 163 (pc o1 (pc o1 pn)) <| ah a 1 Rm cJ 195 <| cd a 1 Rm cJ 3 (e _ _ _ h E a)
  ·obtain ⟨g,i,h⟩:=a7 h;refine bc a 2 [(3,oT (aI g))] MF (kq [0,1,2,115]) 163 (pc o1 (pc (cN _ _ _ _ i) (pc o1 (pc o1 pn)))) <| cd a 3 MF (kq [0,1] ++ [(2,.var 2 [.aj,.xE 3,.aj]),(3,.nil 1 Q7),(4,.aj 115)]) 5 (Cq N _ _ _ _ _ N _ _ _ _ h E a)
end Go.Den
