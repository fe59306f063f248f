import Derived.Test.YtkkkfkopcfdmaaaGreatDoorE
import Derived.Test.YtkkkfkopcfdmaaaGreatDoorC
import Derived.Test.YtkkkfkopcfdmaaaGreatDoorD
set_option linter.all false
namespace Go.Proofs.YtkkkfkopcfdmaaaGreatDoor
open Go Go.Vc Go.RowKit Go.Proofs Tryz
set_option maxRecDepth 100000
set_option maxHeartbeats 8000000
variable {R:Ending->World->Prop} {w:World} {a0 a1 a2 aE au aB cw aH aG aM dW:Int}
def ZM.vc(h:(λA=>
 ∀w0,w0=w.alloc (.map #[] 0)->
 Aw w0 #[.int .i64 (if 4096<A then 4096 else A),ai,.slice none 0 0,.map (some w.heap.size)] 226 λw1=>
 R (Value.pointer (aD w0)) w1) (if 1>a0 then 1 else a0)):ae 97 #[a0] w R:=
 cq bG func97 h
def E9.vc{a0:Addr}(h:(λA B C D=>
 Aw w #[aH,aG,aM] 41 λw0=>
 ae 262 C w0 (Rx0 λx2 b3 w1=>(λAa=>Kp w w0 w1/\
 Br b3
 (Br (x2<=a2)
 (R false w1)
 (Br b3
 (ae 263 C w1 (Rb λb5 w4=>Kp w w1 w4/\
 ae 264 B w4 (Rt λw6=>Kp w w4 w6/\
 R true w6)))
 (kB w1.drew (af D 2) λs7=>
 kW w1.drew (af D 0) λx8=>
 Br ((((s7.n:Nat):Int):Int)==x8)
 (kW w1.drew A λx9=>
 Aa/\bk A≠some w.heap.size/\(Pw w1.drew A [(aw (x9+1))] λbo=>
 R false bo))
 (ae 264 B w1.drew (Rt λbw=>Kp w w1.drew bw/\
 R true bw)))))
 (Br b3
 (ae 263 C w1 (Rb λOi cC=>Kp w w1 cC/\
 ae 264 B cC (Rt λbH=>Kp w cC bH/\
 R true bH)))
 (kB w1.drew (af D 2) λpr=>
 kW w1.drew (af D 0) λdu=>
 Br ((((pr.n:Nat):Int):Int)==du)
 (kW w1.drew A λdH=>
 Aa/\bk A≠some w.heap.size/\(Pw w1.drew A [(aw (dH+1))] λdI=>
 R false dI))
 (ae 264 B w1.drew (Rt λfK=>Kp w w1.drew fK/\
 R true fK))))) (true=true/\Wr w1.drew A 1))) (af (some a0) 1) #[a0,.agg #[a2,aH,aG,aM]] #[a0,.agg #[aH,aG,aM]] (some a0)):ae 211 #[a0,.agg #[aH,aG,aM],a2] w R:=
 cq bG func211 h
def E3.vc{a0:Addr}(h:(λA B C=>
 sN (λI0 n1=>I0 n1 (0) w) λI0 n1 zF x3 w4=>(λAa Ab Ac=>
 kB w4 A λs6=>
 Br (decide (x3<((s6.n:Nat):Int)))
 (Br (x3<a2)
 (kB w4 A λs7=>
 eL s7.a x3 s7.n/\aT (fq (af s7.a Ac)) (kW w4 (af (af s7.a Ac) 0) λx8=>
 Br (x8<=a1)
 (∃n5,n5<n1/\I0 n5 ((aw (x3+1))) w4)
 (kB w4 A λs9=>
 (0:Int)<=x3/\x3<=((s9.c:Nat):Int)/\(0:Int)<=x3/\x3<=x3/\oz (λFz tN=>Fz tN (0) ⟨none,0,0⟩ w4) λFz tN amk cR s14 ee=>
 Br (decide (cR<((Aa:Nat):Int)))
 (eL (aI s9.a (0) Ab 4) cR Aa/\uc ee (af (aI s9.a (0) Ab 4) ((cR:Int).toNat*4)) λdH dc db dN=>
 Aw ee B 157 λdU=>
 Sw dU ee #[dH,dc,db,dN] λdm=>
 Aw dm #[dc,db,dN] 41 λfQ=>
 ba 24 3 fQ s14 1 [dc,db,dN]/\∀(zM:Sl)(cZ:World),aX 41 3 fQ s14 1 [dc,db,dN] zM cZ->K2 ee dm fQ cZ (
 Lxm cZ.drew C λm26=>
 ∃(G27:Value->Prop)(kvs28:List (Value × Value)),jh Tryz.prog 41 G27/\(m26:Option Nat).isSome=true/\bS G27 cZ.drew m26 kvs28/\G27 (.agg #[dc,db,dN])/\∀eG:World,Rec ((m26:Option Nat).getD 0) cZ.drew eG->bS G27 eG m26 (HV kvs28 (.agg #[dc,db,dN]))->
 ∃Tk,Tk<tN/\Fz Tk ((aw (cR+1))) zM eG))
 (kB ee A λxY=>
 ae 241 #[xY,ai,x3] ee (ua λBJ gS=>(Pv gS A 1 [BJ] λfL=>
 R s14 fL))))))
 (kB w4 A λs34=>
 (0:Int)<=x3/\x3<=((s34.c:Nat):Int)/\(0:Int)<=x3/\x3<=x3/\oz (λI35 n36=>I35 n36 (0) ⟨none,0,0⟩ w4) λI35 n36 aI4 km s39 kz=>
 Br (decide (km<((Aa:Nat):Int)))
 (eL (aI s34.a (0) Ab 4) km Aa/\uc kz (af (aI s34.a (0) Ab 4) ((km:Int).toNat*4)) λqU zp pk uN=>
 Aw kz B 157 λsI=>
 Sw sI kz #[qU,zp,pk,uN] λnA=>
 Aw nA #[zp,pk,uN] 41 λiw=>
 ba 24 3 iw s39 1 [zp,pk,uN]/\∀(s49:Sl)(qo:World),aX 41 3 iw s39 1 [zp,pk,uN] s49 qo->K2 kz nA iw qo (
 Lxm qo.drew C λm51=>
 ∃(G52:Value->Prop)(kvs53:List (Value × Value)),jh Tryz.prog 41 G52/\(m51:Option Nat).isSome=true/\bS G52 qo.drew m51 kvs53/\G52 (.agg #[zp,pk,uN])/\∀Ji:World,Rec ((m51:Option Nat).getD 0) qo.drew Ji->bS G52 Ji m51 (HV kvs53 (.agg #[zp,pk,uN]))->
 ∃n41,n41<n36/\I35 n41 ((aw (km+1))) s49 Ji))
 (kB kz A λs55=>
 ae 241 #[s55,ai,x3] kz (ua λs57 sJ=>(Pv sJ A 1 [s57] λEr=>
 R s39 Er)))))
 (kB w4 A λs59=>
 (0:Int)<=x3/\x3<=((s59.c:Nat):Int)/\(0:Int)<=x3/\x3<=x3/\oz (λI60 n61=>I60 n61 (0) ⟨none,0,0⟩ w4) λI60 n61 aI7 uQ s64 LY=>
 Br (decide (uQ<((Aa:Nat):Int)))
 (eL (aI s59.a (0) Ab 4) uQ Aa/\uc LY (af (aI s59.a (0) Ab 4) ((uQ:Int).toNat*4)) λoT qp wN ur=>
 Aw LY B 157 λw71=>
 Sw w71 LY #[oT,qp,wN,ur] λw72=>
 Aw w72 #[qp,wN,ur] 41 λIN=>
 ba 24 3 IN s64 1 [qp,wN,ur]/\∀(s74:Sl)(rC:World),aX 41 3 IN s64 1 [qp,wN,ur] s74 rC->K2 LY w72 IN rC (
 Lxm rC.drew C λm76=>
 ∃(G77:Value->Prop)(kvs78:List (Value × Value)),jh Tryz.prog 41 G77/\(m76:Option Nat).isSome=true/\bS G77 rC.drew m76 kvs78/\G77 (.agg #[qp,wN,ur])/\∀Ki:World,Rec ((m76:Option Nat).getD 0) rC.drew Ki->bS G77 Ki m76 (HV kvs78 (.agg #[qp,wN,ur]))->
 ∃n66,n66<n61/\I60 n66 ((aw (uQ+1))) s74 Ki))
 (kB LY A λs80=>
 ae 241 #[s80,ai,x3] LY (ua λs82 xq=>(Pv xq A 1 [s82] λXF=>
 R s64 XF))))) ((x3:Int).toNat-0) ((x3:Int).toNat) ((x3:Int).toNat*4)) (af (some a0) 2) #[ai,ai,ai,ai] (af (some a0) 3)):ae 172 #[a0,a1,a2] w R:=
 cq ⟨[(6,⟨[(45,.int .i64),(8,.slice)],[],[]⟩),(6,⟨[(45,.int .i64),(8,.slice)],[],[]⟩),(6,⟨[(45,.int .i64),(8,.slice)],[],[]⟩),(2,⟨[(7,.int .i64)],[],[]⟩)],[],[]⟩ func172 h
def HW.vc{a0:Addr}(h:(λA=>
 Aw w A 41 λw0=>
 Lxm w0.drew (af (some a0) 3) λm1=>
 ∃(G2:Value->Prop)(kvs3:List (Value × Value)),jh Tryz.prog 41 G2/\bS G2 w0.drew m1 kvs3/\G2 (.agg A)/\∃(x4:Int),∃b5:Bool,JD kvs3 (.agg A) (0:Int) x4 b5/\
 R (dS #[x4,b5]) w0.drew) #[aH,aG,aM]):ae 262 #[a0,.agg #[aH,aG,aM]] w R:=
 cq bG func262 h
def CP.vc{a0:Addr}(h:(λA B=>
 Aw w #[aH,aG,aM] 41 λw0=>
 Lxm w0.drew (af B 3) λm1=>
 ∃(G2:Value->Prop)(kvs3:List (Value × Value)),jh Tryz.prog 41 G2/\bS G2 w0.drew m1 kvs3/\G2 A/\∃(x4:Int),∃b5:Bool,JD kvs3 A (0:Int) x4 b5/\
 Br (!b5)
 (R false w0.drew)
 (Lxm w0.drew.drew (af B 3) λm6=>
 ∃(G7:Value->Prop)(kvs8:List (Value × Value)),jh Tryz.prog 41 G7/\(m6:Option Nat).isSome=true/\bS G7 w0.drew.drew m6 kvs8/\G7 A/\∀w9:World,Rec ((m6:Option Nat).getD 0) w0.drew.drew w9->bS G7 w9 m6 (HV kvs8 A)->
 kB w9 (af B 2) λIJ=>
 ae 286 #[IJ,.func (.func 287) #[] #[w]] w9 (ua λpj bw=>(Pv bw (af B 2) 1 [pj] λbP=>
 R true bP)))) (.agg #[aH,aG,aM]) (some a0)):ae 263 #[a0,.agg #[aH,aG,aM]] w R:=
 cq bG func263 h
def CM.vc{a0:Addr}(h:(λA B C=>
 Aw w B 157 λw0=>
 kB w0.drew A λs1=>
 ae 288 #[s1,.agg B,.func (.func 289) #[] #[]] w0.drew (Rx0 λx3 b4 w2=>Kp w w0.drew w2/\
 kB w2.drew A λs5=>
 Aw w2.drew B 157 λw6=>
 ae 292 #[s5,x3,.slice (aD w2.drew.heap.size) 1 1] w6 (Rs λs8 w7=>Kp w w6 w7/\
 (true=true/\Wr w7 A 1)/\bk A≠some w.heap.size/\(Pw w7 A [s8] λw9=>
 Lxm w9.drew (af (some a0) 3) λVL=>
 ∃(G11:Value->Prop)(kvs12:List (Value × Value)),jh Tryz.prog 41 G11/\(VL:Option Nat).isSome=true/\bS G11 w9.drew VL kvs12/\G11 C/\∀bP:World,Rec ((VL:Option Nat).getD 0) w9.drew bP->bS G11 bP VL (vo kvs12 C aH)->
 R ya bP)))) (af (some a0) 2) #[aH,aG,aM,dW] (.agg #[aG,aM,dW])):ae 264 #[a0,.agg #[aH,aG,aM,dW]] w R:=
 cq bG func264 h
def yg.vc{a0:Sl}(h:(λA B C D E=>
 (0:Int)<=A/\A<=E/\(0:Int)<=a2/\a2<=A/\(0:Int)<=a1/\a1<=a2/\Br (a1==a2)
 (R a0 w)
 ((0:Int)<=a1/\a1<=E/\(0:Int)<=a2/\a2<=A/\∃l0:LV,Rd w.drew (aI a0.a ((a2:Int).toNat) (a0.c) 4) l0/\ba 32 4 w.drew ⟨B,D,(a0.c-0)⟩ C l0/\∀(s1:Sl)(w2:World),aX 157 4 w.drew ⟨B,D,(a0.c-0)⟩ C l0 s1 w2->
 (0:Int)<=A/\A<=((s1.c:Nat):Int)/\(0:Int)<=((s1.n:Nat):Int)/\(((s1.n:Nat):Int):Int)<=A/\Wr w2 (aI s1.a ((((s1.n:Nat):Int):Int).toNat) (s1.c) 4) (((A:Int).toNat-(((s1.n:Nat):Int):Int).toNat)*4)/\(∀w3,w3=bF w2 (aI s1.a ((((s1.n:Nat):Int):Int).toNat) (s1.c) 4) (bh [ai,ai,ai,ai] ((A:Int).toNat-(((s1.n:Nat):Int):Int).toNat))->
 R s1 w3))) ((a0.n:Nat):Int) (aI a0.a (0) (a0.c) 4) (a0.n-(a2:Int).toNat) ((a1:Int).toNat-0) ((a0.c:Nat):Int)):ae 241 #[a0,a1,a2] w R:=
 cq bG func241 h
def Fa.vc{a0:Addr}{a1:Sl}(h:
 se (λI0 n1=>I0 n1 (0) (0) w) λI0 n1 zF x3 x4 w5=>
 Br (decide (x3<((a1.n:Nat):Int)))
 (eL a1.a x3 a1.n/\uc w5 (af a1.a ((x3:Int).toNat*4)) λx7 x8 x9 bE=>
 Aw w5 #[ai,ai,ai,ai] 157 λbw=>
 Sw bw w5 #[x7,x8,x9,bE] λcC=>
 ae 211 #[a0,.agg #[x8,x9,bE],x7] cC (Rb λb14 bP=>Kp w5 cC bP/\
 Br b14
 (∃n6,n6<n1/\I0 n6 ((aw (x3+1))) ((aw (x4+1))) bP)
 (∃n6,n6<n1/\I0 n6 ((aw (x3+1))) x4 bP)))
 (R x4 w5)):ae 148 #[a0,a1] w R:=
 cq (Yc 3 10 5) func148 h
def E2.vc{a0:Addr}(h:
 kB w (af (some a0) 2) λs0=>
 ae 191 #[s0] w (ua λs2 w1=>R s2 w1)):ae 138 #[a0] w R:=
 cq bG func138 h
def tc.vc{a0:Sl}{a1:Value}(h:(λA=>
 ae 304 #[a0,a1] w (kX λx1 w0=>Br (x1==(-1))
 (R a0 w0)
 (se (λI2 n3=>I2 n3 ((aw (x1+1))) x1 w0) λI2 n3 us4 x5 x6 w7=>(λAa Ab Ac Ad=>
 Br (decide (x5<A))
 (eL a0.a x5 a0.n/\uc w7 (af a0.a ((x5:Int).toNat*4)) λx9 bE bK bW=>
 Aw w7 #[ai,ai,ai,ai] 157 λbP=>
 Sw bP w7 #[x9,bE,bK,bW] λbH=>
 bB Tryz.prog a1 [.agg #[x9,bE,bK,bW]] bH (Rb λb16 ee=>Kp w7 bH ee/\
 Br (!b16)
 (eL a0.a x6 a0.n/\((Aa).isSome=true/\Wr ee Aa 4)/\bk Aa≠some w7.heap.size/\(Pw ee Aa [x9,bE,bK,bW] λcL=>
 ∃n8,n8<n3/\I2 n8 Ad ((aw (x6+1))) cL))
 (∃n8,n8<n3/\I2 n8 Ad x6 ee)))
 ((0:Int)<=x6/\x6<=A/\Wr w7 Ab (Ac*4)/\(∀dI,dI=bF w7 Ab (bh [ai,ai,ai,ai] Ac)->
 (0:Int)<=x6/\x6<=((a0.c:Nat):Int)/\R (Value.slice (aI a0.a (0) (a0.c) 4) ((x6:Int).toNat-0) (a0.c-0)) dI))) (af a0.a ((x6:Int).toNat*4)) (aI a0.a ((x6:Int).toNat) (a0.c) 4) (a0.n-(x6:Int).toNat) ((aw (x5+1)))))) ((a0.n:Nat):Int)):ae 286 #[a0,a1] w R:=
 cq (Yc 5 6 5) func286 h
def yV.vc{c0:Addr}(h:
 Aw w #[aE,au,aB,cw] 157 λw0=>
 gM w0 (some c0) λx1 x2 x3=>
 R (uD ((au==x1) &&((aB==x2) &&(cw==x3)))) w0):ae 287 #[.agg #[aE,au,aB,cw],c0] w R:=
 cq bG func287 h
def oD.vc{a0:Sl}{a2:Value}(h:(λA B C=>
 Aw w A 157 λw0=>
 se (λI1 n2=>aN B/\I1 n2 (0) (C) w0) λI1 n2 us3 x4 x5 w6=>(λAa=>
 Br (x4<x5)
 (eL a0.a Aa a0.n/\∃(x8 x9 bE bK:Int),ah w6.drew (af a0.a ((Aa:Int).toNat*4)) 0 [x8,x9,bE,bK]/\
 bB Tryz.prog a2 [.agg #[x8,x9,bE,bK],.agg A] w6.drew (Ri λcR cC=>Kp w w6.drew cC/\
 Br (cR<0)
 (∃n7,n7<n2/\aN B/\I1 n7 ((aw (Aa+1))) x5 cC)
 (∃n7,n7<n2/\aN B/\I1 n7 x4 (Aa) cC)))
 (Br (decide (x4<C))
 (eL a0.a x4 a0.n/\uc w6.drew (af a0.a ((x4:Int).toNat*4)) λcB cW du dH=>
 bB Tryz.prog a2 [.agg #[cB,cW,du,dH],.agg A] w6.drew (Ri λdb dI=>Kp w w6.drew dI/\
 R (dS #[x4,.bool (db==0)]) dI))
 (R (dS #[x4,false]) w6.drew))) (aw (((fR (aw (x4+x5))):Int).fdiv (2 ^(min (1:Int).toNat 64))))) #[aH,aG,aM,dW] [aH,aG,aM,dW] ((a0.n:Nat):Int)):ae 288 #[a0,.agg #[aH,aG,aM,dW],a2] w R:=
 cq (Yc 3 9 10) func288 h
def yW.vc(h:
 Aw w #[aE,au,aB,cw] 157 λw0=>
 Aw w0 #[aH,aG,aM,dW] 157 λw1=>
 ae 291 #[aE,aH] w1 (Ri λx3 w2=>K2 w w0 w1 w2 (
 Aw w2 #[x3,(-1:Int)] 3 λw4=>
 ae 290 #[.slice (aD w2) 2 2] w4 (Ri λx6 w5=>K2 w w0 w4 w5 (
 R x6 w5))))):ae 289 #[.agg #[aE,au,aB,cw],.agg #[aH,aG,aM,dW]] w R:=
 cq bG func289 h
def Vu.vc{a0:Sl}(h:
 sN (λI0 n1=>I0 n1 (0) w) λI0 n1 zF x3 w4=>
 Br (decide (x3<((a0.n:Nat):Int)))
 (eL a0.a x3 a0.n/\kW w4 (af a0.a ((x3:Int).toNat*1)) λx6=>
 Br (x6 !=0)
 (R x6 w4)
 (∃n5,n5<n1/\I0 n5 ((aw (x3+1))) w4))
 (R (0:Int) w4)):ae 290 #[a0] w R:=
 cq (Of 3 8) func290 h
def Ff.vc(h:
 ae 305 #[a0] w (EK λb1 w0=>ae 305 #[a1] w0 (EK λb3 w2=>(λAa Ab Ac=>Br b1
 (Br b3
 Ab
 Aa)
 (Br b3
 Ac
 (Br (a0<a1)
 Aa
 (Br (a0>a1)
 Ac
 Ab)))) (R (Value.int .i64 (-1)) w2) (R (0:Int) w2) (R (1:Int) w2)))):ae 291 #[a0,a1] w R:=
 cq bG func291 h
def yX.vc{a0:Sl}{a2:Sl}(h:(λA B C D E G H L M=>
 (0:Int)<=a1/\a1<=D/\Br ((M:Int)==0)
 (R a0 w)
 (Br (a1==D)
 (∃l0:LV,Rd w a2.a l0/\ba 32 4 w a0 a2.n l0/\∀(s1:Sl)(w2:World),aX 157 4 w a0 a2.n l0 s1 w2->
 R s1 w2)
 (Br (decide ((A:Int)>H))
 ((0:Int)<=a1/\a1<=H/\((0:Int)<=(aw (A-a1))/\aw (aw (A-a1))=(aw (A-a1))/\((aw (A-a1)):Int)*32<=281474976710656)/\ba 32 4 w ⟨C,(E.toNat-0),G⟩ ((aw (A-a1)):Int).toNat (bh L ((aw (A-a1)):Int).toNat)/\∀(s3:Sl)(w4:World),aX 157 4 w ⟨C,(E.toNat-0),G⟩ ((aw (A-a1)):Int).toNat (bh L ((aw (A-a1)):Int).toNat) s3 w4->
 (0:Int)<=a1/\a1<=((s3.n:Nat):Int)/\∃l5:LV,(l5.length=min a2.n (s3.n-E.toNat)*4/\Rd w4 a2.a l5/\One l5/\Wr w4 (aI s3.a (E.toNat) (s3.c) 4) l5.length)/\(∀w6,w6=bF w4 (aI s3.a (E.toNat) (s3.c) 4) l5->
 (0:Int)<=B/\B<=((s3.n:Nat):Int)/\(0:Int)<=a1/\a1<=D/\∃l7:LV,(l7.length=min (a0.n-E.toNat) (s3.n-(B:Int).toNat)*4/\Rd w6.drew (aI a0.a (E.toNat) (a0.c) 4) l7/\One l7/\Wr w6.drew (aI s3.a ((B:Int).toNat) (s3.c) 4) l7.length)/\(∀w8,w8=bF w6.drew (aI s3.a ((B:Int).toNat) (s3.c) 4) l7->
 R s3 w8)))
 ((0:Int)<=A/\A<=H/\(0:Int)<=B/\B<=((((A:Int).toNat-0):Nat):Int)/\adf Tryz.prog 306 [a2,.slice (aI C ((B:Int).toNat) (G) 4) (((A:Int).toNat-0)-(B:Int).toNat) (G-(B:Int).toNat)] w (EK λb10 w9=>Br (!b10)
 ((0:Int)<=B/\B<=((((A:Int).toNat-0):Nat):Int)/\(0:Int)<=a1/\a1<=((((A:Int).toNat-0):Nat):Int)/\∃l11:LV,(l11.length=min (((A:Int).toNat-0)-E.toNat) (((A:Int).toNat-0)-(B:Int).toNat)*4/\Rd w9.drew (aI C (E.toNat) (G) 4) l11/\One l11/\Wr w9.drew (aI C ((B:Int).toNat) (G) 4) l11.length)/\(∀cC,cC=bF w9.drew (aI C ((B:Int).toNat) (G) 4) l11->
 (0:Int)<=a1/\a1<=((((A:Int).toNat-0):Nat):Int)/\∃l13:LV,(l13.length=min a2.n (((A:Int).toNat-0)-E.toNat)*4/\Rd cC a2.a l13/\One l13/\Wr cC (aI C (E.toNat) (G) 4) l13.length)/\(∀bH,bH=bF cC (aI C (E.toNat) (G) 4) l13->
 R (Value.slice C ((A:Int).toNat-0) G) bH)))
 ((0:Int)<=D/\D<=((((A:Int).toNat-0):Nat):Int)/\∃l15:LV,(l15.length=min a2.n (((A:Int).toNat-0)-(D:Int).toNat)*4/\Rd w9 a2.a l15/\One l15/\Wr w9 (aI C ((D:Int).toNat) (G) 4) l15.length)/\(∀cD,cD=bF w9 (aI C ((D:Int).toNat) (G) 4) l15->
 (0:Int)<=a1/\a1<=((((A:Int).toNat-0):Nat):Int)/\ae 307 #[.slice (aI C (E.toNat) (G) 4) (((A:Int).toNat-0)-E.toNat) (G-E.toNat),M] cD (Rt λcL=>R (Value.slice C ((A:Int).toNat-0) G) cL)))))))) (aw (((a0.n:Nat):Int)+((a2.n:Nat):Int))) (aw (a1+((a2.n:Nat):Int))) (aI a0.a (0) (a0.c) 4) ((a0.n:Nat):Int) (a1:Int) (a0.c-0) ((a0.c:Nat):Int) [ai,ai,ai,ai] ((a2.n:Nat):Int)):ae 292 #[a0,a1,a2] w R:=
 cq bG func292 h
def Be.vc{a0:Sl}(h:
 Br (a0.a).isNone
 (R (Value.slice none 0 0) w)
 (Aw w #[] 157 λw0=>
 ∃l1:LV,Rd w0 a0.a l1/\ba 32 4 w0 ⟨(aD w),0,0⟩ a0.n l1/\∀(s2:Sl)(w3:World),aX 157 4 w0 ⟨(aD w),0,0⟩ a0.n l1 s2 w3->Kp w w0 w3/\
 R s2 w3)):ae 191 #[a0] w R:=
 cq bG func191 h
def uI.vc{a0:Sl}{a1:Value}(h:
 sN (λI0 n1=>I0 n1 (0) w) λI0 n1 zF x3 w4=>
 Br (decide (x3<((a0.n:Nat):Int)))
 (eL a0.a x3 a0.n/\uc w4 (af a0.a ((x3:Int).toNat*4)) λx6 x7 x8 x9=>
 bB Tryz.prog a1 [.agg #[x6,x7,x8,x9]] w4 (EK λb11 bo=>Br b11
 (R x3 bo)
 (∃n5,n5<n1/\I0 n5 ((aw (x3+1))) bo)))
 (R (Value.int .i64 (-1)) w4)):ae 304 #[a0,a1] w R:=
 cq (Of 2 8) func304 h
def JW.vc(h:
 R (uD (a0 !=a0)) w):ae 305 #[a0] w R:=
 cq bG func305 h
end Go.Proofs.YtkkkfkopcfdmaaaGreatDoor
namespace Go.Proofs.YtkkkfkopcfdmaaaGreatDoor.Q
open Go Go.Vc Go.RowKit Go.Proofs Go.ej
set_option maxRecDepth 100000
set_option maxHeartbeats 8000000
abbrev Ao:TypeId:=41
abbrev cF:TypeId:=157
abbrev kL:TypeId:=226
def GC(v:Value):Prop:=∃c:Cl,v=cv c
def A8:jh Tryz.prog Ao GC:=by
 refine ⟨?_,?_,?_⟩
 ·rintro x y ⟨a,rfl⟩ ⟨b,rfl⟩;refine ⟨a.1==b.1 &&(a.2.1==b.2.1 && a.2.2==b.2.2),by kernel_rfl,?_⟩;simp only [fk,beq_iff_eq];constructor
  ·rintro ⟨h1,h2,h3⟩;unfold cv;rw [h1,h2,h3]
  ·intro h;rw [HM h];simp
 ·rintro x ⟨a,rfl⟩ b w;kernel_rfl
 ·rintro x ⟨a,rfl⟩;simp [cv,Instr.sameBits]
def Ig(a:Int)(w:World):ae 305 #[a] w λe w'=>e=false/\w'=w:=by apply JW.vc;simp
def Nn(a b:Int)(w:World):ae 291 #[a,b] w λe w'=>e=Value.int .i64 (if a<b then -1 else if b<a then 1 else 0)/\w'=w:=by
 apply Ff.vc;refine (Ig a w).mono ?_;rintro e w1 ⟨rfl,rfl⟩;refine ⟨_,rfl,(Ig b w1).mono ?_⟩;rintro e w2 ⟨rfl,rfl⟩;refine ⟨_,rfl,Br.mk (λh=>by cases h) (λ_=>Br.mk (λh=>by cases h) (λ_=>Br.mk (λh=> ?_) (λh=>Br.mk (λh2=> ?_) (λh2=> ?_))))⟩
 ·replace h:=nh h;rw [if_pos h];exact ⟨rfl,rfl⟩
 ·simp only [cJ,fA] at h h2;rw [if_neg h,if_pos h2];exact ⟨rfl,rfl⟩
 ·simp only [fA] at h h2;rw [if_neg h,if_neg h2];exact ⟨rfl,rfl⟩
def aey(a b:Int)(g:Nat)(w:World)(hr:Row w g [a,b] 3):
  ae 290 #[.slice (aD g) 2 2] w λe w'=>e=Value.int .i64 (if a=0 then b else a)/\w'=w:=by
 apply (Vu.vc (a0:=⟨aD g,2,2⟩));refine ⟨λn x wr=>wr=w/\∃k:Nat,x=k/\k+n=2/\(1<=k->a=0)/\(2<=k->b=0),⟨2,rfl,0,rfl,rfl,aa,aa⟩,?_⟩;rintro n us x wr ⟨rfl,k,rfl,hk,h1,h2⟩;have hw:=aK (n:=(k:Int)+1) gA;rw [hw];apply Br.mk<;>intro h<;>simp only [cJ,fA] at h
 ·refine ⟨⟨rfl,aa,aa⟩,if k=0 then a else b,?_,Br.mk (λh3=> ?_) (λh3=> ?_)⟩
  ·show ld wr (af (aD g) _)=_;rw [aV,hr.ld];have:k=0\/k=1:=by simp at h;omega
   rcases this with rfl|rfl<;>rfl
  ·simp only [bne_iff_ne,ne_eq] at h3;have:k=0\/k=1:=by simp at h;omega
   rcases this with rfl|rfl
   ·rw [if_pos rfl] at h3 ⊢;rw [if_neg h3];exact ⟨rfl,rfl⟩
   ·rw [if_neg (show ¬((1:Nat)=0) by omega)] at h3 ⊢;rw [if_pos (h1 aa)];exact ⟨rfl,rfl⟩
  ·simp only [bne_eq_false_iff_eq] at h3;have:k=0\/k=1:=by simp at h;omega
   rcases this with rfl|rfl
   ·rw [if_pos rfl] at h3;exact ⟨n-1,aa,rfl,1,aa,aa,λ_=>h3,aa⟩
   ·rw [if_neg (show ¬((1:Nat)=0) by omega)] at h3;exact ⟨n-1,aa,rfl,2,aa,aa,λ_=>h1 aa,λ_=>h3⟩
 ·have:k=2:=by simp at h;omega
  subst this;rw [if_pos (h1 aa),h2 aa];exact ⟨rfl,rfl⟩
def Ie(x y:It)(w:World):ae 289 #[.agg (fJ x).toArray,.agg (fJ y).toArray] w λe w'=>(∃z:Int,e=z/\(z<0 ↔ x.1<=y.1))/\Ext w w':=by
 apply yW.vc;intro w0 e0 w1 e1;have x1:Ext w w1:=by rw [e1,e0];exact (Ext.al _ _).tr (Ext.al _ _)
 refine (Nn x.1 y.1 _).mono ?_;intro e w2 hh;obtain ⟨rfl,ew⟩:=hh;have x2:Ext w w2:=by rw [ew];exact x1
 refine ⟨_,rfl,by rw [ew],by rw [ew],?_⟩;intro w4 e4;have x4:Ext w w4:=x2.br e4;have c9:Row w4 w2 [.int .i64 (if x.1<y.1 then -1 else if y.1<x.1 then 1 else 0),(-1:Int)] 3:=by rw [e4];exact Row.new w2 [_,_] _
 refine (aey _ _ _ _ c9).mono ?_;intro e w5 hh;obtain ⟨rfl,ew5⟩:=hh;refine ⟨_,rfl,by rw [ew5],by rw [ew5],⟨_,rfl,?_⟩,by rw [ew5];exact x4⟩;by_cases h1:x.1<y.1
 ·rw [if_pos h1];simp;omega
 ·by_cases h2:y.1<x.1
  ·rw [if_neg h1,if_pos h2];simp;omega
  ·rw [if_neg h1,if_neg h2];simp;omega
def gk(l:List It):∀r ∈ l.map fJ,r.length=4:=by intro r hr;obtain ⟨x,_,rfl⟩:=aU.1 hr;rfl
def lM(l:List It):∀r ∈ l.map fJ,One r:=by intro r hr;obtain ⟨x,_,rfl⟩:=aU.1 hr;intro u hu;simp at hu;rcases hu with rfl|rfl|rfl|rfl<;>rfl
def ta(x:It):One (fJ x):=by intro u hu;simp at hu;rcases hu with rfl|rfl|rfl|rfl<;>rfl
def KH(l:List It)(i:Nat):(l.map fJ).flatten.take (i*4)=((l.take i).map fJ).flatten:=by
 have hw:=gk (l.take i);rcases jq i l.length with h|h
 ·conv=>lhs;rw [<-qM i l,bJ,DA]
  rw [GA (by rw [bA hw];simp;omega)]
 ·rw [fl h,fl];rw [bA (gk l)];simp;omega
def KI(l:List It)(i:Nat):(l.map fJ).flatten.drop (i*4)=((l.drop i).map fJ).flatten:=by
 rcases jq i l.length with h|h
 ·conv=>lhs;rw [<-qM i l,bJ,DA]
  rw [List.drop_left' (by rw [bA (gk _)];simp;omega)]
 ·rw [Aq h,Aq]
  ·rfl
  ·rw [bA (gk l)];simp;omega
def GD{cs:LV}{l:List It}{n:Nat}(ht:cs.take (n*4)=(l.map fJ).flatten)(hn:n=l.length)(i j:Nat)(hj:j<((l.drop i).map fJ).flatten.length):cs[i*4+j]? =((l.drop i).map fJ).flatten[j]? :=by rw [<-KI,xy,<-ht,rR,if_pos];rw [bA (gk _)] at hj;simp at hj;omega
def JO{w:World}{g g':Nat}{x cs:LV}(hx:Row w g x cF)(hr:Row w g' cs cF)(hZ:g≠g')(hc:cs.length≠0)(o:Nat)(la ca lb cb:Nat){R:Ending->World->Prop}(h:R (.returned (.bool false)) w):
  adf Tryz.prog 306 [.slice (aD g) la ca,.slice (fP g' o) lb cb] w R:=by
 refine ⟨_,⟨_,rfl,by kernel_rfl,by kernel_rfl,by kernel_rfl⟩,_,_,Lib.run_overlaps_apart w 153 0 cF (by kernel_rfl) 4 (λw=>by kernel_rfl) ⟨g,0,none⟩ ⟨g',o,none⟩ la ca lb cb hZ cF cF x.length cs.length ?_ ?_ hc ?_ ?_,h⟩
 ·simp [World.shape?,show w.heap[g]? =_ from hx]
 ·simp [World.shape?,show w.heap[g']? =_ from hr]
 ·simp [World.frozen?,show w.heap[g]? =_ from hx]
 ·simp [World.frozen?,show w.heap[g]? =_ from hx]
def HI{w:World}{g g':Nat}{x cs:LV}(hx:Row w g x cF)(hr:Row w g' cs cF)(hZ:g≠g')(hc:cs.length≠0){p:Option Addr}{o:Nat}(hp:p=some ⟨g',o,none⟩)(la ca lb cb:Nat){R:Ending->World->Prop}(h:R (.returned (.bool false)) w):
  adf Tryz.prog 306 [.slice (aD g) la ca,.slice p lb cb] w R:=by
 subst hp;exact JO hx hr hZ hc o la ca lb cb h
def Dz(n:Nat):bh [ai,ai,ai,ai] n=((List.replicate n ((0,0,0,0):It)).map fJ).flatten:=by unfold bh;simp
def QG{w:World}{s:Sl}{l:List It}{i g:Nat}{x:It}(ho:ar 0 cF 4 w s (l.map fJ))(hx:Row w g (fJ x) cF)(hi:i<=l.length)(hl:l.length<=5000)(hZ:s.aZ≠some g):
  ae 292 #[s,(i:Int),.slice (aD g) 1 1] w λe w'=>∃s':Sl,e=Value.slice s'.a s'.n s'.c/\ar 0 cF 4 w' s' ((l.take i++x::l.drop i).map fJ)/\Mod (λb=>s.aZ=some b) w w'/\(∀b,s'.aZ=some b->s.aZ=some b\/w.heap.size<=b):=by
 have hn:s.n=l.length:=by rw [(ho.rd aA).n,aL]
 apply yX.vc (a2:=⟨aD g,1,1⟩);have SZ:aw (((s.n:Nat):Int)+((1:Nat):Int))=((s.n+1:Nat):Int):=by rw [wI];omega
 have Df:aw ((i:Int)+((1:Nat):Int))=((i+1:Nat):Int):=by rw [wI];omega
 have L5:aw (((s.n+1:Nat):Int)-(i:Int))=((s.n+1-i:Nat):Int):=by rw [wI];omega
 have hw4:aw ((s.n+1-i:Nat):Int)=((s.n+1-i:Nat):Int):=wI;have hrx:Rd w (aD g) (fJ x):=hx.rd0 λj hj=>rfl
 dsimp only;rw [SZ,Df,L5,hw4];simp only [dQ,Nat.sub_zero,dz];refine ⟨aa,aa,Br.mk (λh=>by cases h) (λ_=>Br.mk (λh=> ?_) (λh=> ?_))⟩
 ·
  have he:i=l.length:=by simp at h;omega
  obtain ⟨hp,hr⟩:=ho.append (bytes:=32) (news:=fJ x) (gV _) rfl (ta x) aa aa;refine ⟨fJ x,hrx,hp,λs' w' bf=> ?_⟩;obtain ⟨h1,h2,h3,h4,h5⟩:=hr s' w' bf;refine ⟨s',rfl,?_,Mod.yb h3 h4,?_⟩
  ·rw [he,jg,List.drop_length,bJ];exact h1
  ·intro b hb;rcases h5 with h5|h5
   ·exact .inl (h5▸hb)
   ·rw [h5] at hb;cases hb;exact .inr (ak _)
 ·have iQ:i<l.length:=by
   have:i≠l.length:=λe=>by subst e;simp [hn] at h
   omega
  rcases ho.form aA with ⟨hs,Fi⟩|⟨g0,cs,ha,hg0,hr,hc,LU,ht,hn'⟩
  ·have:l=[]:=by simpa using Fi
   subst this;simp at iQ
  have ajv:g0≠g:=λe=>hZ (by unfold Sl.aZ;rw [ha,e];rfl)
  have iX:s.aZ=some g0:=by unfold Sl.aZ;rw [ha];rfl
  have xU:cs.take (i*4)=((l.take i).map fJ).flatten:=by rw [<-KH,<-ht,List.take_take,Nat.min_eq_left aa]
  rw [ha];apply Br.mk<;>intro h2
  ·
   replace h2:=nh h2;have aox:ar 0 cF 4 w ⟨aD g0,i,s.c⟩ ((l.take i).map fJ):=ar.jA (gV _) hr hc aa xU (gk _);obtain ⟨hp,-⟩:=aox.Jq (bytes:=32) (more:=(List.replicate (s.n+1-i) ((0,0,0,0):It)).map fJ) (gV _) (gk _) (lM _) tP tP;have dp:((List.replicate (s.n+1-i) ((0,0,0,0):It)).map fJ).length=s.n+1-i:=by simp
   rw [dp] at hp;rw [Dz];refine ⟨aa,aa,⟨aa,trivial,aa⟩,hp,λs3 w4 bf=> ?_⟩;generalize hz:((List.replicate (s.n+1-i) ((0,0,0,0):It)).map fJ).flatten=zs at bf;have Tc:zs.length=(s.n+1-i)*4:=by rw [<-hz,bA (gk _)];simp
   cases bf with
   |fits hf=>simp only at hf;omega
   |Dr hg gm rest cap q1 q2 q3 q4=>
    simp only at q1 q2 q3;have IF:gm=cs.take (i*4):=by
     refine Yk q2 (hr.rd0 (vs:=cs.take (i*4)) λj hj=> ?_) ?_
     ·rw [cY] at hj;rw [rR,if_pos aa]
     ·rw [q1,cY];omega
    have hR:Row (w.drew.alloc (.cells (gm++zs++rest).toArray cF)) w.heap.size (gm++zs++rest) cF:=Row.new w.drew _ _;generalize aB4:w.drew.alloc (.cells (gm++zs++rest).toArray cF)=w4 at hR;have x4:Ext w w4:=by rw [<-aB4];exact (Ext.dr w).tr (Ext.al _ _)
    have hr4:=hr.ext x4;have hlt0:=hr.lt;have hn3:i+(s.n+1-i)=s.n+1:=by omega
    have hCl:(s.n+1)*4<=(gm++zs++rest).length:=by rw [q4];exact vg _ aa
    dsimp only;rw [hn3];have hx4:=hx.ext x4;have ow:((l.drop i).map fJ).flatten.length=(s.n-i)*4:=by rw [bA (gk _)];simp;omega
    have hm1:min 1 (s.n+1-i)*4=4:=by
     have:min 1 (s.n+1-i)=1:=by omega
     rw [this]
    have Je:min (s.n-i) (s.n+1-(i+1))=s.n-i:=by omega
    obtain ⟨p1,p2,p3⟩:=hR.acC (vs:=fJ x) (l:=i) (m:=cap) (size:=4) (by intro e;omega) tP (ta x);refine ⟨aa,aa,fJ x,⟨hm1.symm,hx4.rd0 λj hj=>rfl,ta x,p1⟩,?_⟩;intro w6 e6;rw [<-e6] at p2 p3;have hr6:Row w6.drew g0 cs cF:=(p3.row hr4 aa).ext (Ext.dr _);have p2':Row w6.drew w _ cF:=p2.ext (Ext.dr _);obtain ⟨u1,u2,u3⟩:=p2'.acC (vs:=((l.drop i).map fJ).flatten) (l:=i+1) (m:=cap) (size:=4) (by intro e;rw [Aq aa];rfl) (by rw [ow,Go.Vc.di];omega) (gK (lM _));refine ⟨aa,aa,aa,aa,((l.drop i).map fJ).flatten,⟨by rw [Je,ow],hr6.ak6 (by intro e;rw [Aq aa];rfl) (GD ht hn i),gK (lM _),u1⟩,?_⟩;intro w8 e8;rw [<-e8] at u2 u3;refine ⟨⟨aD w.heap.size,s.n+1,cap⟩,rfl,ar.jA (gV _) u2 (by rw [Go.Vc.di,Go.Vc.di,q4];exact ak _) aa ?_ (gk _),?_,?_⟩
    ·rw [aeq tP (by rw [ow];omega) hCl,fz,fz,GA (by rw [q1]),IF,xU];simp
    ·refine ((Mod.aC x4).tr p3 (λb hb=> .inr aa)).tr (F':=λb=>b=w.heap.size) ?_ (λb hb=> .inr aa);exact (Mod.aC (Ext.dr _)).trans u3
    ·intro b hb;have:w.heap.size=b:=by simpa [Sl.aZ] using hb
     exact .inr aa
  ·
   replace h2:=nC h2;have hCl:(s.n+1)*4<=cs.length:=gG (vg _ aa) hc;have ow:((l.drop i).map fJ).flatten.length=(s.n-i)*4:=by rw [bA (gk _)];simp;omega
   refine ⟨aa,aa,aa,aa,?_⟩;refine HI hx hr (Ne.symm ajv) aa (by rw [tf,if_neg aa]) _ _ _ _ ⟨_,rfl,Br.mk (λ_=> ?_) (λh=>by cases h)⟩;have Je:min (s.n+1-i) (s.n+1-(i+1))=s.n-i:=by omega
   have hm1:min 1 (s.n+1-i)*4=4:=by
    have:min 1 (s.n+1-i)=1:=by omega
    rw [this]
   have hr':=hr.ext (Ext.dr w);obtain ⟨u1,u2,u3⟩:=hr'.acC (vs:=((l.drop i).map fJ).flatten) (l:=i+1) (m:=s.c) (size:=4) (by intro e;omega) (by rw [ow];omega) (gK (lM _));refine ⟨aa,aa,aa,aa,((l.drop i).map fJ).flatten,⟨by rw [Je,ow],hr'.ak6 (by intro e;omega) (GD ht hn i),gK (lM _),u1⟩,?_⟩;intro cC Fy;rw [<-Fy] at u2 u3;obtain ⟨p1,p2,p3⟩:=u2.acC (vs:=fJ x) (l:=i) (m:=s.c) (size:=4) (by intro e;omega) (by rw [Go.Vc.di];simp;omega) (ta x);have aB5:Row cC g (fJ x) cF:=u3.row (hx.ext (Ext.dr w)) (Ne.symm ajv);refine ⟨aa,aa,fJ x,⟨hm1.symm,aB5.rd0 λj hj=>rfl,ta x,p1⟩,?_⟩;intro bH uU;rw [<-uU] at p2 p3;refine ⟨⟨aD g0,s.n+1,s.c⟩,rfl,ar.jA (gV _) p2 (by rw [Go.Vc.di,Go.Vc.di];exact hc) aa ?_ (gk _),?_,?_⟩
   ·rw [aad tP (by rw [ow];omega) hCl,xU];simp
   ·refine (((Mod.aC (Ext.dr w)).trans u3).trans p3).mono λb _ hb=> ?_
    rw [iX,hb]
   ·intro b hb;exact .inl (iX.trans hb)
def RdK.item{w:World}{s:Sl}{l:List It}(h:RdK w s 4 (l.map fJ)){i:Nat}{x:It}(hi:l[i]? =some x):ah w (af s.a (i*4)) 0 (fJ x):=
 h.bI (by rw [aS,hi];rfl)
def adF{w:World}{s:Sl}{l:List It}(x:It)(h:RdK w s 4 (l.map fJ))(hs:l.Pairwise λa b=>a.1<=b.1)(hl:l.length<=5000):
  ae 288 #[s,.agg (fJ x).toArray,.func (.func 289) #[] #[]] w λe w'=>(∃b,e=Value.tuple #[.int .i64 ((l.takeWhile λy=>y.1<=x.1).length:Nat),.bool b])/\Ext w w':=by
 have hn:s.n=l.length:=by rw [h.n,aL]
 apply oD.vc;intro w0 e0;have x0:=aQ e0;have Dp:w0.heap.size=w.heap.size+1:=by rw [e0];simp [World.alloc_eq]
 have hk:(l.takeWhile λy=>decide (y.1<=x.1)).length<=l.length:=(List.takeWhile_sublist _).length_le;generalize hkk:(l.takeWhile λy=>decide (y.1<=x.1)).length=k at hk;have Jc:∀{i:Nat} {y:It},l[i]? =some y->(i<k ↔ y.1<=x.1):=λhi=>by rw [<-hkk];exact Bb hs x.1 hi
 refine ⟨λn a b wr=>Ext w0 wr/\∃lo hi:Nat,a=lo/\b=hi/\lo<=k/\k<=hi/\hi<=l.length/\n=hi-lo,⟨_,rfl,Ext.cG _,0,s.n,rfl,rfl,gV _,aa,aa,rfl⟩,?_⟩;rintro n us a b wr ⟨xr,lo,hi,rfl,rfl,h1,h2,h3,rfl⟩;refine Br.mk (λiQ=> ?_) (λNy=> ?_)<;>simp only [cJ,fA] at*
 ·rw [al3 aa];have atL:(lo+hi) / 2<l.length:=by omega
  have eI:l[(lo+hi) / 2]? =some l[(lo+hi) / 2]:=cX atL;generalize l[(lo+hi) / 2]=y at eI;have hr:=(h.ext (x0.tr xr)).ext (Ext.dr wr);have hsz:=xr.size;refine ⟨⟨?_,aa,aa⟩,y.1,y.2.1,y.2.2.1,y.2.2.2,RdK.item hr eI,?_⟩
  ·exact h.isSome aA (i:=(lo+hi) / 2) (by simpa using atL)
  refine cH (by kernel_rfl) rfl ((Ie y x _).mono ?_);rintro e w2 ⟨⟨z,rfl,hz⟩,x2⟩;have hz':=(Jc eI).trans hz.symm;have x3:=(xr.tr (Ext.dr wr)).tr x2;refine ⟨z,rfl,(x2.heap ?_),Br.mk (λhb=> ?_) (λhb=> ?_)⟩
  ·show w.heap.size<wr.heap.size;omega
  ·replace hb:=nh hb;have:=hz'.2 hb;have hw:aw ((((lo+hi) / 2:Nat):Int)+1)=(((lo+hi) / 2+1:Nat):Int):=by rw [wI];omega
   rw [hw];exact ⟨_,aa,trivial,x3,(lo+hi) / 2+1,hi,rfl,rfl,aa,h2,h3,rfl⟩
  ·replace hb:=nC hb;have:¬(lo+hi) / 2<k:=λh=>hb (hz'.1 h)
   exact ⟨_,aa,trivial,x3,lo,(lo+hi) / 2,rfl,rfl,h1,aa,aa,rfl⟩
 ·have:lo=k:=by omega
  subst this;have hr:=(h.ext (x0.tr xr)).ext (Ext.dr wr);have hsz:=xr.size;refine Br.mk (λhb=> ?_) (λhb=>⟨⟨_,rfl⟩,x0.tr (xr.tr (Ext.dr _))⟩);replace hb:=nh hb;have eI:l[lo]? =some (l[lo]'aa):=cX aa;generalize l[lo]'aa=y at eI;refine ⟨⟨h.isSome aA (i:=lo) tP,aa,aa⟩,y.1,y.2.1,y.2.2.1,y.2.2.2,RdK.item hr eI,?_⟩;refine cH (by kernel_rfl) rfl ((Ie y x _).mono ?_);rintro e w2 ⟨⟨z,rfl,hz⟩,x2⟩;refine ⟨z,rfl,x2.heap (show w.heap.size<wr by omega),⟨_,rfl⟩,(x0.tr (xr.tr (Ext.dr wr))).tr x2⟩
def GB(x:It){b:Nat}{c:Cl}{w:World}(hb:Row w b (dZ c) Ao):ae 287 #[.agg (fJ x).toArray,b] w λe w'=>e=Value.bool (x.2==c)/\Ext w w':=by apply yV.vc;intro w0 e0;have x0:=aQ e0;exact ⟨c.1,c.2.1,c.2.2,(hb.ext x0).bI (λj hj=>by rw [eC]),rfl,x0⟩
def yf{w:World}{s:Sl}{l:List It}{b:Nat}{c:Cl}(h:RdK w s 4 (l.map fJ))(hb:Row w b (dZ c) Ao)(hl:l.length<=5000):
  ae 304 #[s,.func (.func 287) #[] #[b]] w λe w'=>(∃i:Int,e=i/\((i= -1/\∀x ∈ l,x.2≠c)\/∃k:Nat,i=k/\k<l.length/\(∀x ∈ l.take k,x.2≠c)/\∀x,l[k]? =some x->x.2=c))/\Ext w w':=by
 have hn:s.n=l.length:=by rw [h.n,aL]
 apply uI.vc;refine ⟨λn a wr=>Ext w wr/\∃k:Nat,a=k/\k+n=l.length/\(∀x ∈ l.take k,x.2≠c),⟨l.length,Ext.cG _,0,rfl,aa,bg⟩,?_⟩;rintro n us a wr ⟨xr,k,rfl,h1,h2⟩;refine Br.mk (λiQ=> ?_) (λNy=> ?_)<;>simp only [cJ,fA] at*
 ·have eI:l[k]? =some (l[k]'aa):=cX aa;generalize l[k]'aa=y at eI;refine ⟨⟨h.isSome aA (i:=k) tP,aa,aa⟩,y.1,y.2.1,y.2.2.1,y.2.2.2,RdK.item (h.ext xr) eI,?_⟩;refine cH (by kernel_rfl) rfl ((GB y (hb.ext xr)).mono ?_);rintro e w2 ⟨rfl,x2⟩;refine ⟨_,rfl,Br.mk (λhb=> ?_) (λhb=> ?_)⟩
  ·refine ⟨⟨_,rfl,.inr ⟨k,rfl,aa,h2,λx hx=> ?_⟩⟩,xr.tr x2⟩;rw [eI] at hx;cases hx;simpa using hb
  ·have hw:=ov (j:=k);rw [hw];refine ⟨n-1,aa,xr.tr x2,k+1,rfl,aa,λx hx=> ?_⟩;rw [dy,eI] at hx;rcases bX.1 hx with hx|hx
   ·exact h2 x hx
   ·simp at hx;subst hx;simpa using hb
 ·refine ⟨⟨_,rfl,.inl ⟨rfl,?_⟩⟩,xr⟩;rw [fl aa] at h2;exact h2
def Gz{w:World}{s:Sl}{l:List It}(ho:ar 0 cF 4 w s (l.map fJ)){i:Nat}(hi:i<=l.length):
  Wr w (aI s.a i s.c 4) ((s.n-i)*4)/\∀w',w'=bF w (aI s.a i s.c 4) (bh [ai,ai,ai,ai] (s.n-i))->
   ar 0 cF 4 w' ⟨s.a,i,s.c⟩ ((l.take i).map fJ)/\Mod (λb=>s.aZ=some b) w w':=by
 have hn:s.n=l.length:=by rw [(ho.rd aA).n,aL]
 rw [Dz];rcases ho.form aA with ⟨hs,Fi⟩|⟨g0,cs,ha,hg0,hr,hc,LU,ht,hn'⟩
 ·have:l=[]:=by simpa using Fi
  subst this;have:i=0:=by simpa using hi
  subst this;subst hs;refine ⟨λj hj=>by simp at hj,λw' e=> ?_⟩;have:w'=w:=by rw [e];rfl
  subst this;exact ⟨ar.nil,Mod.refl _ _⟩
 ·have iX:s.aZ=some g0:=by unfold Sl.aZ;rw [ha];rfl
  have Tc:((List.replicate (s.n-i) ((0,0,0,0):It)).map fJ).flatten.length=(s.n-i)*4:=by rw [bA (gk _)];simp
  have Ta:s.n*4<=cs.length:=gG (vg _ LU) hc;rw [ha];have hz0:s.c=i->((List.replicate (s.n-i) ((0,0,0,0):It)).map fJ).flatten=[]:=λe=>by
   have:s.n-i=0:=by omega
   rw [this];rfl
  obtain ⟨p1,p2,p3⟩:=hr.acC (l:=i) (m:=s.c) (size:=4) hz0 (by rw [Tc];omega) (gK (lM _));rw [Tc] at p1;refine ⟨p1,λw' e=> ?_⟩;rw [<-e] at p2 p3;refine ⟨ar.jA (gV _) p2 (by rw [Go.Vc.di];exact hc) aa ?_ (gk _),p3.mono λb _ hb=>by rw [iX,hb]⟩;rw [de _ _ _ (by rw [Tc];omega),fz,GA (by rw [cY];omega),<-KH,<-ht,List.take_take,Nat.min_eq_left aa]
def acD{w:World}{s:Sl}{l:List It}(ho:ar 0 cF 4 w s (l.map fJ)){i:Nat}(hi:i<l.length)(x:It):
  (af s.a (i*4)).isSome=true/\Wr w (af s.a (i*4)) 4/\∀w',w'=bF w (af s.a (i*4)) (fJ x)->ar 0 cF 4 w' s ((l.set i x).map fJ)/\Mod (λb=>s.aZ=some b) w w':=by
 obtain ⟨h1,h2,h3,h4,h5⟩:=ho.put (i:=i) (r:=fJ x) (by simpa using hi) aA rfl (ta x);refine ⟨h1,h2,λw' e=> ?_⟩;subst e;exact ⟨by rw [jY];exact h3,h4.os,h4.tape,h4.output,h4.size,λj _ hn=>h5 j hn⟩
def Ex{w:World}{s:Sl}{l:List It}{b:Nat}{c:Cl}(ho:ar 0 cF 4 w s (l.map fJ))(hb:Row w b (dZ c) Ao)(hl:l.length<=5000):
  ae 286 #[s,.func (.func 287) #[] #[.pointer (some ⟨b,0,none⟩)]] w λe w'=>∃s':Sl,e=s'/\ar 0 cF 4 w' s' ((iU l c).map fJ)/\Mod (λb=>s.aZ=some b) w w'/\s'.aZ=s.aZ:=by
 have hn:s.n=l.length:=by rw [(ho.rd aA).n,aL]
 have Tf:s.aZ≠some b:=λe=>by
  rcases ho.form aA with ⟨hs,Fi⟩|⟨g0,cs,ha,hg0,hr,hc,LU,ht,hn'⟩
  ·rw [hs] at e;cases e
  ·have:g0=b:=by unfold Sl.aZ at e;rw [ha] at e;simpa using e
   exact hr.ne hb aA this
 apply tc.vc;refine (yf (ho.rd aA) hb hl).mono ?_;rintro e w1 ⟨⟨i,rfl,hi⟩,x1⟩;refine ⟨i,rfl,Br.mk (λh=> ?_) (λh=> ?_)⟩
 ·have hm:i= -1:=by simpa using h
  rcases hi with ⟨-,m4⟩|⟨k,hk,-⟩
  ·refine ⟨s,rfl,?_,Mod.aC x1,rfl⟩;have:iU l c=l:=by unfold iU;rw [Pa];intro x hx;simpa using m4 x hx
   rw [this];exact ho.ext x1
  ·omega
 ·have hm:i≠-1:=by simpa using h
  rcases hi with ⟨hi,-⟩|⟨k,rfl,hk,awT,hkc⟩
  ·exact absurd hi hm
  have hw:=ov (j:=k);have hq:iU (l.take (k+1)) c=l.take k:=by
   unfold iU;rw [dy,tV];have e1:(l.take k).filter (λx=>x.2 !=c)=l.take k:=by rw [Pa];intro x hx;simpa using awT x hx
   have eI:l[k]? =some (l[k]'hk):=cX hk;have:=hkc _ eI;rw [e1,eI];simp [this]
  refine ⟨λn a d wr=>Mod (λb=>s.aZ=some b) w wr/\∃(j m:Nat)(l':List It),a=j/\d=m/\j+n=l.length/\m<j/\m=(iU (l.take j) c).length/\ar 0 cF 4 wr s (l'.map fJ)/\l'.length=l.length/\l'.take m=iU (l.take j) c/\l'.drop j=l.drop j,⟨l.length-(k+1),Mod.aC x1,k+1,k,l,hw,rfl,aa,aa,?_,ho.ext x1,rfl,hq.symm,rfl⟩,?_⟩
  ·rw [hq,cY];omega
  rintro n us a d wr ⟨rj,j,m,l',rfl,rfl,h1,h2,h3,ho',h4,h5,h6⟩;have hbr:Row wr b (dZ c) Ao:=rj.row hb Tf;refine Br.mk (λiQ=> ?_) (λNy=> ?_)
  ·replace iQ:=nh iQ;have eI:l[j]? =some (l[j]'aa):=cX aa;generalize l[j]'aa=y at eI;have aq1:l'[j]? =some y:=by have:=congrArg (λq:List It=>q[0]?) h6;simpa [xy,eI] using this
   refine ⟨⟨(ho'.rd aA).isSome aA (i:=j) tP,aa,aa⟩,y.1,y.2.1,y.2.2.1,y.2.2.2,RdK.item (ho'.rd aA) aq1,?_⟩;intro bP Fj bH uU;have cB:Ext wr bH:=(Ext.cG wr|>.br Fj).ab uU (ak _);have amp:wr.heap.size<bH:=by rw [uU,setRow_size,Fj];simp
   refine cH (by kernel_rfl) rfl ((GB y (hbr.ext cB)).mono ?_);rintro e w2 ⟨rfl,x2⟩;have x3:=cB.tr x2;have hwj:=ov (j:=j);have hwm:=ov (j:=m);have hqj:iU (l.take (j+1)) c=iU (l.take j) c++(if y.2=c then [] else [y]):=by unfold iU;rw [dy,eI,tV];congr 1;by_cases hy:y.2=c<;>simp [hy]
   refine ⟨_,rfl,x2.heap amp,Br.mk (λj8=> ?_) (λj8=> ?_)⟩
   ·have hy:y.2≠c:=by simpa using j8
    obtain ⟨p1,p2,p3⟩:=acD (ho'.ext x3) (i:=m) aa y;refine ⟨⟨(ho'.rd aA).isSome aA (i:=m) tP,aa,aa⟩,⟨p1,p2⟩,?_,?_⟩
    ·rw [cP];intro e;have:=ho'.own.lt (g:=wr.heap.size) e;omega
    ·intro cL BX;obtain ⟨q1,q2⟩:=p3 cL BX;rw [hwj,hwm];refine ⟨n-1,aa,(rj.trans (Mod.aC x3)).trans q2,j+1,m+1,l'.set m y,rfl,rfl,aa,aa,?_,q1,by rw [iE,h4],?_,?_⟩
     ·rw [hqj,if_neg hy,bQ,<-h3];rfl
     ·rw [hqj,if_neg hy,<-h5,dy,List.take_set_of_le (ak _),oM aa];rfl
     ·rw [List.drop_set_of_lt aa];have:=congrArg (List.drop 1) h6;simpa [List.drop_drop] using this
   ·have hy:y.2=c:=by simpa using j8
    rw [hwj];refine ⟨n-1,aa,rj.trans (Mod.aC x3),j+1,m,l',rfl,rfl,aa,aa,?_,ho'.ext x3,h4,?_,?_⟩
    ·rw [hqj,if_pos hy,mA];exact h3
    ·rw [hqj,if_pos hy,mA];exact h5
    ·have:=congrArg (List.drop 1) h6;simpa [List.drop_drop] using this
  ·replace Ny:=nC Ny;have hj:j=l.length:=by omega
   have aa3:=(ho'.form aA);have LU:s.n<=s.c:=by
    rcases aa3 with ⟨hs,-⟩|⟨g0,cs,ha,hg0,hr,hc,LU,ht,hn'⟩
    ·rw [hs];exact ak _
    ·exact LU
   obtain ⟨p1,p2⟩:=Gz ho' (i:=m) aa;refine ⟨aa,aa,p1,λdI e18=> ?_⟩;obtain ⟨q1,q2⟩:=p2 dI e18;refine ⟨aa,aa,⟨s.a,m,s.c⟩,?_,?_,rj.trans q2,rfl⟩
   ·rw [dz];rfl
   ·rw [h5,hj,jg] at q1;exact q1
def Pm{w:World}{s:Sl}{l:List It}{n:Nat}(ho:ar 0 cF 4 w s (l.map fJ))(hi:n<=l.length)(hl:l.length<=5000):
  ae 241 #[s,ai,(n:Int)] w λe w'=>∃s':Sl,e=s'/\ar 0 cF 4 w' s' ((l.drop n).map fJ)/\Mod (λb=>s.aZ=some b) w w'/\s'.aZ=s.aZ:=by
 have hn:s.n=l.length:=by rw [(ho.rd aA).n,aL]
 have LU:s.n<=s.c:=by
  rcases ho.form aA with ⟨hs,-⟩|⟨g0,cs,ha,hg0,hr,hc,LU,ht,hn'⟩
  ·rw [hs];exact ak _
  ·exact LU
 apply yg.vc;refine ⟨aa,aa,aa,aa,aa,aa,Br.mk (λh=> ?_) (λh=> ?_)⟩
 ·have:n=0:=by
   have:(0:Int)=n:=by simpa using h
   omega
  subst this;exact ⟨s,rfl,ho,Mod.refl _ _,rfl⟩
 ·have Dc:0<n:=by
   have:(0:Int)≠n:=by simpa using h
   omega
  rcases ho.form aA with ⟨hs,Fi⟩|⟨g0,cs,ha,hg0,hr,hc,LU,ht,hn'⟩
  ·have:l=[]:=by simpa using Fi
   subst this;simp at hi;omega
  have iX:s.aZ=some g0:=by unfold Sl.aZ;rw [ha];rfl
  have ow:((l.drop n).map fJ).flatten.length=(s.n-n)*4:=by rw [bA (gk _)];simp;omega
  have Ta:s.n*4<=cs.length:=gG (vg _ LU) hc;have hr':=hr.ext (Ext.dr w);simp only [dQ,Nat.sub_zero,dz,Int.toNat_zero];rw [ha];refine ⟨aa,aa,aa,aa,((l.drop n).map fJ).flatten,?_,?_,?_⟩
  ·exact hr'.ak6 (by intro e;rw [Aq aa];rfl) (GD ht hn n)
  ·refine ⟨λ_=> ?_,λh=> ?_,λh=> ?_,ow,gK (lM _)⟩
   ·show Wr _ (af (aD g0) (0*4)) _;rw [aV];exact hr'.wr (by rw [ow];omega)
   ·simp only at h;omega
   ·simp only at h;omega
  ·intro s1 w2 bf
   cases bf with
   |Dr hg=>simp only at hg;omega
   |fits hf=>
    dsimp only;have e0:af (some (⟨g0,0,none⟩:Addr)) (0*4)=aD g0:=by rw [aV]
    rw [e0];have ph:=hr'.bF (o:=0) (vs:=((l.drop n).map fJ).flatten) (by rw [ow];omega) (gK (lM _));have oS:Row (Go.Vc.bF w.drew (aD g0) ((l.drop n).map fJ).flatten) g0 (aP cs 0 ((l.drop n).map fJ).flatten) cF:=by rw [ph];exact hr'.set _
    have Je:Mod (λi=>i=g0) w (Go.Vc.bF w.drew (aD g0) ((l.drop n).map fJ).flatten):=by rw [ph];exact (Mod.aC (Ext.dr w)).trans ⟨rfl,rfl,rfl,by rw [setRow_size];exact ak _,λi _ hn=>setRow_other _ _ _ _ hn⟩
    generalize Go.Vc.bF w.drew (aD g0) ((l.drop n).map fJ).flatten=w2 at oS Je;have hz:0+(s.n-n)=s.n-n:=by omega
    rw [hz];have sH:ar 0 cF 4 w2 ⟨aD g0,s.n,s.c⟩ ((l.drop n++l.drop (l.length-n)).map fJ):=by refine ar.jA (gV _) oS (by rw [Go.Vc.di];exact hc) LU ?_ (gk _);rw [de _ _ _ (by rw [ow];omega),bJ,DA,DB,Pn];rw [List.take_append,fl (by rw [ow];omega),ow,eC,<-KI l (l.length-n),<-ht];congr 1;rw [List.drop_take,hn]
    obtain ⟨p1,p2⟩:=Gz sH (i:=s.n-n) tP;have hnn:((s.n:Nat):Int).toNat-(((s.n-n:Nat):Nat):Int).toNat=s.n-(s.n-n):=by omega
    refine ⟨aa,aa,aa,aa,p1,λw3 e3=> ?_⟩;obtain ⟨q1,q2⟩:=p2 w3 e3;refine ⟨⟨aD g0,s.n-n,s.c⟩,rfl,?_,?_,iX.symm⟩
    ·rw [GA tP] at q1;exact q1
    ·refine (Je.mono λb _ hb=>by rw [iX,hb]).trans (q2.mono λb _ hb=> ?_);have:g0=b:=by simpa [Sl.aZ] using hb
     rw [iX,this]
def g7(g m:Nat)(s:Sl):Nat->Prop:=λi=>i=g\/i=m\/s.aZ=some i
abbrev CN(q:QS)(s:Sl)(m:Nat):LV:=[.int .i64 q.room,.int .i64 q.lost,.slice s.a s.n s.c,.map (some m)]
def qP(kvs:List (Value × Value))(l:List It):Prop:=(∀c t,(cv c,tv t) ∈ kvs ↔(t,c) ∈ l)/\∀e ∈ kvs,∃c t,e=(cv c,tv t)
structure uC(w:World)(g m:Nat)(s:Sl)(q:QS):Prop where
 row:Row w g (CN q s m) kL
 own:ar 0 cF 4 w s (q.l.map fJ)
 map:∃kvs,bS GC w (some m) kvs/\qP kvs q.l
def uC.dA{w:World}{g m:Nat}{s:Sl}{q:QS}(h:uC w g m s q){b:Nat}{cs:LV}{E:TypeId}(hb:Row w b cs E)(h1:E≠kL)(h2:E≠cF):¬g7 g m s b:=by
 rintro (rfl|rfl|e)
 ·exact hb.ne h.row h1 rfl
 ·obtain ⟨kvs,hm,-⟩:=h.map;exact hb.fY hm rfl
 ·obtain ⟨cs',hr⟩:=aY h.own aA e;exact hb.ne hr h2 rfl
def uC.adV{w:World}{g m:Nat}{s:Sl}{q:QS}(h:uC w g m s q){B E k:Nat}{s':Sl}{rows:List (LV)}(ho:ar B E k w s' rows)(hk:0<k)(h1:E≠kL)(h2:E≠cF):∀b,s'.aZ=some b->¬g7 g m s b:=λb hb=>by
 obtain ⟨cs,hr⟩:=aY ho hk hb
 exact h.dA hr h1 h2
def uC.lt{w:World}{g m:Nat}{s:Sl}{q:QS}(h:uC w g m s q):∀i,g7 g m s i->i<w.heap.size:=by
 rintro i (rfl|rfl|e)
 ·exact h.row.lt
 ·obtain ⟨kvs,hm,-⟩:=h.map;exact hm.lt
 ·exact (h.own.own.lt e).2
def uC.aW{w w':World}{g m:Nat}{s:Sl}{q:QS}(h:uC w g m s q){F:Nat->Prop}(hm:Mod F w w')(hn:∀i,g7 g m s i->¬F i):uC w' g m s q:=by obtain ⟨kvs,h1,h2⟩:=h.map;exact ⟨hm.row h.row (hn g (.inl rfl)),hm.gU h.own λb hb=>hn b (.inr (.inr hb)),kvs,hm.map h1 (hn m (.inr (.inl rfl))),h2⟩
def uC.ext{w w':World}{g m:Nat}{s:Sl}{q:QS}(h:uC w g m s q)(x:Ext w w'):uC w' g m s q:=
 h.aW (F:=λ_=>False) ⟨x.os,x.tape,x.output,x.size,λi hi _=>x.heap hi⟩ λ_ _ hf=>hf
def uC.yH{w:World}{g m:Nat}{s:Sl}{q:QS}(h:uC w g m s q):g≠m:=by obtain ⟨kvs,hm,-⟩:=h.map;exact h.row.fY hm
def uC.CO{w:World}{g m:Nat}{s:Sl}{q:QS}(h:uC w g m s q):s.aZ≠some m:=λe=>by
 obtain ⟨kvs,hm,-⟩:=h.map
 obtain ⟨cs,hr⟩:=aY h.own aA e
 exact hr.fY hm rfl
def uC.MW{w:World}{g m:Nat}{s:Sl}{q:QS}(h:uC w g m s q):s.aZ≠some g:=λe=>by
 obtain ⟨cs,hr⟩:=aY h.own aA e
 exact hr.ne h.row aA rfl
def qP.look{kvs:List (Value × Value)}{l:List It}(h:qP kvs l)(hn:(l.map (·.2)).Nodup)(c:Cl):JD kvs (cv c) (tv 0) (tv ((nV l c).getD 0)) (nV l c).isSome:=by
 cases hq:nV l c with
 |some t=>exact .inl ⟨rfl,(h.1 c t).2 (yJ hq)⟩
 |none=>
  refine .inr ⟨rfl,rfl,λe he hk=> ?_⟩;obtain ⟨c',t,rfl⟩:=h.2 e he;exact tC hq (t,c') ((h.1 _ _).1 he) (HM hk)
open Classical in
def qP.del{kvs:List (Value × Value)}{l:List It}(h:qP kvs l)(c:Cl):qP (HV kvs (cv c)) (iU l c):=by
 refine ⟨λc' t=> ?_,λe he=>h.2 e (ju.1 he).1⟩;unfold HV iU;rw [ju,ju,h.1];refine and_congr_right λ_=> ?_
 rw [bne_iff_ne];refine decide_eq_true_iff.trans ?_;exact not_congr ⟨λe=>HM e,λe=>by rw [show c'=c from e]⟩
def qP.ins{kvs:List (Value × Value)}{l:List It}(h:qP kvs l){x:It}(hx:∀y ∈ l,y.2≠x.2):qP (vo kvs (cv x.2) (tv x.1)) (uB l x):=by
 unfold vo;rw [if_neg]
 ·refine ⟨λc t=> ?_,λe he=> ?_⟩
  ·rw [bX,h.1,HN,fT];constructor
   ·rintro (h1|h1)
    ·exact .inr h1
    ·obtain ⟨e1,e2⟩:=Prod.mk.inj h1;have:=HM e1;have h2:t=x.1:=by unfold tv at e2;injection e2
     left;rw [this,h2]
   ·rintro (h1|h1)
    ·right;rw [<-h1]
    ·exact .inl h1
  ·rcases bX.1 he with he|he
   ·exact h.2 e he
   ·rw [fT] at he;exact ⟨_,_,he⟩
 ·rintro ⟨e,he,hk⟩;obtain ⟨c',t,rfl⟩:=h.2 e he;exact hx (t,c') ((h.1 _ _).1 he) (HM hk)
def qP.perm{kvs:List (Value × Value)}{l l':List It}(h:qP kvs l)(hl:∀x,x ∈ l ↔ x ∈ l'):qP kvs l':=⟨λc t=>(h.1 c t).trans (hl _),h.2⟩
def AA(room:Int)(w:World):ae 97 #[room] w λe w'=>∃g m,e=Value.pointer (aD g)/\uC w' g m ⟨none,0,0⟩ ⟨min (max room 1) 4096,0,[]⟩/\Ext w w'/\w.heap.size<=g/\w.heap.size<=m:=by
 apply ZM.vc;intro w0 e0 w1 e1;have hm:bS GC w0 (some w.heap.size) []:=by rw [e0];exact bS.new
 have x1:=aQ e1;refine ⟨w0.heap.size,w.heap.size,rfl,⟨?_,ar.nil,[],?_,by simp [qP]⟩,(aQ e0).tr x1,?_,ak _⟩
 ·have:(min (max room 1) 4096)=(if 4096<(if 1>room then 1 else room) then 4096 else (if 1>room then 1 else room)):=by split<;>split<;>omega
  rw [e1,this];exact Row.new w0 [_,_,_,_] _
 ·exact hm.same (x1.heap hm.lt)
 ·rw [e0];simp
def FN{w:World}{g m:Nat}{s:Sl}{q:QS}(h:uC w g m s q)(hq:BT q)(c:Cl):ae 262 #[g,cv c] w λe w'=>e=Value.tuple #[.int .i64 ((nV q.l c).getD 0),.bool (nV q.l c).isSome]/\Ext w w':=by apply HW.vc;intro w0 e0;have x0:Ext w w0.drew:=(Ext.cG w|>.br e0).drew;have h0:=h.ext x0;obtain ⟨kvs,hm,ht⟩:=h0.map;exact ⟨some m,h0.row.at 3 rfl,GC,kvs,A8,hm,⟨c,rfl⟩,_,_,ht.look hq.nodup c,rfl,x0⟩
def g7.vF{g m:Nat}{s s':Sl}{w w':World}(hm:Mod (g7 g m s) w w')(hs:∀b,s'.aZ=some b->s.aZ=some b\/w.heap.size<=b):aJ (g7 g m s) (g7 g m s') w w':=
 ⟨hm,λi hi=>by
  rcases hi with h|h|h
  ·exact .inl (.inl h)
  ·exact .inl (.inr (.inl h))
  ·rcases hs i h with h|h
   ·exact .inl (.inr (.inr h))
   ·exact .inr h⟩
def K9{w:World}{g m:Nat}{s:Sl}{q:QS}(h:uC w g m s q)(hsort:q.l.Pairwise λa b=>a.1<=b.1)(hl:q.l.length<=4998){x:It}(hx:∀y ∈ q.l,y.2≠x.2):
  ae 264 #[g,.agg (fJ x).toArray] w λe w'=>e=ya/\∃s',uC w' g m s' {q with l:=uB q.l x}/\aJ (g7 g m s) (g7 g m s') w w':=by
 apply CM.vc;intro w0 e0;have x0:=aQ e0;have Dp:=fj e0;have h0:=h.ext (x0.drew);refine ⟨s,h0.row.at 2 rfl,?_⟩;refine (adF x (h0.own.rd aA) hsort aa).mono ?_;rintro e w2 ⟨⟨b,rfl⟩,x2⟩;refine ⟨_,b,rfl,x2.heap (show w.heap.size<w0 by omega),?_⟩;have h2:=(h0.ext x2).ext (Ext.dr _);refine ⟨s,h2.row.at 2 rfl,?_⟩;intro w6 e6;have x6:=aQ e6;have h6:=h2.ext x6;have c9:Row w6 w2.drew.heap.size (fJ x) cF:=by rw [e6];exact Row.new _ _ _
 have hz2:=x2.size;have hsz:w.heap.size<w2.drew.heap.size:=kr (show w.heap.size<w0 by omega) hz2;have hk:=(List.takeWhile_sublist (λy:It=>decide (y.1<=x.1)) (l:=q.l)).length_le;have Tf:s.aZ≠some w2.drew.heap.size:=λe=>by have:=h2.lt _ (.inr (.inr e));omega
 refine (QG h6.own c9 hk aa Tf).mono ?_;rintro e w7 ⟨s8,rfl,FW,hm8,hs8⟩;have azG:s.aZ≠some w.heap.size:=λe=>by have:=h.lt _ (.inr (.inr e));omega
 have x06:Ext w w6:=((x0.drew).tr x2).tr ((Ext.dr _).tr x6);refine ⟨s8,rfl,hm8.same _ (by have:=x6.size;omega) azG,?_⟩;have hr7:Row w7 g (CN q s m) kL:=hm8.row h6.row h6.MW;obtain ⟨p1,p2⟩:=hr7.ic (j:=2) (v:=.slice s8.a s8.n s8.c) bg rfl;refine ⟨⟨rfl,p1⟩,?_,?_⟩
 ·rw [cP];intro e;have:=h.row.lt;have:g=w.heap.size:=by simpa [bk] using e
  omega
 intro w9 e9;obtain ⟨q1,q2⟩:=p2 w9 e9;have x9:=Ext.dr w9;have hr9:=q1.ext x9;refine ⟨some m,hr9.at 3 rfl,?_⟩;obtain ⟨kvs,afZ,ht⟩:=h6.map;have hmap9:bS GC w9.drew (some m) kvs:=(Mod.aC (F:=λ_=>False) x9).map (q2.map (hm8.map afZ h6.CO) (Ne.symm h.yH)) bg;refine ⟨GC,kvs,A8,rfl,hmap9,⟨x.2,rfl⟩,?_⟩;intro bP g8 hmap13;have aoc:=Mod.q9 g8;refine ⟨rfl,s8,⟨?_,?_,_,hmap13,ht.ins hx⟩,g7.vF ?_ ?_⟩
 ·exact aoc.row hr9 h.yH
 ·have he:=ahG q.l x;rw [he] at FW;have hrow8:=λb hb=>aY FW aA (b:=b) hb
  refine aoc.gU ((q2.gU FW λb hb hf=> ?_).ext x9) λb hb hf=> ?_
  ·obtain ⟨cs,hr⟩:=hrow8 b hb;exact hr.ne hr7 aA hf
  ·obtain ⟨cs,hr⟩:=hrow8 b hb;exact hr.fY (hm8.map afZ h6.CO) hf
 ·refine ((((Mod.aC x06).trans (hm8.mono λb _ hb=> .inr (.inr hb))).trans (q2.mono λb _ hb=> .inl hb)).trans (Mod.aC x9)).trans (aoc.mono λb _ hb=> .inr (.inl hb))
 ·intro b hb;rcases hs8 b hb with h1|h1
  ·exact .inl h1
  ·exact .inr (gG x06.size h1)
def Zo{w:World}{g m:Nat}{s:Sl}{q:QS}(h:uC w g m s q)(hq:BT q)(c:Cl):
  ae 263 #[g,cv c] w λe w'=>e=Value.bool (nV q.l c).isSome/\∃s',uC w' g m s' {q with l:=iU q.l c}/\aJ (g7 g m s) (g7 g m s') w w':=by
 apply CP.vc;intro w0 e0;have x0:=aQ e0;have hbox0:Row w0 w (dZ c) Ao:=by rw [e0];exact Row.new _ _ _
 have h0:=h.ext x0.drew;obtain ⟨kvs,hm,ht⟩:=h0.map;refine ⟨some m,h0.row.at 3 rfl,GC,kvs,A8,hm,⟨c,rfl⟩,_,_,ht.look hq.nodup c,Br.mk (λhb=> ?_) (λhb=> ?_)⟩
 ·have hn:nV q.l c=none:=by simpa using hb
  refine ⟨by rw [hn];rfl,s,?_,aJ.aC x0.drew⟩;have:iU q.l c=q.l:=by unfold iU;rw [Pa];intro y hy;simpa using tC hn y hy
  rw [this];exact h0
 ·have hsome:(nV q.l c).isSome=true:=by simpa using hb
  have h1:=h0.ext (Ext.dr _);refine ⟨some m,h1.row.at 3 rfl,GC,kvs,A8,rfl,(Mod.aC (F:=λ_=>False) (Ext.dr _)).map hm bg,⟨c,rfl⟩,?_⟩;intro w9 g8 hmap9;have hm9:=Mod.q9 g8;have hr9:Row w9 g (CN q s m) kL:=hm9.row h1.row h.yH;refine ⟨s,hr9.at 2 rfl,?_⟩;have dp:=hq.len;have hroom:=hq.room;have hbox9:Row w9 w (dZ c) Ao:=hm9.row (hbox0.ext (Ext.dr _|>.tr (Ext.dr _))) (λe=>by have:w.heap.size=m:=e;have:=h.lt m (.inr (.inl rfl));omega);have ho9:ar 0 cF 4 w9 s (q.l.map fJ):=hm9.gU h1.own λb hb hf=>h1.CO (by rw [hb];exact congrArg some hf)
  refine (Ex ho9 hbox9 aa).mono ?_;rintro e bw ⟨pj,rfl,aji,aod,afU⟩;have hsm:s.aZ≠some m:=h.CO;have asU:Row bw g (CN q s m) kL:=aod.row hr9 h.MW;obtain ⟨p1,p2⟩:=asU.ic (j:=2) (v:=.slice pj.a pj.n pj.c) bg rfl;refine ⟨pj,rfl,⟨rfl,p1⟩,λbP Fj=> ?_⟩;obtain ⟨q1,q2⟩:=p2 bP Fj;refine ⟨by rw [hsome],pj,⟨q1,?_,_,q2.map (aod.map hmap9 hsm) (Ne.symm h.yH),ht.del c⟩,g7.vF ?_ ?_⟩
  ·refine q2.gU aji λb hb hf=> ?_
   obtain ⟨cs,hr⟩:=aY aji aA hb;exact hr.ne asU aA hf
  ·exact (((Mod.aC (x0.drew.drew)).trans (hm9.mono λb _ hb=> .inr (.inl hb))).trans (aod.mono λb _ hb=> .inr (.inr hb))).trans (q2.mono λb _ hb=> .inl hb)
  ·intro b hb;exact .inl (afU▸hb)
def HE{w:World}{g m:Nat}{s:Sl}{q:QS}(h:uC w g m s q)(hq:BT q)(hl:0<=q.lost/\q.lost<=1000000)(c:Cl)(t:Int):
  ae 211 #[g,cv c,t] w λe w'=>e=Value.bool (mj q c t).2/\∃s',uC w' g m s' (mj q c t).1/\aJ (g7 g m s) (g7 g m s') w w':=by
 apply E9.vc;intro w0 e0;have x0:=aQ e0;have Dp:=fj e0;have h0:=h.ext x0;have hn:s.n=q.l.length:=by rw [(h.own.rd aA).n,aL]
 have dp:=hq.len;have hroom:=hq.room;have hbg:g<w:=h.row.lt;have hbf:∀{s':Sl} {w1 w':World},w.heap.size<w1->aJ (g7 g m s) (g7 g m s') w1 w'->w'.heap[w.heap.size]? =w1.heap[w.heap.size]? :=λiQ ht=>
  ht.mod.same _ iQ λhf=>by have:=h.lt _ hf;omega
 refine (FN h0 hq c).mono ?_;rintro e w1 ⟨rfl,x1⟩;have h1:=h0.ext x1;have lg:=x0.tr x1;have hz1:w.heap.size<w1:=by have:=x1.size;omega
 refine ⟨_,_,rfl,x1.heap (show w.heap.size<w0 by omega),Br.mk (λhb=> ?_) (λhb=> ?_)⟩
 ·obtain ⟨was,hw⟩:=rL.1 hb;have hg:(nV q.l c).getD 0=was:=by rw [hw];rfl
  rw [hg];refine Br.mk (λhc=> ?_) (λhc=>Br.mk (λ_=> ?_) (λhn=>by rw [hb] at hn;cases hn))
  ·replace hc:=nh hc;have e:mj q c t=(q,false):=by unfold mj;rw [hw];simp [hc]
   rw [e];exact ⟨rfl,s,h1,aJ.aC lg⟩
  ·replace hc:=nC hc;have e:mj q c t=({q with l:=uB (iU q.l c) (t,c)},true):=by unfold mj;rw [hw];simp [hc]
   rw [e];refine (Zo h1 hq c).mono ?_;rintro e w4 ⟨rfl,s4,h4,t4⟩;refine ⟨_,rfl,hbf hz1 t4,?_⟩;have hq4:=hq.drop c;have hl4:=hq4.len;have hz4:=t4.mod.size;refine (K9 (x:=(t,c)) h4 hq4.sorted (by simp only at hl4 ⊢;omega) (λy hy=>by have:=(ju.1 hy).2;simpa using this)).mono ?_;rintro e w6 ⟨rfl,s6,h6,t6⟩;refine ⟨rfl,t6.mod.same _ aa (λhf=> ?_),rfl,s6,h6,((aJ.aC lg).trans t4).trans t6⟩;rcases t4.sub _ hf with hf|hf
   ·have:=h.lt _ hf;omega
   ·omega
 ·refine Br.mk (λhb'=>by rw [hb] at hb';cases hb') (λ_=> ?_);have hw:nV q.l c=none:=by simpa using hb
  have h1d:=h1.ext (Ext.dr w1);refine ⟨s,h1d.row.at 2 rfl,q.room,h1d.row.at 0 rfl,?_⟩;rw [hn];apply Br.mk<;>intro hc
  ·have hc':((q.l.length:Nat):Int)=q.room:=by simpa using hc
   have e:mj q c t=({q with lost:=q.lost+1},false):=by unfold mj;rw [hw];simp [hc']
   rw [e];obtain ⟨p1,p2⟩:=h1d.row.ic (j:=1) (v:=.int .i64 (aw (q.lost+1))) bg rfl;refine ⟨q.lost,h1d.row.at 1 rfl,⟨rfl,p1⟩,?_,λbo wO=> ?_⟩
   ·rw [cP];intro e;have:g=w.heap.size:=by simpa [bk] using e
    omega
   ·obtain ⟨q1,q2⟩:=p2 bo wO;rw [wI] at q1;obtain ⟨kvs,hm,ht⟩:=h1d.map;refine ⟨rfl,s,⟨q1,q2.gU h1d.own λb hb hf=>h.MW (by rw [hb];exact congrArg some hf),kvs,q2.map hm (Ne.symm h.yH),ht⟩,(aJ.aC lg.drew).trans (g7.vF (q2.mono λb _ hb=> .inl hb) λb hb=> .inl hb)⟩
  ·have hc':((q.l.length:Nat):Int)≠q.room:=by simpa using hc
   have e:mj q c t=({q with l:=uB q.l (t,c)},true):=by
    unfold mj;rw [hw];have:¬(q.l.length:Int)>=q.room:=by omega
    simp only;rw [if_neg this]
   rw [e];refine (K9 (x:=(t,c)) h1d hq.sorted aa (tC hw)).mono ?_;rintro e w6 ⟨rfl,s6,h6,t6⟩;exact ⟨rfl,hbf hz1 t6,rfl,s6,h6,(aJ.aC lg.drew).trans t6⟩
def acO{w:World}{g m:Nat}{s a:Sl}{q:QS}{xs:List It}(h:uC w g m s q)(hq:BT q)(hl:0<=q.lost/\q.lost+xs.length<=1000000)(ha:RdK w a 4 (xs.map fJ))(iQ:∀b,a.aZ=some b->b<w.heap.size)(hd:∀b,a.aZ=some b->¬g7 g m s b):
  ae 148 #[g,a] w λe w'=>e=Value.int .i64 (EA q xs).2/\∃s',uC w' g m s' (EA q xs).1/\aJ (g7 g m s) (g7 g m s') w w':=by
 have hn:a.n=xs.length:=by rw [ha.n,aL]
 apply Fa.vc;refine ⟨λn x y wr=>∃(j k:Nat)(sr:Sl)(qr:QS),x=j/\y=k/\j+n=xs.length/\k<=j/\uC wr g m sr qr/\BT qr/\aJ (g7 g m s) (g7 g m sr) w wr/\0<=qr.lost/\qr.lost<=q.lost+j/\(EA qr (xs.drop j)).1=(EA q xs).1/\k+(EA qr (xs.drop j)).2=(EA q xs).2,
  ⟨xs.length,0,0,s,q,rfl,rfl,aa,ak _,h,hq,aJ.refl _ _,hl.1,aa,rfl,bg⟩,?_⟩
 rintro n us x y wr ⟨j,k,sr,qr,rfl,rfl,h1,h2,hqr,bc,ht,h3,h4,h5,h6⟩;have har:RdK wr a 4 (xs.map fJ):=ht.mod.rdK aA ha λ_ b hb=>hd b hb
 apply Br.mk<;>intro hc
 ·replace hc:=nh hc;have eI:xs[j]? =some (xs[j]'aa):=cX aa;have hdrop:xs.drop j=xs[j]'aa::xs.drop (j+1):=ue aa;generalize xs[j]'aa=z at eI hdrop;refine ⟨⟨har.isSome aA (i:=j) tP,aa,aa⟩,z.1,z.2.1,z.2.2.1,z.2.2.2,RdK.item har eI,?_⟩;intro bw BG cC Fy;have bW:Ext wr cC:=(Ext.cG wr|>.br BG).ab Fy (ak _);have afU:wr.heap.size<cC:=by rw [Fy,setRow_size,BG];simp
  refine (HE (hqr.ext bW) bc ⟨h3,aa⟩ z.2 z.1).mono ?_;rintro e bP ⟨rfl,pn,h13,t13⟩;have hlo:=CH qr z.2 z.1;have hwj:=ov (j:=j);have Tq:=ov (j:=k);rw [hdrop] at h5 h6;simp only [EA] at h5 h6;have ht':=(ht.trans (aJ.aC bW)).trans t13;refine ⟨_,rfl,t13.mod.same _ afU (λhf=> ?_),Br.mk (λhb=> ?_) (λhb=> ?_)⟩
  ·have:=hqr.lt _ hf;omega
  ·rw [hb] at h6;simp only [if_true] at h6;rw [hwj,Tq];exact ⟨n-1,aa,j+1,k+1,pn,_,rfl,rfl,aa,aa,h13,bc.add _ _,ht',aa,aa,h5,aa⟩
  ·rw [hb] at h6;simp only [Bool.false_eq_true,if_false] at h6;rw [hwj];exact ⟨n-1,aa,j+1,k,pn,_,rfl,rfl,aa,aa,h13,bc.add _ _,ht',aa,aa,h5,aa⟩
 ·replace hc:=nC hc;have hj:j=xs.length:=by omega
  rw [hj,List.drop_length] at h5 h6;simp only [EA] at h5 h6;refine ⟨by rw [<-h6];rfl,sr,?_,ht⟩;rw [<-h5];exact hqr
def UO{w:World}{s:Sl}{l:List It}(ho:ar 0 cF 4 w s (l.map fJ))(hl:l.length<=5000):
  ae 191 #[s] w λe w'=>∃s':Sl,e=s'/\ar w cF 4 w' s' (l.map fJ)/\Ext w w':=by
 apply Be.vc;have hn:s.n=l.length:=by rw [(ho.rd aA).n,aL]
 apply Br.mk<;>intro h
 ·rcases ho.form aA with ⟨hs,Fi⟩|⟨g0,cs,ha,-⟩
  ·exact ⟨⟨none,0,0⟩,rfl,by rw [Fi];exact ar.nil,Ext.cG _⟩
  ·rw [ha] at h;cases h
 ·intro w0 e0;have x0:=aQ e0;have Dp:=fj e0;have hr0:Row w0 w [] cF:=by rw [e0];exact Row.new _ _ _
  have sH:ar w cF 4 w0 ⟨aD w.heap.size,0,0⟩ []:=ar.jA (ak _) hr0 bg (ak _) rfl bg;obtain ⟨hp,hr⟩:=sH.Jq (bytes:=32) (more:=l.map fJ) x0.size (gk _) (lM _) tP tP;rw [aL,<-hn] at hp hr;refine ⟨(l.map fJ).flatten,((ho.ext x0).rd aA).flat aA,hp,λs2 w3 bf=> ?_⟩;obtain ⟨h1,h2,h3,h4,h5⟩:=hr s2 w3 bf;refine ⟨qL bf (by rw [bA (gk _),aL,hn]) aa,s2,rfl,h1,x0.trans h3⟩
def adA{w:World}{g m:Nat}{s:Sl}{q:QS}(h:uC w g m s q)(hq:BT q):ae 138 #[g] w λe w'=>∃s':Sl,e=s'/\ar w cF 4 w' s' (q.l.map fJ)/\Ext w w':=by apply E2.vc;have:=hq.len;have:=hq.room;refine ⟨s,h.row.at 2 rfl,(UO h.own aa).mono ?_⟩;rintro e w1 ⟨s',rfl,h1,x1⟩;exact ⟨s',rfl,s',rfl,h1,x1⟩
def late{F G M:Prop}(main:(F->G)->M)(fin:F->G):M:=main fin
def adN{w:World}{g m:Nat}{s:Sl}{q:QS}(h:uC w g m s q)(hq:BT q)(now many:Int):
  ae 172 #[g,now,many] w λe w'=>∃so:Sl,e=Value.slice so.a so.n so.c/\∃s',ar w Ao 3 w' so ((MV q now many).2.map dZ)/\uC w' g m s' (MV q now many).1/\aJ (g7 g m s) (g7 g m s') w w':=by
 have hn:s.n=q.l.length:=by rw [(h.own.rd aA).n,aL]
 have dp:=hq.len;have hroom:=hq.room;have aa3:s.n<=s.c:=by
  rcases h.own.form aA with ⟨hs,-⟩|⟨g0,cs,ha,hg0,hr,hc,LU,-⟩
  ·rw [hs];exact ak _
  ·exact LU
 have hql:=Zs q.l now many;apply E3.vc;refine ⟨λn x wr=>w=wr/\∃k:Nat,x=k/\k+n=jc q.l now many,⟨jc q.l now many,rfl,0,rfl,aa⟩,?_⟩;rintro n0 us x wr ⟨rfl,k,rfl,hk⟩;have SY:k<=q.l.length:=by omega
 apply late (F:=k=jc q.l now many)
 ·intro fin;refine ⟨s,h.row.at 2 rfl,Br.mk (λhc=> ?_) (λhc=> ?_)⟩
  ·replace hc:=nh hc;have eI:q.l[k]? =some (q.l[k]'aa):=cX aa;have Jc:=Zr hq now many eI;generalize q.l[k]'aa=y at eI Jc;apply Br.mk<;>intro ky
   ·replace ky:=nh ky;have jj:=h.own.rd aA;refine ⟨s,h.row.at 2 rfl,⟨jj.isSome aA (i:=k) tP,aa,aa⟩,?_⟩;have hsm:(af s.a ((k:Int).toNat*4)).isSome=true:=by rw [k9];exact jj.isSome aA (i:=k) tP
    refine bz.2 ⟨lC.2 hsm,y.1,?_,Br.mk (λOx=> ?_) (λOx=> ?_)⟩
    ·exact jj.at (i:=k) (r:=fJ y) (by rw [aS,eI];rfl) rfl
    ·replace Ox:=nh Ox;have:=Jc.2 ⟨ky,Ox⟩;have hw:=ov (j:=k);exact ⟨n0-1,aa,rfl,k+1,hw,aa⟩
    ·replace Ox:=nC Ox;have hkq:k=jc q.l now many:=by
      have:¬k<jc q.l now many:=λiQ=>Ox (Jc.1 iQ).2
      omega
     exact fin hkq
   ·replace ky:=nC ky;have hkq:k=jc q.l now many:=by
     have:¬k<jc q.l now many:=λiQ=>ky (Jc.1 iQ).1
     omega
    exact fin hkq
  ·replace hc:=nC hc;have hkq:k=jc q.l now many:=by omega
   exact fin hkq
 ·intro hkq;refine ⟨s,h.row.at 2 rfl,aa,aa,aa,aa,λn x so wr=>∃j:Nat,x=j/\j+n=k/\Go.Vc.Mod (λi=>i=m) w wr/\ar w Ao 3 wr so ((q.l.take j).map λy=>dZ y.2)/\∃kvs,bS GC wr (some m) kvs/\qP kvs (q.l.drop j),⟨k,0,rfl,aa,Go.Vc.Mod.refl _ _,ar.nil,by simpa using h.map⟩,?_⟩;rintro n us x so wr ⟨j,rfl,hj,rj,BR,kvs,afZ,xU⟩;have c9:Row wr g (CN q s m) kL:=rj.row h.row h.yH;have sH:ar 0 cF 4 wr s (q.l.map fJ):=rj.gU h.own λb hb hf=>h.CO (by rw [hb];exact congrArg some hf)
  apply Br.mk<;>intro hc
  ·replace hc:=nh hc;have hjl:j<q.l.length:=by omega
   have eI:q.l[j]? =some (q.l[j]'hjl):=cX hjl;generalize q.l[j]'hjl=y at eI;have jj:=sH.rd aA;refine ⟨⟨?_,aa,aa⟩,y.1,y.2.1,y.2.2.1,y.2.2.2,?_,?_⟩
   ·have:=jj.isSome aA (i:=j) tP;unfold aI;split<;>simpa using this
   ·rw [vi];exact RdK.item jj eI
   intro dU zh dm zi fQ XK;have eO:=aQ zh;have fN:Ext wr dm:=eO.ab zi (ak _);have fC:Ext wr fQ:=fN.br XK;have aHA:dm.heap.size=wr.heap.size+1:=by rw [zi,setRow_size,zh];simp
   have aHB:=fj XK;have hon:so.n=j:=by rw [(BR.rd aA).n,aL,cY];omega
   have hzw:=rj.size;obtain ⟨hp,hr⟩:=(BR.ext fC).append (bytes:=24) (news:=dZ y.2) aa rfl (by intro u hu;simp at hu;rcases hu with rfl|rfl|rfl<;>rfl) aa aa;refine ⟨hp,λzM cZ bf=> ?_⟩;obtain ⟨h1,h2,h3,h4,h5⟩:=hr zM cZ bf;have Tf:∀b,so.aZ=some b->b<wr.heap.size:=λb hb=>(BR.own.lt hb).2
   have az1:Go.Vc.Mod (λi=>so.aZ=some i) fQ cZ:=⟨h3.os,h3.tape,h3.output,h3.size,λi hi hn=>h4 i hn hi⟩;have hsm:so.aZ≠some m:=λe=>by have h1:=(BR.own.lt e).1;have h2:=h.lt m (.inr (.inl rfl));omega
   refine ⟨h4 _ (λe=>by have:=Tf _ e;omega) aa,h4 _ (λe=>by have:=Tf _ e;omega) aa,?_⟩;have Je:Go.Vc.Mod (λi=>so.aZ=some i) wr cZ.drew:=((Go.Vc.Mod.aC fC).trans az1).trans (Go.Vc.Mod.aC (Ext.dr _));have hsg:so.aZ≠some g:=λe=>by have h1:=(BR.own.lt e).1;have h2:=h.lt g (.inl rfl);omega
   refine ⟨some m,(Je.row c9 hsg).at 3 rfl,GC,kvs,A8,rfl,Je.map afZ hsm,⟨y.2,rfl⟩,?_⟩;intro eG g8 hmap29;have atc:=Go.Vc.Mod.q9 g8;have hwj:=ov (j:=j);rw [hwj];refine ⟨n-1,aa,j+1,rfl,aa,(rj.tr Je (λi hi=> .inr (BR.own.lt hi).1)).trans atc,?_,_,hmap29,?_⟩
   ·have e:(q.l.take (j+1)).map (λy=>dZ y.2)=(q.l.take j).map (λy=>dZ y.2)++ [dZ y.2]:=by rw [dy,eI,bJ];rfl
    rw [e];refine atc.gU (h1.ext (Ext.dr _)) λb hb hf=> ?_
    have hb':zM.aZ=some m:=by rw [hb];exact congrArg some hf
    have:=h.lt m (.inr (.inl rfl));rcases h5 with h5|h5
    ·exact hsm (h5▸hb')
    ·rw [h5] at hb';have:fQ.heap.size=m:=by simpa using hb'
     omega
   ·have hd:=xU.del y.2;refine hd.perm λz=> ?_
    have hcons:q.l.drop j=y::q.l.drop (j+1):=by obtain ⟨iQ,he⟩:=bZ.1 eI;rw [ue iQ,he]
    have hnd:((y::q.l.drop (j+1)).map (·.2)).Nodup:=by rw [<-hcons];exact ((List.drop_sublist j q.l).map _).nodup hq.nodup
    rw [hcons];unfold iU;rw [eQ,oL] at hnd;constructor
    ·intro hz;obtain ⟨hz1,hz2⟩:=ju.1 hz;rcases cp.1 hz1 with rfl|hz1
     ·simp at hz2
     ·exact hz1
    ·intro hz;refine ju.2 ⟨DI _ hz,?_⟩;have:z.2≠y.2:=λe=>hnd.1 (e▸List.mem_map_of_mem hz)
     simpa using this
  ·replace hc:=nC hc;have hjk:j=k:=by omega
   subst hjk;refine ⟨s,c9.at 2 rfl,(Pm sH SY aa).mono ?_⟩;rintro e gS ⟨BJ,rfl,atd,ajn,az2⟩;have ate:Row gS g (CN q s m) kL:=ajn.row c9 h.MW;obtain ⟨p1,p2⟩:=ate.ic (j:=2) (v:=.slice BJ.a BJ.n BJ.c) bg rfl;refine ⟨BJ,rfl,⟨rfl,p1⟩,λfL e33=> ?_⟩;obtain ⟨q1,q2⟩:=p2 fL e33;have hso:∀b,so.aZ=some b->w.heap.size<=b:=λb hb=>(BR.own.lt hb).1
   refine ⟨so,rfl,BJ,?_,?_,?_⟩
   ·unfold MV;rw [<-hkq,pM];refine q2.gU (ajn.gU BR λb hb hf=> ?_) λb hb hf=> ?_
    ·have:=hso b hb;have:=h.lt b (.inr (.inr hf));omega
    ·have:=hso b hb;have:=h.lt b (.inl hf);omega
   ·unfold MV;rw [<-hkq];refine ⟨q1,q2.gU atd λb hb hf=> ?_,kvs,q2.map (ajn.map afZ h.CO) (Ne.symm h.yH),xU⟩;obtain ⟨cs,hr⟩:=aY atd aA hb;exact hr.ne ate aA hf
   ·refine g7.vF (((rj.mono λb _ hb=> .inr (.inl hb)).trans (ajn.mono λb _ hb=> .inr (.inr hb))).trans (q2.mono λb _ hb=> .inl hb)) λb hb=> .inl (az2▸hb)
end Go.Proofs.YtkkkfkopcfdmaaaGreatDoor.Q
