import Derived.Test.YtalpkjfpmdpbiaaGreatDoorG
set_option linter.all false
namespace Go.Proofs.YtalpkjfpmdpbiaaGreatDoor
open Go Go.Vc Go.RowKit Go.Proofs
set_option maxRecDepth 100000
set_option maxHeartbeats 8000000
set_option linter.unusedVariables false
variable {R:Ending->World->Prop} {w:World} {a0 a1 a2 a3 a4 a5 a6 a7 a8 a9 aq ar au aI aJ aK aL aH bM eB ao aj aw dO ic jg jh ji gq gY dj dZ dU lg lO nm xO xP xQ xR xS xU xV xW xX xY xZ ya yb yc:Int}
def vf.vc{a0:Addr}(h:
 ∃(x0:Int),ld w (ae (some a0) 2)=some (.int .i64 x0)/\
 Br (x0>0)
 (∃(x1:Int),ld w (ae (some a0) 2)=some (.int .i64 x1)/\
 (true=true/\Wr w (ae (some a0) 2) 1)/\(∀w2,w2=aZ w (ae (some a0) 2) [(ai (x1-1))]->
 R false w2))
 (∃(x3:Int),ld w (ae (some a0) 1)=some (.int .i64 x3)/\
 Br (x3>0)
 (∃(x4:Int),ld w (ae (some a0) 1)=some (.int .i64 x4)/\
 (true=true/\Wr w (ae (some a0) 1) 1)/\(∀w5,w5=aZ w (ae (some a0) 1) [(ai (x4-1))]->
 R (Value.bool (decide (x3>0))) w5))
 (R (Value.bool (decide (x3>0))) w))):ah 232 #[a0] w R:=
 cq cf Tryz.func232 h
def BL.vc{a0:Addr}{a2:Sl}(h:
 ah 232 #[a0] w (λe w0=>∃(b1:Bool),e=b1/\
 Br b1
 (R (9:Int) w0)
 (ah 202 #[a0] w0 (λe w2=>∃(m3:Option Nat),e=Value.map m3/\
 ∃(x4:Int),ld w2.drew (ae (some a0) 0)=some (.int .i64 x4)/\
 (ah 233 #[.map m3] w2.drew (λe w5=>∃(x6:Int),e=x6/\
 av w5 (ae (some a0) 0) 0 [x4]/\∃(G7:Value->Prop)(kvs8:List (Value × Value)),gF Tryz.prog 3 G7/\bK G7 w5 m3 kvs8/\G7 a1/\∃(s9:Sl),∃WH:Bool,BF kvs8 a1 (.slice none 0 0) s9 WH/\
 av w5 (ae (some a0) 0) 0 [x4]/\Br (decide (((ai (x6-((s9.n:Nat):Int))):Int)>(ai (x4-((a2.n:Nat):Int)))))
 (R (8:Int) w5)
 (∃(eJ:Sl),ld w5.drew (ae (some a0) 4)=some (.slice eJ.a eJ.n eJ.c)/\
 ah 203 #[a2] w5.drew (λe bR=>∃(gf:Sl),e=gf/\
 av bR (ae (some a0) 4) 0 [eJ]/\Aw bR #[a1,gf] 289 λcm=>
 aF 32 2 cm eJ 1 [a1,gf]/\∀(jG:Sl)(dy:World),aD 289 2 cm eJ 1 [a1,gf] jG dy->Kp bR cm dy/\
 (true=true/\Wr dy (ae (some a0) 4) 1)/\cQ (ae (some a0) 4)≠some bR.heap.size/\(∀cC,cC=aZ dy (ae (some a0) 4) [jG]->
 R (0:Int) cC)))))/\(∃(G18:Value->Prop)(kvs19:List (Value × Value)),gF Tryz.prog 3 G18/\bK G18 w2.drew m3 kvs19/\G18 a1/\∃(rZ:Sl),∃b21:Bool,BF kvs19 a1 (.slice none 0 0) rZ b21/\
 av w2.drew (ae (some a0) 0) 0 [x4]/\ah 233 #[.map m3] w2.drew (λe cx=>∃(de:Int),e=de/\
 av cx (ae (some a0) 0) 0 [x4]/\Br (decide (((ai (de-((rZ.n:Nat):Int))):Int)>(ai (x4-((a2.n:Nat):Int)))))
 (R (8:Int) cx)
 (∃(kL:Sl),ld cx.drew (ae (some a0) 4)=some (.slice kL.a kL.n kL.c)/\
 ah 203 #[a2] cx.drew (λe eg=>∃(vH:Sl),e=vH/\
 av eg (ae (some a0) 4) 0 [kL]/\Aw eg #[a1,vH] 289 λjb=>
 aF 32 2 jb kL 1 [a1,vH]/\∀(sB:Sl)(fJ:World),aD 289 2 jb kL 1 [a1,vH] sB fJ->Kp eg jb fJ/\
 (true=true/\Wr fJ (ae (some a0) 4) 1)/\cQ (ae (some a0) 4)≠some eg.heap.size/\(∀g8,g8=aZ fJ (ae (some a0) 4) [sB]->
 R (0:Int) g8))))))))):ah 194 #[a0,a1,a2] w R:=
 cq cf Tryz.func194 h
def Ah.vc{a0:Addr}(h:
 ah 232 #[a0] w (λe w0=>∃(b1:Bool),e=b1/\
 Br b1
 (R (9:Int) w0)
 (ah 202 #[a0] w0 (λe w2=>∃(m3:Option Nat),e=Value.map m3/\
 (true=true/\Wr w2 (ae (some a0) 3) 1)/\(∀w4,w4=aZ w2 (ae (some a0) 3) [.map m3]->
 (true=true/\Wr w4 (ae (some a0) 4) 1)/\(∀w5,w5=aZ w4 (ae (some a0) 4) [.slice none 0 0]->
 R (0:Int) w5)))))):ah 195 #[a0] w R:=
 cq cf Tryz.func195 h
def OJ.vc{a0:Sl}(h:
 ∃I0:Nat->Int->Sl->World->Prop,
 (∃n1,I0 n1 ((ai (a2-1))) a0 w)/\
 ∀(n1:Nat)(oX:Nat->Value)(x3:Int)(s4:Sl)(w5:World),I0 n1 x3 s4 w5->
 Br (x3>=0)
 (bn (YL (ai (8*x3))) (Aw w5 #[.int .u8 (me ((a1:Int).fdiv (2 ^(min ((ai (8*x3)):Int).toNat 64))))] 5 λw7=>
 aF 1 1 w7 s4 1 [.int .u8 (me ((a1:Int).fdiv (2 ^(min ((ai (8*x3)):Int).toNat 64))))]/\∀(s8:Sl)(w9:World),aD 5 1 w7 s4 1 [.int .u8 (me ((a1:Int).fdiv (2 ^(min ((ai (8*x3)):Int).toNat 64))))] s8 w9->Kp w5 w7 w9/\
 ∃n6,n6<n1/\I0 n6 ((ai (x3-1))) s8 w9))
 (R s4 w5)):ah 229 #[a0,a1,a2] w R:=
 cq ⟨[(2,⟨[(7,.int .i64),(0,.slice)],[],[]⟩)],[],[]⟩ Tryz.func229 h
def KT.vc{a0:Sl}(h:
 ∃I0:Nat->Int->Int->World->Prop,
 (∃n1,I0 n1 (0) (0) w)/\
 ∀(n1:Nat)(oX:Nat->Value)(x3 x4:Int)(w5:World),I0 n1 x3 x4 w5->
 Br (decide (x3<((a0.n:Nat):Int)))
 (cB a0.a x3 a0.n/\∃(x7:Int),ld w5 (ae a0.a ((x3:Int).toNat*1))=some (.int .u8 x7)/\
 ∃n6,n6<n1/\I0 n6 ((ai (x3+1))) ((FI .i64 (ai (x4*2 ^(min (8:Int).toNat 64))) (ai x7))) w5)
 (R x4 w5)):ah 205 #[a0] w R:=
 cq ⟨[(3,⟨[(8,.int .i64),(3,.int .i64)],[],[]⟩)],[],[]⟩ Tryz.func205 h
def HH.vc{a1:Sl}(h:
 Br (a0<1)
 (R (Value.tuple #[.slice none 0 0,(1:Int)]) w)
 (Br (a0>1073741824)
 (R (Value.tuple #[.slice none 0 0,(1:Int)]) w)
 (Br (decide ((((a1.n:Nat):Int):Int)>65536))
 (R (Value.tuple #[.slice none 0 0,(1:Int)]) w)
 (ah 229 #[.slice none 0 0,a0,(4:Int)] w (λe w0=>∃(s1:Sl),e=s1/\
 ah 229 #[s1,((a1.n:Nat):Int),(3:Int)] w0 (λe w2=>∃(s3:Sl),e=s3/\
 Aw w2 #[s3,a1] 132 λw4=>
 ah 231 #[.slice (bu w2) 2 2] w4 (λe w5=>∃(s6:Sl),e=s6/\
 ah 230 #[s6] w5 (λe w7=>∃(s8:Sl),e=s8/\
 R (Value.tuple #[s8,af]) w7)))))))):ah 193 #[a0,a1] w R:=
 cq cf Tryz.func193 h
def vv.vc{a0:Addr}{a2:Sl}(h:
 ah 117 #[a1] w (λe w0=>∃(b1:Bool),e=b1/\
 Br (!b1)
 (R (1:Int) w0)
 (ah 118 #[a0,a1] w0 (λe w2=>∃(x3 x4:Int)(s5:Sl),e=Value.agg #[x3,x4,s5]/\
 Aw w2 #[af,af,.slice none 0 0] 186 λw6=>
 Sw w6 w2 #[x3,x4,s5] λw7=>
 ah 193 #[(ai (x4+1)),a2] w7 (λe w8=>∃(s9:Sl)(br:Int),e=Value.tuple #[s9,br]/\Kp w2 w7 w8/\
 Br (br !=0)
 (R br w8)
 (∃(p11:Option Addr),ld w8.drew (ae (ae (some a0) 0) 0)=some (.pointer p11)/\
 ah 194 #[p11,(gw .i64 x3 1),s9] w8.drew (Ri λcD bR=>Kp w2 w8.drew bR/\
 av bR (bu w2) 0 [x3]/\Br (cD !=0)
 (R cD bR)
 (∃(p14:Option Addr),ld bR (ae (ae (some a0) 0) 0)=some (.pointer p14)/\
 ah 195 #[p14] bR (Ri λcY cS=>Kp w2 bR cS/\
 R cY cS))))))))):ah 151 #[a0,a1,a2] w R:=
 cq cf Tryz.func151 h
def xC.vc{a0:Addr}(h:
 Aw w #[af,af,.slice none 0 0] 186 λw0=>
 Aw w0 #[af,af,.slice none 0 0] 186 λw1=>
 Sw w1 w0 #[(ai ((ai (2*a1))+1)),af,.slice none 0 0] λw2=>
 ∃I3:Nat->Int->Int->Int->Sl->World->Prop,
 (∃n4,aP [af,af,.slice none 0 0]/\I3 n4 (0) ((ai ((ai (2*a1))+1))) (0) ⟨none,0,0⟩ w2)/\
 ∀(n4:Nat)(us5:Nat->Value)(x6 x7 x8:Int)(s9:Sl)(bL:World),I3 n4 x6 x7 x8 s9 bL->
 Br (x6<2)
 (((0:Int)<=x6/\x6<((2:Nat):Int))/\∃(bT:Int),([(ai (2*a1)),(ai ((ai (2*a1))+1))]:LV)[(x6:Int).toNat*1]? =some (.int .i64 bT)/\
 ∃(p13:Option Addr),ld bL (ae (ae (some a0) 0) 0)=some (.pointer p13)/\
 ah 158 #[p13,bT] bL (λe cm=>∃(jG:Sl)(b16:Bool),e=Value.tuple #[jG,b16]/\K2 w w0 bL cm (
 ah 159 #[jG] cm (λe cC=>∃(cn:Int)(oW:Sl)(dK:Int),e=Value.tuple #[cn,oW,dK]/\K2 w w0 cm cC (
 Br (dK==0)
 (Br (cn>x8)
 (Sw cC w0 #[bT,cn,oW] λea=>
 ∃wM,wM<n4/\aP [af,af,.slice none 0 0]/\I3 wM ((ai (x6+1))) bT cn oW ea)
 (∃wM,wM<n4/\aP [af,af,.slice none 0 0]/\I3 wM ((ai (x6+1))) x7 x8 s9 cC))
 (∃wM,wM<n4/\aP [af,af,.slice none 0 0]/\I3 wM ((ai (x6+1))) x7 x8 s9 cC))))))
 (Sw bL w #[x7,x8,s9] λcx=>
 R (Value.agg #[x7,x8,s9]) cx)):ah 118 #[a0,a1] w R:=
 cq ⟨[(3,⟨[(23,.int .i64)],[(1,[.int .i64,.int .i64,.slice])],[]⟩)],[],[]⟩ Tryz.func118 h
def Vu.vc{a0:Sl}(h:
 ah 244 #[a0] w (λe w0=>∃(x1:Int),e=Value.int .u16 x1/\
 ah 245 #[.int .u16 x1] w0 (λe w2=>∃(x3 x4:Int),e=Value.agg #[.int .u8 x3,.int .u8 x4]/\
 Aw w2 #[.int .u8 0,.int .u8 0] 296 λw5=>
 Wt w5 ⟨w2,0,none⟩ 2/\(∀w6,w6=aZ w5 (bu w2) [.int .u8 x3,.int .u8 x4]->
 Aw w6 #[a0,.slice (aA (bu w2) (0) (2) 1) (2-0) (2-0)] 132 λw7=>
 ah 231 #[.slice (bu w6) 2 2] w7 (λe w8=>∃(s9:Sl),e=s9/\
 R s9 w8))))):ah 230 #[a0] w R:=
 cq cf Tryz.func230 h
def Sf.vc{a0:Sl}(h:
 Br (decide ((((a0.n:Nat):Int):Int)>=2))
 (ah 244 #[a0] w (λe w0=>∃(x1:Int),e=Value.int .u16 x1/\
 R (Value.bool (x1==0)) w0))
 (R false w)):ah 237 #[a0] w R:=
 cq cf Tryz.func237 h
def Zr.vc{a0:Sl}(h:
 ah 251 #[] w (λe w0=>∃(x1:Int),e=Value.int .u16 x1/\
 ah 252 #[.int .u16 x1,a0] w0 (λe w2=>∃(x3:Int),e=Value.int .u16 x3/\
 R (Value.int .u16 x3) w2))):ah 244 #[a0] w R:=
 cq cf Tryz.func244 h
def xD.vc(h:
 Aw w #[.int .u8 0,.int .u8 0] 296 λw0=>
 Wt w0 ⟨w,0,none⟩ 2/\(∀w1,w1=aZ w0 w [.int .u8 (me ((a0:Int).fdiv (2 ^(min (8:Int).toNat 16)))),.int .u8 (me a0)]->
 ∃(x2 x3:Int),av w1 w 0 [.int .u8 x2,.int .u8 x3]/\
 R (Value.agg #[.int .u8 x2,.int .u8 x3]) w1)):ah 245 #[.int .u16 a0] w R:=
 cq cf Tryz.func245 h
def OK.vc(h:
 R (Value.int .u16 65535) w):ah 251 #[] w R:=
 cq cf Tryz.func251 h
def Ai.vc{a1:Sl}(h:
 ah 257 #[] w (λe w0=>∃(x1 x2 x3 x4 x5 x6 x7 x8 x9 br bV bT cD cl bA cY:Int),e=Value.agg #[.int .u16 x1,.int .u16 x2,.int .u16 x3,.int .u16 x4,.int .u16 x5,.int .u16 x6,.int .u16 x7,.int .u16 x8,.int .u16 x9,.int .u16 br,.int .u16 bV,.int .u16 bT,.int .u16 cD,.int .u16 cl,.int .u16 bA,.int .u16 cY]/\
 Aw w0 #[.int .u16 0,.int .u16 0,.int .u16 0,.int .u16 0,.int .u16 0,.int .u16 0,.int .u16 0,.int .u16 0,.int .u16 0,.int .u16 0,.int .u16 0,.int .u16 0,.int .u16 0,.int .u16 0,.int .u16 0,.int .u16 0] 314 λcC=>
 Wt cC ⟨w0,0,none⟩ 16/\(∀dJ,dJ=aZ cC (bu w0) [.int .u16 x1,.int .u16 x2,.int .u16 x3,.int .u16 x4,.int .u16 x5,.int .u16 x6,.int .u16 x7,.int .u16 x8,.int .u16 x9,.int .u16 br,.int .u16 bV,.int .u16 bT,.int .u16 cD,.int .u16 cl,.int .u16 bA,.int .u16 cY]->
 ∃I19:Nat->Int->Int->World->Prop,
 (∃n20,I19 n20 (0) a0 dJ)/\
 ∀(n20:Nat)(aiG:Nat->Value)(eY de:Int)(fu:World),I19 n20 eY de fu->
 Br (decide (eY<((a1.n:Nat):Int)))
 (cB a1.a eY a1.n/\∃(dV:Int),ld fu (ae a1.a ((eY:Int).toNat*1))=some (.int .u8 dV)/\
 (0:Int)<=(gw .u16 ((de:Int).fdiv (2 ^(min (12:Int).toNat 16))) (kA ((dV:Int).fdiv (2 ^(min (4:Int).toNat 8)))))/\((gw .u16 ((de:Int).fdiv (2 ^(min (12:Int).toNat 16))) (kA ((dV:Int).fdiv (2 ^(min (4:Int).toNat 8))))):Int)<((16:Nat):Int)/\∃(dc:Int),ld fu (ae (bu w0) (((gw .u16 ((de:Int).fdiv (2 ^(min (12:Int).toNat 16))) (kA ((dV:Int).fdiv (2 ^(min (4:Int).toNat 8))))):Int).toNat*1))=some (.int .u16 dc)/\
 (0:Int)<=(gw .u16 (((gw .u16 (kA (de*2 ^(min (4:Int).toNat 16))) dc):Int).fdiv (2 ^(min (12:Int).toNat 16))) (kA (Bw .u8 dV 15)))/\((gw .u16 (((gw .u16 (kA (de*2 ^(min (4:Int).toNat 16))) dc):Int).fdiv (2 ^(min (12:Int).toNat 16))) (kA (Bw .u8 dV 15))):Int)<((16:Nat):Int)/\∃(eM:Int),ld fu (ae (bu w0) (((gw .u16 (((gw .u16 (kA (de*2 ^(min (4:Int).toNat 16))) dc):Int).fdiv (2 ^(min (12:Int).toNat 16))) (kA (Bw .u8 dV 15))):Int).toNat*1))=some (.int .u16 eM)/\
 ∃n25,n25<n20/\I19 n25 ((ai (eY+1))) ((gw .u16 (kA ((gw .u16 (kA (de*2 ^(min (4:Int).toNat 16))) dc)*2 ^(min (4:Int).toNat 16))) eM)) fu)
 (R (Value.int .u16 de) fu)))):ah 252 #[.int .u16 a0,a1] w R:=
 cq ⟨[(3,⟨[(11,.int .i64),(0,.int .u16)],[],[]⟩)],[],[]⟩ Tryz.func252 h
def OL.vc(h:
 Aw w #[.int .u16 0,.int .u16 0,.int .u16 0,.int .u16 0,.int .u16 0,.int .u16 0,.int .u16 0,.int .u16 0,.int .u16 0,.int .u16 0,.int .u16 0,.int .u16 0,.int .u16 0,.int .u16 0,.int .u16 0,.int .u16 0] 314 λw0=>
 Aw w0 #[.int .u16 0,.int .u16 0,.int .u16 0,.int .u16 0,.int .u16 0,.int .u16 0,.int .u16 0,.int .u16 0,.int .u16 0,.int .u16 0,.int .u16 0,.int .u16 0,.int .u16 0,.int .u16 0,.int .u16 0,.int .u16 0] 314 λw1=>
 ∃I2:Nat->Int->World->Prop,
 (∃n3,I2 n3 (0) w1)/\
 ∀(n3:Nat)(U3:Nat->Value)(x5:Int)(w6:World),I2 n3 x5 w6->
 Br (x5<16)
 (∃I8:Nat->Int->Int->World->Prop,
 (∃n9,I8 n9 (0) ((kA ((kA x5)*2 ^(min (12:Int).toNat 16)))) w6)/\
 ∀(n9:Nat)(WI:Nat->Value)(bV bT:Int)(cA:World),I8 n9 bV bT cA->
 Br (bV<4)
 (ah 263 #[.int .u16 bT] cA (λe cS=>∃(cY:Int),e=Value.int .u16 cY/\
 ∃MV,MV<n9/\I8 MV ((ai (bV+1))) cY cS))
 ((0:Int)<=x5/\x5<((16:Nat):Int)/\(true=true/\Wr cA (ae (bu w0) ((x5:Int).toNat*1)) 1)/\(∀cC,cC=aZ cA (ae (bu w0) ((x5:Int).toNat*1)) [.int .u16 bT]->
 ∃n7,n7<n3/\I2 n7 ((ai (x5+1))) cC)))
 (∃(cn cN dK fW eY de di cW dV dc eM iL oL iK jA gn:Int),av w6 (bu w0) 0 [.int .u16 cn,.int .u16 cN,.int .u16 dK,.int .u16 fW,.int .u16 eY,.int .u16 de,.int .u16 di,.int .u16 cW,.int .u16 dV,.int .u16 dc,.int .u16 eM,.int .u16 iL,.int .u16 oL,.int .u16 iK,.int .u16 jA,.int .u16 gn]/\
 Wt w6 ⟨w,0,none⟩ 16/\(∀ly,ly=aZ w6 w [.int .u16 cn,.int .u16 cN,.int .u16 dK,.int .u16 fW,.int .u16 eY,.int .u16 de,.int .u16 di,.int .u16 cW,.int .u16 dV,.int .u16 dc,.int .u16 eM,.int .u16 iL,.int .u16 oL,.int .u16 iK,.int .u16 jA,.int .u16 gn]->
 ∃(jy kx gd ja kq nz kK lU ky jF lj oY ma rW jY B9:Int),av ly w 0 [.int .u16 jy,.int .u16 kx,.int .u16 gd,.int .u16 ja,.int .u16 kq,.int .u16 nz,.int .u16 kK,.int .u16 lU,.int .u16 ky,.int .u16 jF,.int .u16 lj,.int .u16 oY,.int .u16 ma,.int .u16 rW,.int .u16 jY,.int .u16 B9]/\
 R (Value.agg #[.int .u16 jy,.int .u16 kx,.int .u16 gd,.int .u16 ja,.int .u16 kq,.int .u16 nz,.int .u16 kK,.int .u16 lU,.int .u16 ky,.int .u16 jF,.int .u16 lj,.int .u16 oY,.int .u16 ma,.int .u16 rW,.int .u16 jY,.int .u16 B9]) ly))):ah 257 #[] w R:=
 cq ⟨[(8,⟨[(11,.int .i64),(4,.int .u16)],[],[]⟩),(4,⟨[(5,.int .i64)],[],[]⟩)],[],[]⟩ Tryz.func257 h
def HI.vc(h:
 Br (((Bw .u16 a0 32768):Int) !=0)
 (R (Value.int .u16 (gw .u16 (kA (a0*2 ^(min (1:Int).toNat 16))) 4129)) w)
 (R (Value.int .u16 (kA (a0*2 ^(min (1:Int).toNat 16)))) w)):ah 263 #[.int .u16 a0] w R:=
 cq cf Tryz.func263 h
def rj.vc{a0:Sl}(h:
 ∃I0:Nat->Int->Int->World->Prop,
 (∃n1,I0 n1 (0) (0) w)/\
 ∀(n1:Nat)(oX:Nat->Value)(x3 x4:Int)(w5:World),I0 n1 x3 x4 w5->
 Br (decide (x3<((a0.n:Nat):Int)))
 (cB a0.a x3 a0.n/\∃(s7:Sl),ld w5 (ae a0.a ((x3:Int).toNat*1))=some (.slice s7.a s7.n s7.c)/\
 Br (decide (((ai (x4+((s7.n:Nat):Int))):Int)<0))
 (False)
 (∃n6,n6<n1/\I0 n6 ((ai (x3+1))) ((ai (x4+((s7.n:Nat):Int)))) w5))
 (ah 246 #[.slice none 0 0,x4] w5 (λe w8=>∃(s9:Sl),e=s9/\
 ∃I10:Nat->Int->Sl->World->Prop,
 (∃wM,I10 wM (0) s9 w8)/\
 ∀(wM:Nat)(Z5:Nat->Value)(cD:Int)(sw:Sl)(cS:World),I10 wM cD sw cS->
 Br (decide (cD<((a0.n:Nat):Int)))
 (cB a0.a cD a0.n/\∃(gZ:Sl),ld cS (ae a0.a ((cD:Int).toNat*1))=some (.slice gZ.a gZ.n gZ.c)/\
 ∃l18:LV,Rd cS gZ.a l18/\aF 1 1 cS sw gZ.n l18/\∀(oW:Sl)(eC:World),aD 5 1 cS sw gZ.n l18 oW eC->
 ∃UW,UW<wM/\I10 UW ((ai (cD+1))) oW eC)
 (R sw cS)))):ah 231 #[a0] w R:=
 cq ⟨[(11,⟨[(27,.int .i64),(6,.slice)],[],[]⟩),(3,⟨[(11,.int .i64),(3,.int .i64)],[],[]⟩)],[],[]⟩ Tryz.func231 h
def uP.vc{a0:Sl}(h:
 Br (a1<0)
 (False)
 (Br (decide (((ai (a1-(ai (((a0.c:Nat):Int)-((a0.n:Nat):Int))))):Int)>0))
 ((0:Int)<=((a0.c:Nat):Int)/\((a0.c:Nat):Int)<=((a0.c:Nat):Int)/\((0:Int)<=(ai (a1-(ai (((a0.c:Nat):Int)-((a0.n:Nat):Int)))))/\ai (ai (a1-(ai (((a0.c:Nat):Int)-((a0.n:Nat):Int)))))=(ai (a1-(ai (((a0.c:Nat):Int)-((a0.n:Nat):Int)))))/\((ai (a1-(ai (((a0.c:Nat):Int)-((a0.n:Nat):Int))))):Int)*1<=281474976710656)/\aF 1 1 w ⟨(aA a0.a (0) (a0.c) 1),((((a0.c:Nat):Int):Int).toNat-0),(a0.c-0)⟩ ((ai (a1-(ai (((a0.c:Nat):Int)-((a0.n:Nat):Int))))):Int).toNat (bo [.int .u8 0] ((ai (a1-(ai (((a0.c:Nat):Int)-((a0.n:Nat):Int))))):Int).toNat)/\∀(s0:Sl)(w1:World),aD 5 1 w ⟨(aA a0.a (0) (a0.c) 1),((((a0.c:Nat):Int):Int).toNat-0),(a0.c-0)⟩ ((ai (a1-(ai (((a0.c:Nat):Int)-((a0.n:Nat):Int))))):Int).toNat (bo [.int .u8 0] ((ai (a1-(ai (((a0.c:Nat):Int)-((a0.n:Nat):Int))))):Int).toNat) s0 w1->
 (0:Int)<=((a0.n:Nat):Int)/\((a0.n:Nat):Int)<=((s0.c:Nat):Int)/\R (Value.slice (aA s0.a (0) (s0.c) 1) ((((a0.n:Nat):Int):Int).toNat-0) (s0.c-0)) w1)
 (R a0 w))):ah 246 #[a0,a1] w R:=
 cq cf Tryz.func246 h
end Go.Proofs.YtalpkjfpmdpbiaaGreatDoor
