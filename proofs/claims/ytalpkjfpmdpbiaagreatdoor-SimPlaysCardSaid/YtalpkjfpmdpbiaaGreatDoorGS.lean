import Derived.Test.YtalpkjfpmdpbiaaGreatDoorG
set_option linter.all false
namespace Go.Proofs.YtalpkjfpmdpbiaaGreatDoor
open Go Go.Vc Go.RowKit Go.Proofs
set_option maxRecDepth 100000
set_option maxHeartbeats 8000000
set_option linter.unusedVariables false
variable {R:Ending->World->Prop} {w:World} {a0 a1 a2 a3 a4 a5 a6 a7 a8 a9 aq ar av aI aJ aK aL aH bO eE ao ak aw dB gn gB gC gD fM gE db dR dO ln lO nv ym yn yp yq yt yu yw yx yy yz yA yB yC yD:Int}
def vL.vc{a0:Addr}(h:
 ∃(x0:Int),ld w (ae (some a0) 2)=some (.int .i64 x0)/\
 Br (x0>0)
 (∃(x1:Int),ld w (ae (some a0) 2)=some (.int .i64 x1)/\
 (true=true/\Wr w (ae (some a0) 2) 1)/\(∀w2,w2=bc w (ae (some a0) 2) [(ai (x1-1))]->
 R false w2))
 (∃(x3:Int),ld w (ae (some a0) 1)=some (.int .i64 x3)/\
 Br (x3>0)
 (∃(x4:Int),ld w (ae (some a0) 1)=some (.int .i64 x4)/\
 (true=true/\Wr w (ae (some a0) 1) 1)/\(∀w5,w5=bc w (ae (some a0) 1) [(ai (x4-1))]->
 R (Value.bool (decide (x3>0))) w5))
 (R (Value.bool (decide (x3>0))) w))):ah 232 #[a0] w R:=
 cq cc Tryz.func232 h
def Cb.vc{a0:Addr}{a2:Sl}(h:
 ah 232 #[a0] w (λe w0=>∃(b1:Bool),e=b1/\
 Br b1
 (R (9:Int) w0)
 (ah 202 #[a0] w0 (λe w2=>∃(m3:Option Nat),e=Value.map m3/\
 ∃(x4:Int),ld w2.drew (ae (some a0) 0)=some (.int .i64 x4)/\
 (ah 233 #[.map m3] w2.drew (λe w5=>∃(x6:Int),e=x6/\
 au w5 (ae (some a0) 0) 0 [x4]/\∃(G7:Value->Prop)(kvs8:List (Value × Value)),gQ Tryz.prog 3 G7/\bN G7 w5 m3 kvs8/\G7 a1/\∃(s9:Sl),∃Xl:Bool,B5 kvs8 a1 (.slice none 0 0) s9 Xl/\
 au w5 (ae (some a0) 0) 0 [x4]/\Br (decide (((ai (x6-((s9.n:Nat):Int))):Int)>(ai (x4-((a2.n:Nat):Int)))))
 (R (8:Int) w5)
 (∃(eO:Sl),ld w5.drew (ae (some a0) 4)=some (.slice eO.a eO.n eO.c)/\
 ah 203 #[a2] w5.drew (λe bS=>∃(gl:Sl),e=gl/\
 au bS (ae (some a0) 4) 0 [eO]/\Aw bS #[a1,gl] 289 λbY=>
 aF 32 2 bY eO 1 [a1,gl]/\∀(ji:Sl)(cY:World),aE 289 2 bY eO 1 [a1,gl] ji cY->Kp bS bY cY/\
 (true=true/\Wr cY (ae (some a0) 4) 1)/\cS (ae (some a0) 4)≠some bS.heap.size/\(∀cE,cE=bc cY (ae (some a0) 4) [ji]->
 R (0:Int) cE)))))/\(∃(G18:Value->Prop)(kvs19:List (Value × Value)),gQ Tryz.prog 3 G18/\bN G18 w2.drew m3 kvs19/\G18 a1/\∃(sM:Sl),∃b21:Bool,B5 kvs19 a1 (.slice none 0 0) sM b21/\
 au w2.drew (ae (some a0) 0) 0 [x4]/\ah 233 #[.map m3] w2.drew (λe ct=>∃(dc:Int),e=dc/\
 au ct (ae (some a0) 0) 0 [x4]/\Br (decide (((ai (dc-((sM.n:Nat):Int))):Int)>(ai (x4-((a2.n:Nat):Int)))))
 (R (8:Int) ct)
 (∃(kO:Sl),ld ct.drew (ae (some a0) 4)=some (.slice kO.a kO.n kO.c)/\
 ah 203 #[a2] ct.drew (λe eh=>∃(wu:Sl),e=wu/\
 au eh (ae (some a0) 4) 0 [kO]/\Aw eh #[a1,wu] 289 λjf=>
 aF 32 2 jf kO 1 [a1,wu]/\∀(sY:Sl)(fP:World),aE 289 2 jf kO 1 [a1,wu] sY fP->Kp eh jf fP/\
 (true=true/\Wr fP (ae (some a0) 4) 1)/\cS (ae (some a0) 4)≠some eh.heap.size/\(∀ia,ia=bc fP (ae (some a0) 4) [sY]->
 R (0:Int) ia))))))))):ah 194 #[a0,a1,a2] w R:=
 cq cc Tryz.func194 h
def AF.vc{a0:Addr}(h:
 ah 232 #[a0] w (λe w0=>∃(b1:Bool),e=b1/\
 Br b1
 (R (9:Int) w0)
 (ah 202 #[a0] w0 (λe w2=>∃(m3:Option Nat),e=Value.map m3/\
 (true=true/\Wr w2 (ae (some a0) 3) 1)/\(∀w4,w4=bc w2 (ae (some a0) 3) [.map m3]->
 (true=true/\Wr w4 (ae (some a0) 4) 1)/\(∀w5,w5=bc w4 (ae (some a0) 4) [.slice none 0 0]->
 R (0:Int) w5)))))):ah 195 #[a0] w R:=
 cq cc Tryz.func195 h
def Pq.vc{a0:Sl}(h:
 ∃I0:Nat->Int->Sl->World->Prop,
 (∃n1,I0 n1 ((ai (a2-1))) a0 w)/\
 ∀(n1:Nat)(oB:Nat->Value)(x3:Int)(s4:Sl)(w5:World),I0 n1 x3 s4 w5->
 Br (x3>=0)
 (bk (Zp (ai (8*x3))) (Aw w5 #[.int .u8 (mg ((a1:Int).fdiv (2 ^(min ((ai (8*x3)):Int).toNat 64))))] 5 λw7=>
 aF 1 1 w7 s4 1 [.int .u8 (mg ((a1:Int).fdiv (2 ^(min ((ai (8*x3)):Int).toNat 64))))]/\∀(s8:Sl)(w9:World),aE 5 1 w7 s4 1 [.int .u8 (mg ((a1:Int).fdiv (2 ^(min ((ai (8*x3)):Int).toNat 64))))] s8 w9->Kp w5 w7 w9/\
 ∃n6,n6<n1/\I0 n6 ((ai (x3-1))) s8 w9))
 (R s4 w5)):ah 229 #[a0,a1,a2] w R:=
 cq ⟨[(2,⟨[(7,.int .i64),(0,.slice)],[],[]⟩)],[],[]⟩ Tryz.func229 h
def LH.vc{a0:Sl}(h:
 ∃I0:Nat->Int->Int->World->Prop,
 (∃n1,I0 n1 (0) (0) w)/\
 ∀(n1:Nat)(oB:Nat->Value)(x3 x4:Int)(w5:World),I0 n1 x3 x4 w5->
 Br (decide (x3<((a0.n:Nat):Int)))
 (cA a0.a x3 a0.n/\∃(x7:Int),ld w5 (ae a0.a ((x3:Int).toNat*1))=some (.int .u8 x7)/\
 ∃n6,n6<n1/\I0 n6 ((ai (x3+1))) ((Gk .i64 (ai (x4*2 ^(min (8:Int).toNat 64))) (ai x7))) w5)
 (R x4 w5)):ah 205 #[a0] w R:=
 cq ⟨[(3,⟨[(8,.int .i64),(3,.int .i64)],[],[]⟩)],[],[]⟩ Tryz.func205 h
def H8.vc{a1:Sl}(h:
 Br (a0<1)
 (R (Value.tuple #[.slice none 0 0,(1:Int)]) w)
 (Br (a0>1073741824)
 (R (Value.tuple #[.slice none 0 0,(1:Int)]) w)
 (Br (decide ((((a1.n:Nat):Int):Int)>65536))
 (R (Value.tuple #[.slice none 0 0,(1:Int)]) w)
 (ah 229 #[.slice none 0 0,a0,(4:Int)] w (λe w0=>∃(s1:Sl),e=s1/\
 ah 229 #[s1,((a1.n:Nat):Int),(3:Int)] w0 (λe w2=>∃(s3:Sl),e=s3/\
 Aw w2 #[s3,a1] 132 λw4=>
 ah 231 #[.slice (bu w2) 2 2] w4 (λe w5=>∃(s6:Sl),e=s6/\
 ah 230 #[s6] w5 (λe w7=>∃(s8:Sl),e=s8/\
 R (Value.tuple #[s8,af]) w7)))))))):ah 193 #[a0,a1] w R:=
 cq cc Tryz.func193 h
def vY.vc{a0:Addr}{a2:Sl}(h:
 ah 117 #[a1] w (λe w0=>∃(b1:Bool),e=b1/\
 Br (!b1)
 (R (1:Int) w0)
 (ah 118 #[a0,a1] w0 (λe w2=>∃(x3 x4:Int)(s5:Sl),e=Value.agg #[x3,x4,s5]/\
 Aw w2 #[af,af,.slice none 0 0] 186 λw6=>
 Sw w6 w2 #[x3,x4,s5] λw7=>
 ah 193 #[(ai (x4+1)),a2] w7 (λe w8=>∃(s9:Sl)(bq:Int),e=Value.tuple #[s9,bq]/\Kp w2 w7 w8/\
 Br (bq !=0)
 (R bq w8)
 (∃(p11:Option Addr),ld w8.drew (ae (ae (some a0) 0) 0)=some (.pointer p11)/\
 ah 194 #[p11,(gI .i64 x3 1),s9] w8.drew (Ri λcz bS=>Kp w2 w8.drew bS/\
 au bS (bu w2) 0 [x3]/\Br (cz !=0)
 (R cz bS)
 (∃(p14:Option Addr),ld bS (ae (ae (some a0) 0) 0)=some (.pointer p14)/\
 ah 195 #[p14] bS (Ri λcQ cU=>Kp w2 bS cU/\
 R cQ cU))))))))):ah 151 #[a0,a1,a2] w R:=
 cq cc Tryz.func151 h
def xX.vc{a0:Addr}(h:
 Aw w #[af,af,.slice none 0 0] 186 λw0=>
 Aw w0 #[af,af,.slice none 0 0] 186 λw1=>
 Sw w1 w0 #[(ai ((ai (2*a1))+1)),af,.slice none 0 0] λw2=>
 ∃I3:Nat->Int->Int->Int->Sl->World->Prop,
 (∃n4,aP [af,af,.slice none 0 0]/\I3 n4 (0) ((ai ((ai (2*a1))+1))) (0) ⟨none,0,0⟩ w2)/\
 ∀(n4:Nat)(us5:Nat->Value)(x6 x7 x8:Int)(s9:Sl)(bL:World),I3 n4 x6 x7 x8 s9 bL->
 Br (x6<2)
 (((0:Int)<=x6/\x6<((2:Nat):Int))/\∃(bU:Int),([(ai (2*a1)),(ai ((ai (2*a1))+1))]:LV)[(x6:Int).toNat*1]? =some (.int .i64 bU)/\
 ∃(p13:Option Addr),ld bL (ae (ae (some a0) 0) 0)=some (.pointer p13)/\
 ah 158 #[p13,bU] bL (λe bY=>∃(ji:Sl)(b16:Bool),e=Value.tuple #[ji,b16]/\K2 w w0 bL bY (
 ah 159 #[ji] bY (λe cE=>∃(cf:Int)(pg:Sl)(du:Int),e=Value.tuple #[cf,pg,du]/\K2 w w0 bY cE (
 Br (du==0)
 (Br (cf>x8)
 (Sw cE w0 #[bU,cf,pg] λef=>
 ∃xq,xq<n4/\aP [af,af,.slice none 0 0]/\I3 xq ((ai (x6+1))) bU cf pg ef)
 (∃xq,xq<n4/\aP [af,af,.slice none 0 0]/\I3 xq ((ai (x6+1))) x7 x8 s9 cE))
 (∃xq,xq<n4/\aP [af,af,.slice none 0 0]/\I3 xq ((ai (x6+1))) x7 x8 s9 cE))))))
 (Sw bL w #[x7,x8,s9] λct=>
 R (Value.agg #[x7,x8,s9]) ct)):ah 118 #[a0,a1] w R:=
 cq ⟨[(3,⟨[(23,.int .i64)],[(1,[.int .i64,.int .i64,.slice])],[]⟩)],[],[]⟩ Tryz.func118 h
def V9.vc{a0:Sl}(h:
 ah 244 #[a0] w (λe w0=>∃(x1:Int),e=Value.int .u16 x1/\
 ah 245 #[.int .u16 x1] w0 (λe w2=>∃(x3 x4:Int),e=Value.agg #[.int .u8 x3,.int .u8 x4]/\
 Aw w2 #[.int .u8 0,.int .u8 0] 296 λw5=>
 Wt w5 ⟨w2,0,none⟩ 2/\(∀w6,w6=bc w5 (bu w2) [.int .u8 x3,.int .u8 x4]->
 Aw w6 #[a0,.slice (aA (bu w2) (0) (2) 1) (2-0) (2-0)] 132 λw7=>
 ah 231 #[.slice (bu w6) 2 2] w7 (λe w8=>∃(s9:Sl),e=s9/\
 R s9 w8))))):ah 230 #[a0] w R:=
 cq cc Tryz.func230 h
def S5.vc{a0:Sl}(h:
 Br (decide ((((a0.n:Nat):Int):Int)>=2))
 (ah 244 #[a0] w (λe w0=>∃(x1:Int),e=Value.int .u16 x1/\
 R (Value.bool (x1==0)) w0))
 (R false w)):ah 237 #[a0] w R:=
 cq cc Tryz.func237 h
def aac.vc{a0:Sl}(h:
 ah 251 #[] w (λe w0=>∃(x1:Int),e=Value.int .u16 x1/\
 ah 252 #[.int .u16 x1,a0] w0 (λe w2=>∃(x3:Int),e=Value.int .u16 x3/\
 R (Value.int .u16 x3) w2))):ah 244 #[a0] w R:=
 cq cc Tryz.func244 h
def xY.vc(h:
 Aw w #[.int .u8 0,.int .u8 0] 296 λw0=>
 Wt w0 ⟨w,0,none⟩ 2/\(∀w1,w1=bc w0 w [.int .u8 (mg ((a0:Int).fdiv (2 ^(min (8:Int).toNat 16)))),.int .u8 (mg a0)]->
 ∃(x2 x3:Int),au w1 w 0 [.int .u8 x2,.int .u8 x3]/\
 R (Value.agg #[.int .u8 x2,.int .u8 x3]) w1)):ah 245 #[.int .u16 a0] w R:=
 cq cc Tryz.func245 h
def Pr.vc(h:
 R (Value.int .u16 65535) w):ah 251 #[] w R:=
 cq cc Tryz.func251 h
def AG.vc{a1:Sl}(h:
 ah 257 #[] w (λe w0=>∃(x1 x2 x3 x4 x5 x6 x7 x8 x9 bq bR bU cz bW bw cQ:Int),e=Value.agg #[.int .u16 x1,.int .u16 x2,.int .u16 x3,.int .u16 x4,.int .u16 x5,.int .u16 x6,.int .u16 x7,.int .u16 x8,.int .u16 x9,.int .u16 bq,.int .u16 bR,.int .u16 bU,.int .u16 cz,.int .u16 bW,.int .u16 bw,.int .u16 cQ]/\
 Aw w0 #[.int .u16 0,.int .u16 0,.int .u16 0,.int .u16 0,.int .u16 0,.int .u16 0,.int .u16 0,.int .u16 0,.int .u16 0,.int .u16 0,.int .u16 0,.int .u16 0,.int .u16 0,.int .u16 0,.int .u16 0,.int .u16 0] 314 λcE=>
 Wt cE ⟨w0,0,none⟩ 16/\(∀dA,dA=bc cE (bu w0) [.int .u16 x1,.int .u16 x2,.int .u16 x3,.int .u16 x4,.int .u16 x5,.int .u16 x6,.int .u16 x7,.int .u16 x8,.int .u16 x9,.int .u16 bq,.int .u16 bR,.int .u16 bU,.int .u16 cz,.int .u16 bW,.int .u16 bw,.int .u16 cQ]->
 ∃I19:Nat->Int->Int->World->Prop,
 (∃n20,I19 n20 (0) a0 dA)/\
 ∀(n20:Nat)(ajm:Nat->Value)(eK dc:Int)(fy:World),I19 n20 eK dc fy->
 Br (decide (eK<((a1.n:Nat):Int)))
 (cA a1.a eK a1.n/\∃(dZ:Int),ld fy (ae a1.a ((eK:Int).toNat*1))=some (.int .u8 dZ)/\
 (0:Int)<=(gI .u16 ((dc:Int).fdiv (2 ^(min (12:Int).toNat 16))) (kI ((dZ:Int).fdiv (2 ^(min (4:Int).toNat 8)))))/\((gI .u16 ((dc:Int).fdiv (2 ^(min (12:Int).toNat 16))) (kI ((dZ:Int).fdiv (2 ^(min (4:Int).toNat 8))))):Int)<((16:Nat):Int)/\∃(dp:Int),ld fy (ae (bu w0) (((gI .u16 ((dc:Int).fdiv (2 ^(min (12:Int).toNat 16))) (kI ((dZ:Int).fdiv (2 ^(min (4:Int).toNat 8))))):Int).toNat*1))=some (.int .u16 dp)/\
 (0:Int)<=(gI .u16 (((gI .u16 (kI (dc*2 ^(min (4:Int).toNat 16))) dp):Int).fdiv (2 ^(min (12:Int).toNat 16))) (kI (BX .u8 dZ 15)))/\((gI .u16 (((gI .u16 (kI (dc*2 ^(min (4:Int).toNat 16))) dp):Int).fdiv (2 ^(min (12:Int).toNat 16))) (kI (BX .u8 dZ 15))):Int)<((16:Nat):Int)/\∃(eS:Int),ld fy (ae (bu w0) (((gI .u16 (((gI .u16 (kI (dc*2 ^(min (4:Int).toNat 16))) dp):Int).fdiv (2 ^(min (12:Int).toNat 16))) (kI (BX .u8 dZ 15))):Int).toNat*1))=some (.int .u16 eS)/\
 ∃n25,n25<n20/\I19 n25 ((ai (eK+1))) ((gI .u16 (kI ((gI .u16 (kI (dc*2 ^(min (4:Int).toNat 16))) dp)*2 ^(min (4:Int).toNat 16))) eS)) fy)
 (R (Value.int .u16 dc) fy)))):ah 252 #[.int .u16 a0,a1] w R:=
 cq ⟨[(3,⟨[(11,.int .i64),(0,.int .u16)],[],[]⟩)],[],[]⟩ Tryz.func252 h
def Ps.vc(h:
 Aw w #[.int .u16 0,.int .u16 0,.int .u16 0,.int .u16 0,.int .u16 0,.int .u16 0,.int .u16 0,.int .u16 0,.int .u16 0,.int .u16 0,.int .u16 0,.int .u16 0,.int .u16 0,.int .u16 0,.int .u16 0,.int .u16 0] 314 λw0=>
 Aw w0 #[.int .u16 0,.int .u16 0,.int .u16 0,.int .u16 0,.int .u16 0,.int .u16 0,.int .u16 0,.int .u16 0,.int .u16 0,.int .u16 0,.int .u16 0,.int .u16 0,.int .u16 0,.int .u16 0,.int .u16 0,.int .u16 0] 314 λw1=>
 ∃I2:Nat->Int->World->Prop,
 (∃n3,I2 n3 (0) w1)/\
 ∀(n3:Nat)(VH:Nat->Value)(x5:Int)(w6:World),I2 n3 x5 w6->
 Br (x5<16)
 (∃I8:Nat->Int->Int->World->Prop,
 (∃n9,I8 n9 (0) ((kI ((kI x5)*2 ^(min (12:Int).toNat 16)))) w6)/\
 ∀(n9:Nat)(Xm:Nat->Value)(bR bU:Int)(cC:World),I8 n9 bR bU cC->
 Br (bR<4)
 (ah 263 #[.int .u16 bU] cC (λe cU=>∃(cQ:Int),e=Value.int .u16 cQ/\
 ∃NL,NL<n9/\I8 NL ((ai (bR+1))) cQ cU))
 ((0:Int)<=x5/\x5<((16:Nat):Int)/\(true=true/\Wr cC (ae (bu w0) ((x5:Int).toNat*1)) 1)/\(∀cE,cE=bc cC (ae (bu w0) ((x5:Int).toNat*1)) [.int .u16 bU]->
 ∃n7,n7<n3/\I2 n7 ((ai (x5+1))) cE)))
 (∃(cf cK du fT eK dc de da dZ dp eS iO oT iN jB gx:Int),au w6 (bu w0) 0 [.int .u16 cf,.int .u16 cK,.int .u16 du,.int .u16 fT,.int .u16 eK,.int .u16 dc,.int .u16 de,.int .u16 da,.int .u16 dZ,.int .u16 dp,.int .u16 eS,.int .u16 iO,.int .u16 oT,.int .u16 iN,.int .u16 jB,.int .u16 gx]/\
 Wt w6 ⟨w,0,none⟩ 16/\(∀ly,ly=bc w6 w [.int .u16 cf,.int .u16 cK,.int .u16 du,.int .u16 fT,.int .u16 eK,.int .u16 dc,.int .u16 de,.int .u16 da,.int .u16 dZ,.int .u16 dp,.int .u16 eS,.int .u16 iO,.int .u16 oT,.int .u16 iN,.int .u16 jB,.int .u16 gx]->
 ∃(jy kF gk je kB nG jC lU kG jI lp pj mc sH j4 CC:Int),au ly w 0 [.int .u16 jy,.int .u16 kF,.int .u16 gk,.int .u16 je,.int .u16 kB,.int .u16 nG,.int .u16 jC,.int .u16 lU,.int .u16 kG,.int .u16 jI,.int .u16 lp,.int .u16 pj,.int .u16 mc,.int .u16 sH,.int .u16 j4,.int .u16 CC]/\
 R (Value.agg #[.int .u16 jy,.int .u16 kF,.int .u16 gk,.int .u16 je,.int .u16 kB,.int .u16 nG,.int .u16 jC,.int .u16 lU,.int .u16 kG,.int .u16 jI,.int .u16 lp,.int .u16 pj,.int .u16 mc,.int .u16 sH,.int .u16 j4,.int .u16 CC]) ly))):ah 257 #[] w R:=
 cq ⟨[(8,⟨[(11,.int .i64),(4,.int .u16)],[],[]⟩),(4,⟨[(5,.int .i64)],[],[]⟩)],[],[]⟩ Tryz.func257 h
def H9.vc(h:
 Br (((BX .u16 a0 32768):Int) !=0)
 (R (Value.int .u16 (gI .u16 (kI (a0*2 ^(min (1:Int).toNat 16))) 4129)) w)
 (R (Value.int .u16 (kI (a0*2 ^(min (1:Int).toNat 16)))) w)):ah 263 #[.int .u16 a0] w R:=
 cq cc Tryz.func263 h
def rL.vc{a0:Sl}(h:
 ∃I0:Nat->Int->Int->World->Prop,
 (∃n1,I0 n1 (0) (0) w)/\
 ∀(n1:Nat)(oB:Nat->Value)(x3 x4:Int)(w5:World),I0 n1 x3 x4 w5->
 Br (decide (x3<((a0.n:Nat):Int)))
 (cA a0.a x3 a0.n/\∃(s7:Sl),ld w5 (ae a0.a ((x3:Int).toNat*1))=some (.slice s7.a s7.n s7.c)/\
 Br (decide (((ai (x4+((s7.n:Nat):Int))):Int)<0))
 (False)
 (∃n6,n6<n1/\I0 n6 ((ai (x3+1))) ((ai (x4+((s7.n:Nat):Int)))) w5))
 (ah 246 #[.slice none 0 0,x4] w5 (λe w8=>∃(s9:Sl),e=s9/\
 ∃I10:Nat->Int->Sl->World->Prop,
 (∃xq,I10 xq (0) s9 w8)/\
 ∀(xq:Nat)(aaE:Nat->Value)(cz:Int)(sX:Sl)(cU:World),I10 xq cz sX cU->
 Br (decide (cz<((a0.n:Nat):Int)))
 (cA a0.a cz a0.n/\∃(gF:Sl),ld cU (ae a0.a ((cz:Int).toNat*1))=some (.slice gF.a gF.n gF.c)/\
 ∃l18:LV,Rd cU gF.a l18/\aF 1 1 cU sX gF.n l18/\∀(pg:Sl)(dY:World),aE 5 1 cU sX gF.n l18 pg dY->
 ∃VB,VB<xq/\I10 VB ((ai (cz+1))) pg dY)
 (R sX cU)))):ah 231 #[a0] w R:=
 cq ⟨[(11,⟨[(27,.int .i64),(6,.slice)],[],[]⟩),(3,⟨[(11,.int .i64),(3,.int .i64)],[],[]⟩)],[],[]⟩ Tryz.func231 h
def vq.vc{a0:Sl}(h:
 Br (a1<0)
 (False)
 (Br (decide (((ai (a1-(ai (((a0.c:Nat):Int)-((a0.n:Nat):Int))))):Int)>0))
 ((0:Int)<=((a0.c:Nat):Int)/\((a0.c:Nat):Int)<=((a0.c:Nat):Int)/\((0:Int)<=(ai (a1-(ai (((a0.c:Nat):Int)-((a0.n:Nat):Int)))))/\ai (ai (a1-(ai (((a0.c:Nat):Int)-((a0.n:Nat):Int)))))=(ai (a1-(ai (((a0.c:Nat):Int)-((a0.n:Nat):Int)))))/\((ai (a1-(ai (((a0.c:Nat):Int)-((a0.n:Nat):Int))))):Int)*1<=281474976710656)/\aF 1 1 w ⟨(aA a0.a (0) (a0.c) 1),((((a0.c:Nat):Int):Int).toNat-0),(a0.c-0)⟩ ((ai (a1-(ai (((a0.c:Nat):Int)-((a0.n:Nat):Int))))):Int).toNat (br [.int .u8 0] ((ai (a1-(ai (((a0.c:Nat):Int)-((a0.n:Nat):Int))))):Int).toNat)/\∀(s0:Sl)(w1:World),aE 5 1 w ⟨(aA a0.a (0) (a0.c) 1),((((a0.c:Nat):Int):Int).toNat-0),(a0.c-0)⟩ ((ai (a1-(ai (((a0.c:Nat):Int)-((a0.n:Nat):Int))))):Int).toNat (br [.int .u8 0] ((ai (a1-(ai (((a0.c:Nat):Int)-((a0.n:Nat):Int))))):Int).toNat) s0 w1->
 (0:Int)<=((a0.n:Nat):Int)/\((a0.n:Nat):Int)<=((s0.c:Nat):Int)/\R (Value.slice (aA s0.a (0) (s0.c) 1) ((((a0.n:Nat):Int):Int).toNat-0) (s0.c-0)) w1)
 (R a0 w))):ah 246 #[a0,a1] w R:=
 cq cc Tryz.func246 h
end Go.Proofs.YtalpkjfpmdpbiaaGreatDoor
