import Derived.Test.YtkkkfkopcfdmaaaGreatDoorF
import Derived.Test.YtkkkfkopcfdmaaaGreatDoorG
import Derived.Test.YtkkkfkopcfdmaaaGreatDoorD
set_option linter.all false
namespace Go.Proofs.YtkkkfkopcfdmaaaGreatDoor
open Go Go.Vc Go.RowKit Go.Proofs Tryz
set_option maxRecDepth 100000
set_option maxHeartbeats 8000000
variable {R:Ending->World->Prop} {w:World} {a0 a1 a2 aE au aB aH aG aM dW:Int}
def ac0.vc(h:
 Aw w #[aE,au,aB] 41 λw0=>
 Aw w0 #[ai,ai,ai] 41 λw1=>
 ae 220 #[aE] w1.drew (Ri λx3 w2=>K2 w w0 w1.drew w2 (
 ah w2 (fP w 2) 0 [aB]/\ah w2 (fP w 1) 0 [au]/\ae 220 #[au] w2 (Ri λx5 w4=>K2 w w0 w2 w4 (
 ah w4 (fP w 2) 0 [aB]/\ae 220 #[aB] w4 (Ri λx7 w6=>K2 w w0 w4 w6 (
 Sw w6 w0 #[x3,x5,x7] λw8=>
 R (qY #[x3,x5,x7]) w8))))))):ae 210 #[.agg #[aE,au,aB]] w R:=
 cq bG func210 h
def ac1.vc(h:(λA=>
 R (Value.int .i64 (if 2147483648<A then 2147483648 else A)) w) (if (-2147483648)>a0 then (-2147483648) else a0)):ae 220 #[a0] w R:=
 cq bG func220 h
def Yq.vc(h:(λA=>
 Aw w #[aE,au,aB] 41 λw0=>
 Aw w0 #[ai,ai,ai,ai,ai,ai,ai,ai,ai,ai,ai,ai,ai,ai,ai,ai,ai,ai] 186 λw1=>
 ae 219 #[A,ai,ai,w] w1 (T9 λx3 x4 x5 w2=>ae 219 #[(1:Int),ai,ai,w] w2 (T9 λx7 x8 x9 w6=>ae 219 #[ai,A,ai,w] w6 (T9 λbK bW cR bo=>ae 219 #[ai,(1:Int),ai,w] bo (T9 λcW du dH bH=>ae 219 #[ai,ai,A,w] bH (T9 λdb dN eO dI=>ae 219 #[ai,ai,(1:Int),w] dI (T9 λfC gW eZ dm=>(Pt dm ⟨w0,0,none⟩ 18 [x3,x4,x5,x7,x8,x9,bK,bW,cR,cW,du,dH,db,dN,eO,fC,gW,eZ] λgx=>
 ∃(jm nv jk nu lp lr fD jO oV oW lh km qv pF om qU zp pk:Int),ah gx (aD w0) 0 [jm,nv,jk,nu,lp,lr,fD,jO,oV,oW,lh,km,qv,pF,om,qU,zp,pk]/\
 R (qY #[jm,nv,jk,nu,lp,lr,fD,jO,oV,oW,lh,km,qv,pF,om,qU,zp,pk]) gx)))))))) (-1:Int)):ae 159 #[.agg #[aE,au,aB]] w R:=
 cq bG func159 h
def PO.vc{c0:Addr}(h:(λA=>
 Aw w #[ai,ai,ai] 41 λw0=>
 kW w0.drew (af A 0) λx1=>
 kW w0.drew (af A 1) λx2=>
 kW w0.drew (af A 2) λx3=>
 ae 220 #[x1] w0.drew (Ri λx5 w4=>Kp w w0.drew w4/\
 ah w4 (af A 2) 0 [x3]/\ah w4 (af A 1) 0 [x2]/\ae 220 #[x2] w4 (Ri λx7 w6=>Kp w w4 w6/\
 ah w6 (af A 2) 0 [x3]/\ae 220 #[x3] w6 (Ri λx9 w8=>Kp w w6 w8/\
 ae 210 #[.agg #[(aw (x5+a0)),(aw (x7+a1)),(aw (x9+a2))]] w8 (jl λbK bW cR bo=>Kp w w8 bo/\
 Sw bo w #[bK,bW,cR] λbH=>
 R (qY #[bK,bW,cR]) bH))))) (some c0)):ae 219 #[a0,a1,a2,c0] w R:=
 cq bG func219 h
def Ua.vc(h:
 ae 243 #[a0] w (EK λb1 w0=>Br b1
 (R (2:Int) w0)
 (ae 202 #[a0] w0 (EK λb3 w2=>Br b3
 (R (5:Int) w2)
 (R (0:Int) w2))))):ae 223 #[a0] w R:=
 cq bG func223 h
def Ub.vc{a0:Value}(h:(λA B=>
 Aw w A 41 λw0=>
 ae 159 #[.agg A] w0 (Mq λx2 x3 x4 x5 x6 x7 x8 x9 bE bK bW cR cB cW du dH dc db w1=>Kp w w0 w1/\
 ((0:Int)<=3/\(3:Int)<((6:Nat):Int))/\∃(dN eO fN:Int),(([x2,x3,x4,x5,x6,x7,x8,x9,bE,bK,bW,cR,cB,cW,du,dH,dc,db]:LV).drop ((3:Int).toNat*3)).take 3=[.int .i64 dN,.int .i64 eO,.int .i64 fN]/\
 bB Tryz.prog a0 [.agg #[dN,eO,fN]] w1 (Ri λgW fQ=>Kp w w1 fQ/\
 ae 202 #[gW] fQ (Rb λKh cZ=>Kp w fQ cZ/\
 Br Kh
 (R (dS #[(1:Int),true]) cZ)
 (ae 303 #[.agg A] cZ (Rs λs28 fy=>Kp w cZ fy/\
 se (λI29 n30=>aN B/\I29 n30 (0) (7) fy) λI29 n30 ayi lr fD lq=>
 Br (decide (lr<((s28.n:Nat):Int)))
 (eL s28.a lr s28.n/\gM lq (af s28.a ((lr:Int).toNat*3)) λoW lh km=>
 Aw lq #[ai,ai,ai] 41 λkR=>
 Sw kR lq #[oW,lh,km] λkz=>
 bB Tryz.prog a0 [.agg #[oW,lh,km]] kz (Ri λqU oF=>K2 w lq kz oF (
 ae 280 #[qU] oF (Ri λpk jW=>K2 w lq oF jW (
 Br (pk>=0)
 (∃n35,n35<n30/\aN B/\I29 n35 ((aw (lr+1))) ((if pk<fD then pk else fD)) jW)
 (∃n35,n35<n30/\aN B/\I29 n35 ((aw (lr+1))) fD jW))))))
 (Br (fD==7)
 (R (dS #[ai,false]) lq)
 (R (dS #[(aw (fD+1)),true]) lq)))))))) #[aH,aG,aM] [aH,aG,aM]):ae 301 #[a0,.agg #[aH,aG,aM]] w R:=
 cq (Yc 5 19 6) func301 h
def Ya.vc{a0:Value}(h:(λA=>
 Aw w A 41 λw0=>
 bB Tryz.prog a0 [.agg A] w0 (Ri λx2 w1=>Kp w w0 w1/\
 ae 243 #[x2] w1 (Rb λb4 w3=>Kp w w1 w3/\
 Br b4
 (ae 278 #[a0,.agg A] w3 (Rs λs6 w5=>Kp w w3 w5/\
 R s6 w5))
 (ae 202 #[x2] w3 (Rb λb8 w7=>Kp w w3 w7/\
 Br b8
 (ae 280 #[x2] w7.drew (Ri λbE w9=>Kp w w7.drew w9/\
 ah w9 w 0 [aH,aG,aM]/\ae 279 #[a0,.agg A,bE] w9 (Rs λpj bw=>Kp w w9 bw/\
 R pj bw)))
 (R (Value.slice none 0 0) w7)))))) #[aH,aG,aM]):ae 242 #[a0,.agg #[aH,aG,aM]] w R:=
 cq bG func242 h
def Uc.vc{a0:Value}(h:(λA B=>
 Aw w B 41 λw0=>
 ae 159 #[.agg B] w0 (Mq λx2 x3 x4 x5 x6 x7 x8 x9 bE bK bW cR cB cW du dH dc db w1=>Kp w w0 w1/\
 Aw w1 #[ai,ai,ai,ai,ai,ai,ai,ai,ai,ai,ai,ai,ai,ai,ai,ai,ai,ai] 186 λfx=>
 Wt fx ⟨w1,0,none⟩ 18/\Nb w1 w/\(Pw fx (aD w1) [x2,x3,x4,x5,x6,x7,x8,x9,bE,bK,bW,cR,cB,cW,du,dH,dc,db] λdU=>
 Aw dU.drew B 41 λdm=>
 ∃l23:LV,Rd dm (aI (aD w1) (0) (6) 3) l23/\ba 24 3 dm ⟨(aD dU.drew.heap.size),1,1⟩ (6-0) l23/\∀(zM:Sl)(cZ:World),aX 41 3 dm ⟨(aD dU.drew.heap.size),1,1⟩ (6-0) l23 zM cZ->Kp w dm cZ/\cZ.heap[dU.drew.heap.size]? =dm.heap[dU.drew.heap.size]?/\
 oz (λXI V2=>aN A/\aN A/\XI V2 (0) ⟨none,0,0⟩ cZ) λXI V2 arH jk xY gS=>
 Br (decide (jk<((zM.n:Nat):Int)))
 (eL zM.a jk zM.n/\gM gS (af zM.a ((jk:Int).toNat*3)) λfD jO oV=>
 Aw gS #[ai,ai,ai] 41 λkH=>
 Sw kH gS #[fD,jO,oV] λiR=>
 bB Tryz.prog a0 [.agg #[fD,jO,oV]] iR (Ri λqv oE=>Kp w iR oE/\oE.heap[dU.drew.heap.size]? =iR.heap[dU.drew.heap.size]?/\Kp gS iR oE/\
 ae 223 #[qv] oE (Ri λom kz=>Kp w oE kz/\kz.heap[dU.drew.heap.size]? =oE.heap[dU.drew.heap.size]?/\Kp gS oE kz/\
 Br (om>0)
 (Aw kz #[fD,jO,oV] 41 λlf=>
 ba 24 3 lf xY 1 [fD,jO,oV]/\∀(s43:Sl)(me:World),aX 41 3 lf xY 1 [fD,jO,oV] s43 me->Kp w lf me/\me.heap[dU.drew.heap.size]? =lf.heap[dU.drew.heap.size]?/\K2 gS kz lf me (
 ∃n32,n32<V2/\aN A/\aN A/\XI n32 ((aw (jk+1))) s43 me))
 (∃n32,n32<V2/\aN A/\aN A/\XI n32 ((aw (jk+1))) xY kz))))
 (R xY gS)))) [aH,aG,aM] #[aH,aG,aM]):ae 222 #[a0,.agg #[aH,aG,aM]] w R:=
 cq (anS 4 16 5) func222 h
def PQ.vc(h:(λA B=>
 Aw w #[aE,au,aB] 41 λw0=>
 ae 159 #[.agg #[aE,au,aB]] w0 (Mq λx2 x3 x4 x5 x6 x7 x8 x9 bE bK bW cR cB cW du dH dc db w1=>(λAa=>Kp w w0 w1/\
 Aw w1 #[ai,ai,ai,ai,ai,ai,ai,ai,ai,ai,ai,ai,ai,ai,ai,ai,ai,ai] 186 λfx=>
 Wt fx ⟨w1,0,none⟩ 18/\Nb w1 w/\(Pw fx (aD w1) [x2,x3,x4,x5,x6,x7,x8,x9,bE,bK,bW,cR,cB,cW,du,dH,dc,db] λdU=>
 (0:Int)<=2/\2<=((6:Nat):Int)/\(0:Int)<=2/\(2:Int)<=2/\(0:Int)<=4/\4<=((6:Nat):Int)/\∃l22:LV,Rd dU.drew (aI (aD w1) ((4:Int).toNat) (6) 3) l22/\ba 24 3 dU.drew ⟨Aa,A,A⟩ B l22/\∀(s23:Sl)(gC:World),aX 41 3 dU.drew ⟨Aa,A,A⟩ B l22 s23 gC->Kp w dU.drew gC/\
 R s23 gC)) (aI (aD w1) (0) ((2:Int).toNat) 3))) ((2:Int).toNat-0) (6-(4:Int).toNat)):ae 303 #[.agg #[aE,au,aB]] w R:=
 cq bG func303 h
def Yr.vc{a0:Value}(h:
 Aw w #[aH,aG,aM] 41 λw0=>
 ae 159 #[.agg #[aH,aG,aM]] w0 (Mq λx2 x3 x4 x5 x6 x7 x8 x9 bE bK bW cR cB cW du dH dc db w1=>Kp w w0 w1/\
 ((0:Int)<=2/\(2:Int)<((6:Nat):Int))/\∃(dN eO fN:Int),(([x2,x3,x4,x5,x6,x7,x8,x9,bE,bK,bW,cR,cB,cW,du,dH,dc,db]:LV).drop ((2:Int).toNat*3)).take 3=[.int .i64 dN,.int .i64 eO,.int .i64 fN]/\
 Aw w1 #[ai,ai,ai] 41 λfQ=>
 Sw fQ w1 #[dN,eO,fN] λgC=>
 bB Tryz.prog a0 [.agg #[dN,eO,fN]] gC (Ri λjN cZ=>K2 w w1 gC cZ (
 ae 144 #[jN] cZ (Rb λXH fy=>K2 w w1 cZ fy (
 Br (!XH)
 (R (Value.slice none 0 0) fy)
 (Aw fy #[aH,aG,aM,jN,dN,eO,fN,(3:Int)] 289 λeG=>
 R (Value.slice (aD fy) 2 2) eG))))))):ae 278 #[a0,.agg #[aH,aG,aM]] w R:=
 cq bG func278 h
def ahf.vc{a0:Addr}(h:(λA=>
 ae 97 #[(4096:Int)] w (AG λp1 w0=>Aw w0 #[p1,a0,.int .i64 (if 64<A then 64 else A),(0:Int),.func (.func 98) #[] #[],.slice none 0 0] 130 λw2=>
 R (Value.pointer (aD w0)) w2)) (if 1>a1 then 1 else a1)):ae 40 #[a0,a1] w R:=
 cq bG func40 h
def JA.vc{a0:Addr}(h:
 gZ w (af (some a0) 1) λp0=>
 R p0 w):ae 18 #[a0] w R:=
 cq bG func18 h
def EM.vc{a0:Addr}(h:
 gZ w (af (some a0) 0) λp0=>
 ae 138 #[p0] w (ua λs2 w1=>R s2 w1)):ae 82 #[a0] w R:=
 cq bG func82 h
def Ha.vc{a0:Addr}{f1:Fn}{p1 q1:Array Value}(h:
 ((Pv w (af (some a0) 4) 1 [.func f1 p1 q1] λw0=>
 R ya w0))):ae 118 #[a0,.func f1 p1 q1] w R:=
 cq bG func118 h
def PR.vc{a0:Addr}(h:
 kW w (af (some a0) 3) λx0=>
 R x0 w):ae 68 #[a0] w R:=
 cq bG func68 h
def MC.vc{a0:Addr}(h:(λA=>
 Aw w A 41 λw0=>
 gZ w0.drew (af (some a0) 1) λp1=>
 ae 161 #[p1,.agg A,a2] w0.drew (Ri λx3 w2=>Kp w w0.drew w2/\
 Br (x3==0)
 (ae 162 #[a0,.agg A] w2 (Rt λw4=>Kp w w2 w4/\
 R x3 w4))
 (R x3 w2))) #[aH,aG,aM]):ae 113 #[a0,.agg #[aH,aG,aM],a2] w R:=
 cq bG func113 h
def MD.vc{a0:Addr}(h:(λA=>
 Aw w #[aH,aG,aM] 41 λw0=>
 gZ w0 (af A 1) λp1=>
 ae 27 #[p1] w0 (Rv λv3 w2=>Kp w w0 w2/\
 ae 222 #[v3,.agg #[aH,aG,aM]] w2 (Rs λs5 w4=>Kp w w2 w4/\
 sN (λI6 n7=>aN [aH,aG,aM]/\I6 n7 (0) w4) λI6 n7 us8 x9 bo=>
 Br (decide (x9<((s5.n:Nat):Int)))
 (eL s5.a x9 s5.n/\gM bo (af s5.a ((x9:Int).toNat*3)) λbW cR cB=>
 Aw bo #[ai,ai,ai] 41 λee=>
 Sw ee bo #[bW,cR,cB] λcD=>
 gZ cD.drew (af A 0) λp17=>
 kW cD.drew (af A 3) λdc=>
 bB Tryz.prog v3 [.agg #[bW,cR,cB]] cD.drew (Ri λdN fK=>K2 w bo cD.drew fK (
 ah fK (af A 3) 0 [dc]/\ah fK bo 0 [bW,cR,cB]/\ah fK (af A 0) 0 [.pointer p17]/\ae 223 #[dN] fK (Ri λfN dU=>K2 w bo fK dU (
 ah dU (af A 3) 0 [dc]/\ah dU bo 0 [bW,cR,cB]/\ah dU (af A 0) 0 [.pointer p17]/\ae 211 #[p17,.agg #[bW,cR,cB],(aw (dc+fN))] dU (Rb λb24 fQ=>K2 w bo dU fQ (
 ah fQ (af A 3) 0 [dc]/\∃tN,tN<n7/\aN [aH,aG,aM]/\I6 tN ((aw (x9+1))) fQ)))))))
 (R ya bo)))) (some a0)):ae 162 #[a0,.agg #[aH,aG,aM]] w R:=
 cq (Of 3 16) func162 h
def Hb.vc{a0:Addr}(h:
 Aw w #[aH,aG,aM,dW] 289 λw0=>
 gZ w0.drew (af (some a0) 1) λp1=>
 ae 27 #[p1] w0.drew (Rv λv3 w2=>Kp w w0.drew w2/\
 ah w2 (fP w 3) 0 [dW]/\ah w2 w 0 [aH,aG,aM]/\bB Tryz.prog v3 [.agg #[aH,aG,aM]] w2 (Ri λx5 w4=>Kp w w2 w4/\
 ah w4 (fP w 3) 0 [dW]/\Br (x5 !=dW)
 (ae 113 #[a0,.agg #[aH,aG,aM],dW] w4 (Ri λx7 w6=>Kp w w4 w6/\
 R ya w6))
 (R ya w4)))):ae 244 #[a0,.agg #[aH,aG,aM,dW]] w R:=
 cq bG func244 h
def Hc.vc{a0:Addr}(h:(λA B C D E=>
 Aw w D 41 λw0=>
 gZ w0.drew (af E 1) λp1=>
 ae 100 #[p1,.agg D] w0.drew (Rb λb3 w2=>Kp w w0.drew w2/\
 Br (!b3)
 (gZ w2.drew (af E 0) λp4=>
 kW w2.drew (af E 3) λx5=>
 ae 211 #[p4,.agg D,(aw (x5+1))] w2.drew (Rb λb7 w6=>Kp w w2.drew w6/\
 ah w6 (af E 3) 0 [x5]/\R ya w6))
 (gZ w2 (af E 1) λp8=>
 ae 27 #[p8] w2 (Rv λv10 w9=>Kp w w2 w9/\
 ae 242 #[v10,.agg D] w9 (Rs λpj bw=>(λAa=>Kp w w9 bw/\
 ae 159 #[.agg D] bw (λe bP=>∃(cB cW du dH dc db dN eO fN fC gW eZ jN jm nv jk nu lp:Int),e=Value.agg #[cB,cW,du,dH,dc,db,dN,eO,fN,fC,gW,eZ,jN,jm,nv,jk,nu,lp]/\Kp w bw bP/\
 ((0:Int)<=2/\(2:Int)<((6:Nat):Int))/\∃(lr fD jO:Int),(([cB,cW,du,dH,dc,db,dN,eO,fN,fC,gW,eZ,jN,jm,nv,jk,nu,lp]:LV).drop ((2:Int).toNat*3)).take 3=[.int .i64 lr,.int .i64 fD,.int .i64 jO]/\
 Aw bP #[ai,ai,ai] 41 λgT=>
 Sw gT bP #[lr,fD,jO] λkH=>
 bB Tryz.prog v10 [.agg D] kH.drew (Ri λkm iR=>K2 w bP kH.drew iR (
 ae 243 #[km] iR (Rb λb40 kR=>K2 w bP iR kR (
 Br b40
 (Br (decide ((Aa:Int)>0))
 (∃(v41:Value),ld kR (af E 4)=some (v41)/\
 bB Tryz.prog v41 [.agg #[lr,fD,jO]] kR (Rb λVQ lf=>K2 w bP kR lf (
 Br VQ
 (Aw lf #[aH,aG,aM,ai] 289 λme=>
 kB me.drew A λs45=>
 Aw me.drew #[lr,fD,jO] 41 λsI=>
 ba 24 3 sI s45 1 [lr,fD,jO]/\∀(IS:Sl)(iw:World),aX 41 3 sI s45 1 [lr,fD,jO] IS iw->K3 w bP lf sI iw (
 iw.heap[me.drew.heap.size]? =sI.heap[me.drew.heap.size]?/\
 (true=true/\Wr iw A 1)/\bk A≠some w.heap.size/\bk A≠some bP.heap.size/\bk A≠some lf.heap.size/\bk A≠some me.drew.heap.size/\(Pw iw A [IS] λpG=>
 sN (λI50 n51=>aN B/\aN [lr,fD,jO]/\aN [aH,aG,aM,ai]/\aN [lr,fD,jO]/\I50 n51 (0) pG) λI50 n51 ayl kS Ji=>
 Br (decide (kS<((1:Nat):Int)))
 (eL (aD lf) kS 1/\uc Ji (af (aD lf) ((kS:Int).toNat*4)) λxV rJ zw uo=>
 Aw Ji C 289 λoU=>
 Sw oU Ji #[xV,rJ,zw,uo] λrI=>
 ae 244 #[a0,.agg #[xV,rJ,zw,uo]] rI (Rt λjX=>K3 w bP lf rI jX (
 jX.heap[me.drew.heap.size]? =rI.heap[me.drew.heap.size]?/\Kp Ji rI jX/\
 ∃n55,n55<n51/\aN B/\aN [lr,fD,jO]/\aN [aH,aG,aM,ai]/\aN [lr,fD,jO]/\I50 n55 ((aw (kS+1))) jX)))
 (R ya Ji))))
 (sN (λI63 n64=>aN B/\aN [lr,fD,jO]/\I63 n64 (0) lf) λI63 n64 axn oI oy=>
 Br (decide (oI<Aa))
 (eL pj.a oI pj.n/\uc oy (af pj.a ((oI:Int).toNat*4)) λwN ur uM wM=>
 Aw oy C 289 λIN=>
 Sw IN oy #[wN,ur,uM,wM] λoq=>
 ae 244 #[a0,.agg #[wN,ur,uM,wM]] oq (Rt λrC=>K3 w bP oy oq rC (
 ∃n68,n68<n64/\aN B/\aN [lr,fD,jO]/\I63 n68 ((aw (oI+1))) rC)))
 (R ya oy)))))
 (sN (λI76 n77=>aN B/\aN [lr,fD,jO]/\I76 n77 (0) kR) λI76 n77 ayq Kc xX=>
 Br (decide (Kc<Aa))
 (eL pj.a Kc pj.n/\uc xX (af pj.a ((Kc:Int).toNat*4)) λzK Fl Ke Kf=>
 Aw xX C 289 λw86=>
 Sw w86 xX #[zK,Fl,Ke,Kf] λEo=>
 ae 244 #[a0,.agg #[zK,Fl,Ke,Kf]] Eo (Rt λNI=>K3 w bP xX Eo NI (
 ∃n81,n81<n77/\aN B/\aN [lr,fD,jO]/\I76 n81 ((aw (Kc+1))) NI)))
 (R ya xX)))
 (sN (λI89 n90=>aN B/\aN [lr,fD,jO]/\I89 n90 (0) kR) λI89 n90 ayt LZ L3=>
 Br (decide (LZ<Aa))
 (eL pj.a LZ pj.n/\uc L3 (af pj.a ((LZ:Int).toNat*4)) λOo Oq IL x98=>
 Aw L3 C 289 λJh=>
 Sw Jh L3 #[Oo,Oq,IL,x98] λpo=>
 ae 244 #[a0,.agg #[Oo,Oq,IL,x98]] po (Rt λKk=>K3 w bP L3 po Kk (
 ∃n94,n94<n90/\aN B/\aN [lr,fD,jO]/\I89 n94 ((aw (LZ+1))) Kk)))
 (R ya L3)))))))) ((pj.n:Nat):Int)))))) (af (some a0) 5) [aH,aG,aM] #[ai,ai,ai,ai] #[aH,aG,aM] (some a0)):ae 173 #[a0,.agg #[aH,aG,aM]] w R:=
 cq ⟨[(10,⟨[(70,.int .i64)],[],[]⟩),(10,⟨[(70,.int .i64)],[],[]⟩),(10,⟨[(70,.int .i64)],[],[]⟩),(10,⟨[(70,.int .i64)],[],[]⟩)],[],[]⟩ func173 h
def ME.vc{a0:Addr}(h:(λA=>
 kW w A λx0=>
 (Pv w A 1 [.int .i64 (if 1099511627776<(aw (x0+1)) then 1099511627776 else (aw (x0+1)))] λw1=>
 gZ w1.drew (af (some a0) 0) λp2=>
 kW w1.drew A λx3=>
 kW w1.drew (af (some a0) 2) λx4=>
 ae 172 #[p2,x3,x4] w1.drew (ua λs6 w5=>sN (λI7 n8=>I7 n8 (0) w5) λI7 n8 us9 bE bw=>
 Br (decide (bE<((s6.n:Nat):Int)))
 (eL s6.a bE s6.n/\gM bw (af s6.a ((bE:Int).toNat*3)) λcR cB cW=>
 Aw bw #[ai,ai,ai] 41 λcD=>
 Sw cD bw #[cR,cB,cW] λcL=>
 ae 173 #[a0,.agg #[cR,cB,cW]] cL (Rt λdI=>Kp bw cL dI/\
 ∃Ou,Ou<n8/\I7 Ou ((aw (bE+1))) dI))
 (R (Value.int .i64 ((s6.n:Nat):Int)) bw)))) (af (some a0) 3)):ae 119 #[a0] w R:=
 cq (Of 4 30) func119 h
open Go.cg Go.aR Go.Code Go.dR
def fm(c:Ce):Prop:=(-2000000000<=c.1/\c.1<=2000000000)/\(-2000000000<=c.2.1/\c.2.1<=2000000000)/\-2000000000<=c.2.2/\c.2.2<=2000000000
def CU(c:Ce):Prop:=(-1000000000<=c.1/\c.1<=1000000000)/\(-1000000000<=c.2.1/\c.2.1<=1000000000)/\-1000000000<=c.2.2/\c.2.2<=1000000000
def fm.ok{c:Ce}(h:fm c):rT c:=by unfold fm at h;unfold rT dJ;omega
def CU.wide{c:Ce}(h:CU c):fm c:=by unfold CU at h;unfold fm;omega
def GP{c:Ce}(h:fm c){n:Ce}(hn:n ∈ rG c):rT n:=by unfold fm at h;unfold rG fe Ef at hn;simp only [cp,lJ,or_false] at hn;rcases hn with rfl|rfl|rfl|rfl|rfl|rfl<;>(unfold rT dJ;simp only;omega)
def ah7{c:Ce}(h:CU c){n:Ce}(hn:n ∈ rG c):fm n:=by unfold CU at h;unfold rG fe Ef at hn;simp only [cp,lJ,or_false] at hn;rcases hn with rfl|rfl|rfl|rfl|rfl|rfl<;>(unfold fm;simp only;omega)
def sE(n:Int)(h: -2147483648<=n/\n<=2147483648)(w:World):ae 220 #[n] w λe w'=>e=n/\w'=w:=by apply ac1.vc;have e1:(if (-2147483648)>n then (-2147483648) else n)=n:=if_neg aa;rw [e1,if_neg aa];exact ⟨rfl,rfl⟩
def Qk(c:Ce)(h:(-2147483648<=c.1/\c.1<=2147483648)/\(-2147483648<=c.2.1/\c.2.1<=2147483648)/\-2147483648<=c.2.2/\c.2.2<=2147483648)(w:World):ae 210 #[eg c] w λe w'=>e=(eg c)/\Ext w w':=by
 apply ac0.vc;intro w0 e0 w1 e1;have x1:Ext w w1:=(aQ e0).br e1;have z0:=fj e0;have r0:Row w1 w [c.1,c.2.1,c.2.2] rF:=(by rw [e0];exact Row.new w [_,_,_] _:Row w0 w _ _).ext (aQ e1);have xd:=Ext.dr w1;have r1:=r0.ext xd;refine (sE c.1 h.1 w1.drew).mono ?_;rintro e w2 ⟨rfl,rfl⟩;refine ⟨_,rfl,rfl,rfl,r1.bI (o:=2) (λj hj=>by
  match j,hj with
  |0,_=>rfl),r1.bI (o:=1) (λj hj=>by
  match j,hj with
  |0,_=>rfl),(sE c.2.1 h.2.1 w1.drew).mono ?_⟩
 rintro e w4 ⟨rfl,rfl⟩;refine ⟨_,rfl,rfl,rfl,r1.bI (o:=2) (λj hj=>by
  match j,hj with
  |0,_=>rfl),(sE c.2.2 h.2.2 w1.drew).mono ?_⟩
 rintro e w6 ⟨rfl,rfl⟩;exact ⟨_,rfl,rfl,rfl,λw8 e8=>⟨rfl,(x1.tr xd).ab e8 aa⟩⟩
def mY(a b d:Int)(c c':Ce)(he:c'=(c.1+a,c.2.1+b,c.2.2+d))(hc:fm c)(ha:(-1<=a/\a<=1)/\(-1<=b/\b<=1)/\-1<=d/\d<=1){g:Nat}{w:World}(hr:Row w g [c.1,c.2.1,c.2.2] rF):
  ae 219 #[a,b,d,g] w λe w'=>e=(eg c')/\Ext w w':=by
 subst he;apply PO.vc;obtain ⟨⟨h1,h2⟩,⟨h3,h4⟩,h5,h6⟩:=id hc;intro w0 e0;have x0:=aQ e0;have z0:=fj e0;have xd:=x0.tr (Ext.dr w0);have zd:=m7 w0;have r1:=hr.ext xd;have q1:aw (c.1+a)=c.1+a:=wI;have q2:aw (c.2.1+b)=c.2.1+b:=wI;have q3:aw (c.2.2+d)=c.2.2+d:=wI;refine ⟨c.1,r1.at 0 rfl,c.2.1,r1.at 1 rfl,c.2.2,r1.at 2 rfl,(sE c.1 aa w0.drew).mono ?_⟩;rintro e w4 ⟨rfl,rfl⟩;refine ⟨_,rfl,rfl,qd (r1.at 2 rfl),qd (r1.at 1 rfl),(sE c.2.1 aa w0.drew).mono ?_⟩;rintro e w6 ⟨rfl,rfl⟩;refine ⟨_,rfl,rfl,qd (r1.at 2 rfl),(sE c.2.2 aa w0.drew).mono ?_⟩;rintro e w8 ⟨rfl,rfl⟩;refine ⟨_,rfl,rfl,?_⟩;rw [q1,q2,q3];refine (Qk (c.1+a,c.2.1+b,c.2.2+d) (by simp only;omega) w0.drew).mono ?_;rintro e bo ⟨rfl,bE⟩;exact ⟨_,_,_,rfl,bE.heap aa,λbH uU=>⟨rfl,(xd.tr bE).ab uU (ak _)⟩⟩
abbrev dZ(c:Ce):LV:=[.int .i64 c.1,.int .i64 c.2.1,.int .i64 c.2.2]
def C6(c:Ce):One (dZ c):=by intro v hv;simp at hv;rcases hv with rfl|rfl|rfl<;>rfl
abbrev ET(c:Ce):LV:=[.int .i64 (c.1-1),.int .i64 c.2.1,.int .i64 c.2.2,.int .i64 (c.1+1),.int .i64 c.2.1,.int .i64 c.2.2,.int .i64 c.1,.int .i64 (c.2.1-1),.int .i64 c.2.2,.int .i64 c.1,.int .i64 (c.2.1+1),.int .i64 c.2.2,.int .i64 c.1,.int .i64 c.2.1,.int .i64 (c.2.2-1),.int .i64 c.1,.int .i64 c.2.1,.int .i64 (c.2.2+1)]
def Hk(c:Ce):One (ET c):=by intro v hv;simp only [ET,cp,lJ,or_false] at hv;rcases hv with rfl|rfl|rfl|rfl|rfl|rfl|rfl|rfl|rfl|rfl|rfl|rfl|rfl|rfl|rfl|rfl|rfl|rfl<;>rfl
def aeA(c:Ce):ET c=((rG c).map dZ).flatten:=rfl
def dE{cs vs:LV}(h:vs.length=cs.length):aP cs 0 vs=vs:=by rw [de _ _ _ aa];simp [<-h]
def LI{a b c a' b' c':Int}(h1:a=a')(h2:b=b')(h3:c=c'):((a,b,c):Ce)=(a',b',c'):=by rw [h1,h2,h3]
def jP(c:Ce)(hc:fm c)(w:World):ae 159 #[eg c] w λe w'=>e=Value.agg (ET c).toArray/\Ext w w':=by apply Yq.vc;intro w0 e0 w1 e1;have x1:Ext w w1:=(aQ e0).br e1;have z0:=fj e0;have r0:Row w1 w [c.1,c.2.1,c.2.2] rF:=(by rw [e0];exact Row.new w [_,_,_] _:Row w0 w _ _).ext (aQ e1);have rb:Row w1 w0 [ai,ai,ai,ai,ai,ai,ai,ai,ai,ai,ai,ai,ai,ai,ai,ai,ai,ai] 186:=Row.nw e1;refine (mY (-1) 0 0 c (c.1-1,c.2.1,c.2.2) (LI aa aa aa) hc aA r0).mono ?_;rintro e w2 ⟨rfl,x2⟩;refine ⟨_,_,_,rfl,(mY 1 0 0 c (c.1+1,c.2.1,c.2.2) (LI aa aa aa) hc aA (r0.ext x2)).mono ?_⟩;rintro e w6 ⟨rfl,x6⟩;have y6:=x2.tr x6;refine ⟨_,_,_,rfl,(mY 0 (-1) 0 c (c.1,c.2.1-1,c.2.2) (LI aa aa aa) hc aA (r0.ext y6)).mono ?_⟩;rintro e bo ⟨rfl,bE⟩;have y10:=y6.tr bE;refine ⟨_,_,_,rfl,(mY 0 1 0 c (c.1,c.2.1+1,c.2.2) (LI aa aa aa) hc aA (r0.ext y10)).mono ?_⟩;rintro e bH ⟨rfl,cB⟩;have y14:=y10.tr cB;refine ⟨_,_,_,rfl,(mY 0 0 (-1) c (c.1,c.2.1,c.2.2-1) (LI aa aa aa) hc aA (r0.ext y14)).mono ?_⟩;rintro e dI ⟨rfl,dc⟩;have y18:=y14.tr dc;refine ⟨_,_,_,rfl,(mY 0 0 1 c (c.1,c.2.1,c.2.2+1) (LI aa aa aa) hc aA (r0.ext y18)).mono ?_⟩;rintro e dm ⟨rfl,fN⟩;have y22:=y18.tr fN;have r22:=rb.ext y22;refine ⟨_,_,_,rfl,⟨rfl,r22.wr bg⟩,λgx BZ=> ?_⟩;have BZ:gx=bF dm (aD w0.heap.size) (ET c):=BZ;rw [r22.bF (vs:=ET c) bg (Hk c),dE bg] at BZ;have hr':Row gx w0 (ET c) 186:=r22.st BZ;exact ⟨_,_,_,_,_,_,_,_,_,_,_,_,_,_,_,_,_,_,hr'.bI (λj hj=>by rw [eC]),rfl,(x1.tr y22).ab BZ aa⟩
def yi(b:Int)(w:World):ae 243 #[b] w λe w'=>e=Value.bool (b==3)/\w'=w:=by apply P4.vc;exact ⟨rfl,rfl⟩
def pR(b:Int)(w:World):ae 202 #[b] w λe w'=>e=Value.bool (sb b)/\w'=w:=by
 apply YJ.vc;unfold sb;refine Br.mk (λh=>⟨?_,rfl⟩) (λh=>⟨?_,rfl⟩)
 ·have h1:=cS h;rw [decide_eq_true h1,qI]
 ·have h1:=cS h;rw [decide_eq_false h1,DR]
def Eh(b:Int)(w:World):ae 144 #[b] w λe w'=>e=Value.bool (kG b)/\w'=w:=by
 apply MI.vc;unfold kG;refine Br.mk (λh=>⟨?_,rfl⟩) (λh=>(pR b w).mono ?_)
 ·have h1:=cS h;rw [decide_eq_true h1,Bool.true_or]
 ·rintro e w' ⟨rfl,rfl⟩;have h1:=cS h;rw [decide_eq_false h1,Bool.false_or];exact ⟨_,rfl,rfl,rfl⟩
def HD(b:Int)(w:World):ae 223 #[b] w λe w'=>e=Value.int .i64 (ki b)/\w'=w:=by
 apply Ua.vc;refine (yi b w).mono ?_;rintro e w0 ⟨rfl,rfl⟩;unfold ki;refine ⟨_,rfl,Br.mk (λh=> ?_) (λh=>(pR b w0).mono ?_)⟩
 ·rw [if_pos (by simpa using h)];exact ⟨rfl,rfl⟩
 ·rintro e w2 ⟨rfl,rfl⟩;rw [if_neg (by simpa using h)];refine ⟨_,rfl,Br.mk (λh=> ?_) (λh=> ?_)⟩
  ·rw [if_pos h];exact ⟨rfl,rfl⟩
  ·rw [if_neg (by rw [h];decide)];exact ⟨rfl,rfl⟩
def Tl(v:Value)(V:Ce->Int)(w:World):Prop:=∃D:Nat->Prop,(∀i,D i->i<w.heap.size)/\∀w',(∀i,D i->w'.heap[i]? =w.heap[i]?)->∀c,rT c->bB Tryz.prog v [eg c] w' λe w''=>e=Value.int .i64 (V c)/\Ext w' w''
def Tl.ext{v:Value}{V:Ce->Int}{w w':World}(h:Tl v V w)(x:Ext w w'):Tl v V w':=by obtain ⟨D,h1,h2⟩:=h;exact ⟨D,λi hi=>kr (h1 i hi) x.size,λw'' hk=>h2 w'' λi hi=>(hk i hi).trans (x.heap (h1 i hi))⟩
def Tl.at{v:Value}{V:Ce->Int}{w:World}(h:Tl v V w){c:Ce}(hc:rT c):bB Tryz.prog v [eg c] w λe w'=>e=Value.int .i64 (V c)/\Ext w w':=by obtain ⟨D,h1,h2⟩:=h;exact h2 w (λ_ _=>rfl) c hc
def ez{v:Value}{l:LV}{w:World}{R R':Ending->World->Prop}(h:bB Tryz.prog v l w R)(k:∀e w',R e w'->R' e w'):bB Tryz.prog v l w R':=bV h k
abbrev nN(x:Go.dR.Cg):LV:=[.int .i64 x.1.1,.int .i64 x.1.2.1,.int .i64 x.1.2.2,.int .i64 x.2]
def aeB{E k n:Nat}{w w':World}{s s':Sl}{news:LV}(h:aX E k w s n news s' w')(hc:s.c<s.n+n):Ext w w':=by
 cases h with
 |fits hf=>omega
 |Dr=>exact (Ext.dr w).tr (Ext.al _ _)
def UH{v:Value}{V:Ce->Int}{w:World}(hV:Tl v V w)(c:Ce)(hc:fm c):
  ae 222 #[v,eg c] w λe w'=>∃s:Sl,e=s/\ar w rF 3 w' s ((tB V c).map dZ)/\Ext w w':=by
 apply Uc.vc;intro w0 e0;have x0:=aQ e0;have z0:=fj e0;refine (jP c hc w0).mono ?_;rintro e w1 ⟨rfl,x1⟩;have z1:=x1.size;refine ⟨_,_,_,_,_,_,_,_,_,_,_,_,_,_,_,_,_,_,rfl,x1.heap aa,λfx Nz=> ?_⟩;have dN:=aQ Nz;have z20:=fj Nz;have hr:Row fx w1 [ai,ai,ai,ai,ai,ai,ai,ai,ai,ai,ai,ai,ai,ai,ai,ai,ai,ai] 186:=Row.nw Nz;refine ⟨⟨rfl,hr.wr bg⟩,λe=>by
  have:w1.heap.size=w.heap.size:=by simpa [bk] using e
  omega,λdU zh dm zi=> ?_⟩
 have zh:dU=bF fx (aD w1.heap.size) (ET c):=zh;rw [hr.bF (vs:=ET c) bg (Hk c),dE bg] at zh;have oS:Row dU w1 (ET c) 186:=hr.st zh;have eO:Ext w dU:=(x0.tr (x1.tr dN)).ab zh aa;have z21:=Dp zh;have xd:=Ext.dr dU;have zd:=m7 dU;have fN:=aQ zi;have z22:=fj zi;have aA5:Row dm dU.drew.heap.size (dZ c) rF:=Row.nw zi;have aA6:=eO.tr (xd.tr fN);have aA7:=oS.ext (xd.tr fN);have ho:ar w rF 3 dm ⟨aD dU.drew.heap.size,1,1⟩ [dZ c]:=ar.jA aa aA5 bg (ak _) rfl bg;have ha:=ho.Jq (bytes:=24) (more:=(rG c).map dZ) aa (λr hr=>by obtain ⟨y,-,rfl⟩:=aU.1 hr;rfl) (λr hr=>by obtain ⟨y,-,rfl⟩:=aU.1 hr;exact C6 y) (by simp [rG]) (by simp [rG]);obtain ⟨hp,bf⟩:=ha;refine ⟨((rG c).map dZ).flatten,?_,hp,λzM cZ ai0=> ?_⟩
 ·rw [dz];intro i u hu;exact aA7.at i (by rw [aeA];exact hu)
 obtain ⟨abI,aI0,-,-,-⟩:=bf zM cZ ai0;have eZ:Ext dm cZ:=aeB ai0 (show (1:Nat)<1+(6-0) by decide);have z25:=eZ.size;have atO:Ext w cZ:=aA6.tr eZ;have abI:ar w rF 3 cZ zM ((c::rG c).map dZ):=abI;have jj:=abI.rd (show 0<3 by decide);have aI1:zM.n=7:=jj.n;refine ⟨eZ.heap aa,eZ.heap aa,λn x xY gS=>∃j:Nat,x=j/\j+n=7/\ar cZ rF 3 gS xY ((((c::rG c).take j).filter λn=>decide (0<ki (V n))).map dZ)/\Ext cZ gS,⟨7,rfl,rfl,0,rfl,rfl,ar.nil,Ext.cG _⟩,?_⟩;rintro n us x xY gS ⟨j,rfl,hj,af9,lp⟩;have z31:=lp.size;apply Br.mk<;>intro hb
 ·replace hb:=nh hb;obtain ⟨y,hy⟩:=bq (l:=c::rG c) (i:=j) (by have:(c::rG c).length=7:=rfl;omega);have hym:y ∈ c::rG c:=aO hy;have oky:rT y:=by
   rcases cp.1 hym with rfl|h
   ·exact hc.ok
   ·exact GP hc h
  have hy':((c::rG c).map dZ)[j]? =some (dZ y):=by rw [aS,hy];rfl
  have xU:(c::rG c).take (j+1)=(c::rG c).take j++ [y]:=by rw [dy,hy];rfl
  refine ⟨jj.jd (i:=(j:Int)) aA aa hb,_,_,_,(jj.ext lp).bI hy',λkH e36 iR Tg=> ?_⟩;have lh:Ext gS iR:=(aQ e36).ab Tg (ak _);have z37:=Eu e36 Tg;refine ez ((hV.ext (atO.tr (lp.tr lh))).at oky) ?_;rintro e oE ⟨rfl,km⟩;have z38:=km.size;refine ⟨_,rfl,km.heap aa,km.heap aa,km.heap aa,(HD (V y) oE).mono ?_⟩;rintro e kz ⟨rfl,rfl⟩;have wk:=ov (j:=j);refine ⟨_,rfl,rfl,rfl,rfl,?_⟩;have atP:=af9.ext (lh.tr km);apply Br.mk<;>intro hd
  ·intro lf XE;subst XE;have aoG:xY.n<=7:=by have h1:=(af9.rd (show 0<3 by decide)).n;have h2:=Au (λn=>decide (0<ki (V n))) ((c::rG c).take j);rw [aL] at h1;rw [cY] at h2;omega
   obtain ⟨J7,hres8⟩:=atP.j9 (bytes:=24) (news:=dZ y) (.cells #[y.1,y.2.1,y.2.2] rF) aa rfl (C6 y) aa aa;refine ⟨J7,λs43 me aga=> ?_⟩;obtain ⟨f8,FW,hn8,x8,LX,-⟩:=hres8 s43 me aga;have xa:=Ext.al kz (.cells #[y.1,y.2.1,y.2.2] rF);have ams:∀b,xY.aZ=some b->cZ.heap.size<=b/\b<gS.heap.size:=λb hb=>af9.own.lt hb
   have kp:∀j,(j<cZ.heap.size\/gS.heap.size<=j)->j<kz.heap.size->me.heap[j]? =(kz.alloc (.cells #[y.1,y.2.1,y.2.2] rF)).heap[j]? :=λj hj hj2=>by rw [LX j (λhb=>by have:=ams j hb;omega) hj2,xa.heap hj2]
   refine ⟨kp _ (.inl aa) aa,kp _ (.inl aa) aa,kp _ (.inr aa) aa,f8,n-1,aa,rfl,rfl,j+1,wk,aa,?_,(Below.trans (lp.tr (lh.tr km)) x8:Below cZ cZ me)⟩;rw [xU,tV,bJ,Pu (by simpa using hd)];exact FW
  ·refine ⟨n-1,aa,rfl,rfl,j+1,wk,aa,?_,lp.tr (lh.tr km)⟩;rw [xU,tV,bJ,Px (by simpa using hd)];simpa using atP
 ·replace hb:=nC hb;have hj7:(c::rG c).take j=c::rG c:=fl (by have:(c::rG c).length=7:=rfl;omega);rw [hj7] at af9;exact ⟨xY,rfl,af9.low aa,atO.tr lp⟩
def TL(c:Ce):((ET c).drop ((2:Int).toNat*3)).take 3=dZ (fe c):=rfl
def Yb{v:Value}{V:Ce->Int}{w:World}(hV:Tl v V w)(c:Ce)(hc:fm c):
  ae 278 #[v,eg c] w λe w'=>∃s:Sl,e=s/\ar w lI 4 w' s ((LJ V c).map nN)/\Ext w w':=by
 apply Yr.vc;intro w0 e0;have x0:=aQ e0;have z0:=fj e0;refine (jP c hc w0).mono ?_;rintro e w1 ⟨rfl,x1⟩;have z1:=x1.size;have okl:rT (fe c):=GP hc (by simp [rG]);refine ⟨_,_,_,_,_,_,_,_,_,_,_,_,_,_,_,_,_,_,rfl,x1.heap aa,aA,_,_,_,TL c,λfQ XK gC J5=> ?_⟩;have gW:Ext w1 gC:=(aQ XK).ab J5 (ak _);have z24:=Eu XK J5;have aoH:=x0.tr (x1.tr gW);refine ez ((hV.ext aoH).at okl) ?_;rintro e cZ ⟨rfl,eZ⟩;have z25:=eZ.size;refine ⟨_,rfl,eZ.heap aa,eZ.heap aa,(Eh (V (fe c)) cZ).mono ?_⟩;rintro e fy ⟨rfl,rfl⟩;unfold LJ;refine ⟨_,rfl,rfl,rfl,Br.mk (λh=> ?_) (λh=>λeG Se=> ?_)⟩
 ·rw [if_neg (by simpa using h)];exact ⟨⟨none,0,0⟩,rfl,ar.nil,aoH.tr eZ⟩
 ·rw [if_pos (by simpa using h)];have hr:Row eG fy (([(c,V (fe c)),(fe c,3)]:List Go.dR.Cg).map nN).flatten lI:=Row.nw Se;exact ⟨⟨aD fy.heap.size,2,2⟩,rfl,ar.jA aa hr (ak _) (ak _) rfl (by intro r hr;simp at hr;rcases hr with rfl|rfl<;>rfl),(aoH.tr eZ).br Se⟩
variable {R:Ending->World->Prop} {w:World} {a0 a2 aH aG aM:Int}
def Pr.vc{a0:Value}(h:(λA B C=>
 Aw w B 41 λw0=>
 ae 301 #[a0,.agg B] w0 (Rx0 λx2 b3 w1=>Kp w w0 w1/\
 ∃J4:World->Prop,
 (Br C
 (Br (!b3)
 (Aw w1 #[aH,aG,aM,ai] 289 λw5=>
 R (Value.slice (aD w1) 1 1) w5)
 (Br C
 (Br (x2 !=a2)
 (ae 302 #[x2] w1.drew (Ri λx7 w6=>Kp w w1.drew w6/\
 ah w6 w 0 A/\Aw w6 #[aH,aG,aM,x7] 289 λw8=>
 R (Value.slice (aD w6) 1 1) w8))
 (aN A/\J4 w1))
 (aN A/\J4 w1)))
 (Br C
 (Br (x2 !=a2)
 (ae 302 #[x2] w1.drew (Ri λbE w9=>Kp w w1.drew w9/\
 ah w9 w 0 A/\Aw w9 #[aH,aG,aM,bE] 289 λbw=>
 R (Value.slice (aD w9) 1 1) bw))
 (aN A/\J4 w1))
 (aN A/\J4 w1)))/\
 ∀amk:Nat->Value,∀(bP:World),J4 bP->
 ae 159 #[.agg B] bP (Mq λcW du dH dc db dN eO fN fC gW eZ jN jm nv jk nu lp lr bH=>Kp w bP bH/\
 ((0:Int)<=2/\(2:Int)<((6:Nat):Int))/\∃(fD jO oV:Int),(([cW,du,dH,dc,db,dN,eO,fN,fC,gW,eZ,jN,jm,nv,jk,nu,lp,lr]:LV).drop ((2:Int).toNat*3)).take 3=[.int .i64 fD,.int .i64 jO,.int .i64 oV]/\
 Aw bH #[ai,ai,ai] 41 λkH=>
 Sw kH bH #[fD,jO,oV] λiR=>
 ∃J38:World->Prop,
 (bB Tryz.prog a0 [.agg #[fD,jO,oV]] iR (Ri λpF kR=>K2 w bH iR kR (
 Br (pF==0)
 (ae 302 #[(1:Int)] kR.drew (Ri λqU oF=>K2 w bH kR.drew oF (
 ah oF (aD bH) 0 [fD,jO,oV]/\Aw oF #[fD,jO,oV,qU] 289 λjW=>
 R (Value.slice (aD oF) 1 1) jW)))
 (ae 202 #[pF] kR (Rb λb45 me=>(λAa=>K2 w bH kR me (
 Br b45
 Aa
 (Br (a2>=7)
 Aa
 (aN A/\aN [fD,jO,oV]/\J38 me)))) (R (Value.slice none 0 0) me))))))/\
 ∀atG:Nat->Value,∀(nA:World),J38 nA->
 ae 303 #[.agg B] nA (Rs λs49 iw=>K2 w bH nA iw (
 oz (λI50 n51=>aN A/\aN [fD,jO,oV]/\I50 n51 (0) ⟨none,0,0⟩ iw) λI50 n51 ayl kS LW xm=>
 Br (decide (kS<((s49.n:Nat):Int)))
 (eL s49.a kS s49.n/\gM xm (af s49.a ((kS:Int).toNat*3)) λrJ zw uo=>
 Aw xm #[ai,ai,ai] 41 λoU=>
 Sw oU xm #[rJ,zw,uo] λrI=>
 bB Tryz.prog a0 [.agg #[rJ,zw,uo]] rI (Ri λuQ jX=>K3 w bH xm rI jX (
 Br (uQ==0)
 (ae 302 #[(aw (a2+1))] jX.drew (Ri λsR uV=>K3 w bH xm jX.drew uV (
 ah uV xm 0 [rJ,zw,uo]/\Aw uV #[rJ,zw,uo,sR] 289 λsQ=>
 ba 32 4 sQ LW 1 [rJ,zw,uo,sR]/\∀(s67:Sl)(uK:World),aX 289 4 sQ LW 1 [rJ,zw,uo,sR] s67 uK->K4 w bH xm uV sQ uK (
 ∃n56,n56<n51/\aN A/\aN [fD,jO,oV]/\I50 n56 ((aw (kS+1))) s67 uK))))
 (∃n56,n56<n51/\aN A/\aN [fD,jO,oV]/\I50 n56 ((aw (kS+1))) LW jX))))
 (R LW xm)))))) [aH,aG,aM] #[aH,aG,aM] (a2>0)):ae 279 #[a0,.agg #[aH,aG,aM],a2] w R:=
 cq ⟨[(14,⟨[(66,.int .i64),(11,.slice)],[],[]⟩)],[(12,⟨[],[],[]⟩),(6,⟨[],[],[]⟩)],[]⟩ func279 h
def aiq{E k m n c:Nat}{w w':World}{a:Option Addr}{s':Sl}{xs news:LV}{rows:List (LV)}(h:aX E k w ⟨a,m,c⟩ n news s' w')(hc:c<m+n)(hx:xs.length=m*k)(jj:Rd w a xs)(c9:xs++news=rows.flatten)(hw:∀r ∈ rows,r.length=k)(hl:news.length=n*k):ar w E k w' s' rows/\Ext w w':=by
 cases h with
 |fits hf=>simp only at hf;omega
 |Dr hg gm rest cap e1 e2 e3 e4=>
  have ho:gm=xs:=by
   apply jt;intro i;rcases jq i xs.length with hi|hi
   ·have h1:=jj i xs[i] (cX hi);have hi':i<gm.length:=by simp only at e1;omega
    have h2:=e2 i gm[i] (cX hi');rw [h1] at h2;rw [cX hi,cX hi'];exact h2.symm
   ·rw [jv hi,jv (by simp only at e1;omega)]
  subst ho;have zg:=Row.new w.drew (gm++news++rest) E;refine ⟨ar.jA (ak _) zg (Nat.le_of_eq e4.symm) e3 ?_ hw,(Ext.dr w).tr (Ext.al _ _)⟩;rw [<-c9];have dp:(gm++news).length=(m+n)*k:=by rw [bQ,hx,hl,pL]
  rw [Eb (by simp only;omega),fl (by simp only;omega)]
def GR(b:Int)(w:World):ae 280 #[b] w λe w'=>e=Value.int .i64 (iK b)/\w'=w:=by
 apply PW.vc;refine (pR b w).mono ?_;rintro e w0 ⟨rfl,rfl⟩;unfold iK;refine ⟨_,rfl,Br.mk (λh=> ?_) (λh=> ?_)⟩
 ·have h:sb b=false:=by simpa using h
  rw [h,if_neg aA];exact ⟨rfl,rfl⟩
 ·have h:sb b=true:=by simpa using h
  rw [h,if_pos rfl];unfold sb at h;simp only [fk,cJ] at h;rw [wI];exact ⟨rfl,rfl⟩
def Ps{c:Ce}(h:fm c){n:Ce}(hn:n ∈ c5 c):rT n/\n ∈ rG c:=by
 have:n ∈ rG c:=by
  unfold c5 at hn;unfold rG;simp only [cp,lJ,or_false] at hn ⊢;rcases hn with h|h|h|h
  ·exact .inl h
  ·exact .inr (.inl h)
  ·exact .inr (.inr (.inr (.inr (.inl h))))
  ·exact .inr (.inr (.inr (.inr (.inr h))))
 exact ⟨GP h this,this⟩
def Xy{w:World}{g:Nat}{cs:LV}{τ:TypeId}(hr:Row w g cs τ)(o:Nat){xs:LV}(h:∀i,i<xs.length->cs[o+i]? =xs[i]?):Rd w (fP g o) xs:=λi v hv=>by
 rw [aV,hr.ld]
 have hi:=(bZ.1 hv).1
 rw [h i hi];exact hv
def At(c:Ce)(hc:fm c)(w:World):ae 303 #[eg c] w λe w'=>∃s:Sl,e=s/\ar w rF 3 w' s ((c5 c).map dZ)/\Ext w w':=by
 apply PQ.vc;intro w0 e0;have x0:=aQ e0;have z0:=fj e0;refine (jP c hc w0).mono ?_;rintro e w1 ⟨rfl,x1⟩;have z1:=x1.size;refine ⟨_,_,_,_,_,_,_,_,_,_,_,_,_,_,_,_,_,_,rfl,x1.heap aa,λfx Nz=> ?_⟩;have dN:=aQ Nz;have hr:Row fx w1 [ai,ai,ai,ai,ai,ai,ai,ai,ai,ai,ai,ai,ai,ai,ai,ai,ai,ai] 186:=Row.nw Nz;refine ⟨⟨rfl,hr.wr bg⟩,λe=>by
  have:w1.heap.size=w.heap.size:=by simpa [bk] using e
  omega,λdU zh=> ?_⟩
 have zh:dU=bF fx (aD w1.heap.size) (ET c):=zh;rw [hr.bF (vs:=ET c) bg (Hk c),dE bg] at zh;have oS:Row dU w1 (ET c) 186:=hr.st zh;have eO:Ext w dU:=(x0.tr (x1.tr dN)).ab zh aa;have xd:=Ext.dr dU;have hr3:=oS.ext xd;have x21d:=eO.tr xd;have zz:w1.heap.size<dU.drew.heap.size:=hr3.lt;have dp:(dZ ((c.1,c.2.1,c.2.2-1):Ce)++dZ (c.1,c.2.1,c.2.2+1)).length=6:=rfl;have h1:One (dZ ((c.1,c.2.1,c.2.2-1):Ce)++dZ (c.1,c.2.1,c.2.2+1)):=by
  intro v hv;rcases bX.1 hv with hv|hv
  ·exact C6 _ v hv
  ·exact C6 _ v hv
 have rd0:Rd dU.drew (aD w1.heap.size) (dZ ((c.1-1,c.2.1,c.2.2):Ce)++dZ (c.1+1,c.2.1,c.2.2)):=Xy hr3 0 (λi hi=>by
  have hi:i<6:=hi;have:i=0\/i=1\/i=2\/i=3\/i=4\/i=5:=by omega
  rcases this with rfl|rfl|rfl|rfl|rfl|rfl<;>rfl)
 refine ⟨aA,aA,aA,aA,aA,aA,dZ ((c.1,c.2.1,c.2.2-1):Ce)++dZ (c.1,c.2.1,c.2.2+1),Xy (o:=12) hr3 (λi hi=>by
  have hi:i<6:=hi;have:i=0\/i=1\/i=2\/i=3\/i=4\/i=5:=by omega
  rcases this with rfl|rfl|rfl|rfl|rfl|rfl<;>rfl),⟨λhf=>absurd hf (show ¬(2+2<=2) by decide),λ_=>⟨_,rfl,rd0⟩,λhg=>⟨growslice_fits hg (show (2+2)*24<=140737488355328 by decide),show ((2+2:Nat):Int)<=9223372036854775807 by decide⟩,rfl,h1⟩,λs23 gC bf=> ?_⟩
 obtain ⟨ho,gW⟩:=aiq (rows:=(c5 c).map dZ) (xs:=dZ ((c.1-1,c.2.1,c.2.2):Ce)++dZ (c.1+1,c.2.1,c.2.2)) bf (show 2<2+2 by decide) rfl rd0 rfl (by intro r hr;obtain ⟨y,-,rfl⟩:=aU.1 hr;rfl) rfl;exact ⟨gW.heap aa,s23,rfl,ho.low aa,x21d.tr gW⟩
def GO(V:Ce->Int):∀(l:List Ce)(m:Int),0<=m/\m<=7->0<=l.foldl (λm n=>if 0<=iK (V n) then min m (iK (V n)) else m) m/\l.foldl (λm n=>if 0<=iK (V n) then min m (iK (V n)) else m) m<=7
 | [],m,h=>h
 |n::l,m,h=>by
  rw [nU]
  refine GO V l _ ?_
  split<;>omega
def aaX(c:Ce):((ET c).drop ((3:Int).toNat*3)).take 3=dZ (Ef c):=rfl
def TK{v:Value}{V:Ce->Int}{w:World}(hV:Tl v V w)(c:Ce)(hc:fm c):
  ae 301 #[v,eg c] w λe w'=>e=Value.tuple #[.int .i64 (iJ V c).1,.bool (iJ V c).2]/\Ext w w':=by
 apply Ub.vc;intro w0 e0;have x0:=aQ e0;have z0:=fj e0;refine (jP c hc w0).mono ?_;rintro e w1 ⟨rfl,x1⟩;have z1:=x1.size;have oko:rT (Ef c):=GP hc (by simp [rG]);refine ⟨_,_,_,_,_,_,_,_,_,_,_,_,_,_,_,_,_,_,rfl,x1.heap aa,aA,_,_,_,aaX c,ez ((hV.ext (x0.tr x1)).at oko) ?_⟩;rintro e fQ ⟨rfl,fC⟩;have z23:=fC.size;have auk:=x0.tr (x1.tr fC);refine ⟨_,rfl,fC.heap aa,(pR (V (Ef c)) fQ).mono ?_⟩;rintro e cZ ⟨rfl,rfl⟩;unfold iJ;refine ⟨_,rfl,rfl,Br.mk (λh=> ?_) (λh=>(At c hc cZ).mono ?_)⟩
 ·rw [if_pos h];exact ⟨rfl,auk⟩
 rintro e fy ⟨s28,rfl,ho,jm⟩;have z27:=jm.size;rw [if_neg (by rw [h];decide)];have jj:=ho.rd (show 0<3 by decide);have hn:s28.n=4:=jj.n;refine ⟨s28,rfl,jm.heap aa,λn x m wr=>∃j:Nat,x=j/\j+n=4/\m=((c5 c).take j).foldl (λm n=>if 0<=iK (V n) then min m (iK (V n)) else m) 7/\Ext fy wr,⟨4,rfl,0,rfl,rfl,rfl,Ext.cG _⟩,?_⟩;rintro n us x m wr ⟨j,rfl,hj,rfl,xr⟩;have zr:=xr.size;have xr0:=auk.tr (jm.tr xr);apply Br.mk<;>intro hb
 ·replace hb:=nh hb;obtain ⟨y,hy⟩:=bq (l:=c5 c) (i:=j) (by have:(c5 c).length=4:=rfl;omega);have oky:=(Ps hc (aO hy)).1;have hy':((c5 c).map dZ)[j]? =some (dZ y):=by rw [aS,hy];rfl
  have xU:(c5 c).take (j+1)=(c5 c).take j++ [y]:=by rw [dy,hy];rfl
  have wk:=ov (j:=j);refine ⟨jj.jd (i:=(j:Int)) aA aa hb,_,_,_,(jj.ext xr).bI hy',λkR e39 kz VO=> ?_⟩;have pF:Ext wr kz:=(aQ e39).ab VO (ak _);have z40:=Eu e39 VO;refine ez ((hV.ext (xr0.tr pF)).at oky) ?_;rintro e oF ⟨rfl,om⟩;have z41:=om.size;refine ⟨_,rfl,om.heap aa,om.heap aa,(GR (V y) oF).mono ?_⟩;rintro e jW ⟨rfl,rfl⟩;refine ⟨_,rfl,rfl,rfl,Br.mk (λh2=> ?_) (λh2=> ?_)⟩
  ·have h2:=cS h2;refine ⟨n-1,aa,rfl,j+1,wk,aa,?_,xr.tr (pF.tr om)⟩;rw [xU,pW,nU,List.foldl_nil,if_pos h2];split<;>omega
  ·have h2:=cS h2;refine ⟨n-1,aa,rfl,j+1,wk,aa,?_,xr.tr (pF.tr om)⟩;rw [xU,pW,nU,List.foldl_nil,if_neg h2]
 ·replace hb:=nC hb;have ht:(c5 c).take j=c5 c:=fl (by have:(c5 c).length=4:=rfl;omega);rw [ht];have hle:(c5 c).foldl (λm n=>if 0<=iK (V n) then min m (iK (V n)) else m) 7=Mp V (c5 c):=rfl;have oh:=GO V (c5 c) 7 aA;rw [hle] at oh ⊢;apply Br.mk<;>intro h2
  ·rw [if_pos (by simpa using h2)];exact ⟨rfl,xr0⟩
  ·rw [if_neg (by simpa using h2),wI];exact ⟨rfl,xr0⟩
def ag1(x:Go.dR.Cg):One (nN x):=by intro v hv;simp at hv;rcases hv with rfl|rfl|rfl|rfl<;>rfl
def Mo{w:World}{g:Nat}{B:Nat}(x:Go.dR.Cg)(hr:Row w g (nN x) lI)(hB:B<=g):ar B lI 4 w ⟨aD g,1,1⟩ ([x].map nN):=ar.jA hB hr bg (ak _) rfl bg
def TJ{v:Value}{V:Ce->Int}{w:World}(hV:Tl v V w)(c:Ce)(hc:fm c)(level:Int)(hl:0<=level/\level<=7):
  ae 279 #[v,eg c,level] w λe w'=>∃s:Sl,e=s/\ar w lI 4 w' s ((mN V c level).map nN)/\Ext w w':=by
 apply Pr.vc;intro w0 e0;have x0:=aQ e0;have z0:=fj e0;have r0:Row w0 w (dZ c) rF:=Row.nw e0;refine (TK (hV.ext x0) c hc).mono ?_;rintro e w1 ⟨rfl,x1⟩;have z1:=x1.size;have lg:=x0.tr x1;have awW:dJ (iJ V c).1:=by
  have:=GO V (c5 c) 7 aA;have hle:(c5 c).foldl (λm n=>if 0<=iK (V n) then min m (iK (V n)) else m) 7=Mp V (c5 c):=rfl;rw [hle] at this;unfold iJ dJ;split
  ·simp
  ·split
   ·simp
   ·simp only;omega
 have caseA:0<level->(iJ V c).2=false->mN V c level=[(c,0)]:=λh1 h2=>by unfold mN;rw [if_pos ⟨h1,h2⟩]
 have caseB:0<level->¬(iJ V c).2=false->(iJ V c).1≠level->mN V c level=[(c,jD (iJ V c).1)]:=λh1 h2 h3=>by unfold mN;rw [if_neg (λq=>h2 q.2),if_pos ⟨h1,h3⟩]
 have armB:0<level->¬(iJ V c).2=false->(iJ V c).1≠level->ae 302 #[.int .i64 (iJ V c).1] w1.drew (λe w6=>∃(x7:Int),e=x7/\w6.heap[w.heap.size]? =w1.drew.heap[w.heap.size]?/\
   ah w6 (aD w.heap.size) 0 [c.1,c.2.1,c.2.2]/\∀w8:World,w8=w6.alloc (.cells #[c.1,c.2.1,c.2.2,x7] lI)->
   (λe w'=>∃s:Sl,e=Ending.returned s/\ar w lI 4 w' s ((mN V c level).map nN)/\Ext w w') (.returned (.slice (aD w6.heap.size) 1 1)) w8):=by
  intro h1 h2 h3;refine (mO (iJ V c).1 w1.drew awW).mono ?_;rintro e w6 ⟨rfl,rfl⟩;refine ⟨_,rfl,rfl,Lo.wv (r0.ext (x1.tr (Ext.dr w1))),λw8 e8=> ?_⟩;have hr:Row w8 w1.drew.heap.size (nN (c,jD (iJ V c).1)) lI:=Row.nw e8;have zd:=m7 w1;refine ⟨⟨aD w1.drew.heap.size,1,1⟩,rfl,?_,(lg.tr (Ext.dr w1)).br e8⟩;rw [caseB h1 h2 h3];exact Mo _ hr aa
 refine ⟨_,_,rfl,x1.heap aa,λwj=>wj=w1/\mN V c level=(if V (fe c)=0 then [(fe c,jD 1)] else if sb (V (fe c))=true\/7<=level then [] else ((c5 c).filter λn=>decide (V n=0)).map λn=>(n,jD (level+1))),?_,?_⟩
 ·have fine:(¬0<level\/(¬(iJ V c).2=false/\(iJ V c).1=level))->mN V c level=(if V (fe c)=0 then [(fe c,jD 1)] else if sb (V (fe c))=true\/7<=level then [] else ((c5 c).filter λn=>decide (V n=0)).map λn=>(n,jD (level+1))):=λh=>by unfold mN;rw [if_neg (λq=>h.elim (λh=>h q.1) λh=>h.1 q.2),if_neg (λq=>h.elim (λh=>h q.1) λh=>q.2 h.2)]
  refine Br.mk (λh1=>Br.mk (λh2=>λw5 e5=> ?_) (λh2=>Br.mk (λ_=>Br.mk (λh3=> ?_) (λh3=>⟨rfl,rfl,?_⟩)) (λh3=> ?_))) (λh1=>Br.mk (λh3=> ?_) (λh3=>⟨rfl,rfl,?_⟩))
  ·have h1:=cS h1;have hr:Row w5 w1 (nN (c,0)) lI:=Row.nw e5;refine ⟨⟨aD w1.heap.size,1,1⟩,rfl,?_,lg.br e5⟩;rw [caseA h1 (by simpa using h2)];exact Mo _ hr aa
  ·exact armB (by simpa using h1) (by simpa using h2) (by simpa using h3)
  ·exact fine (.inr ⟨by simpa using h2,by simpa using h3⟩)
  ·rw [h1] at h3;cases h3
  ·rw [h1] at h3;cases h3
  ·exact fine (.inl (by simpa using h1))
 rintro us bP ⟨rfl,hW⟩;rw [hW];refine (jP c hc bP).mono ?_;rintro e bH ⟨rfl,cB⟩;have z14:=cB.size;have okl:rT (fe c):=GP hc (by simp [rG]);refine ⟨_,_,_,_,_,_,_,_,_,_,_,_,_,_,_,_,_,_,rfl,cB.heap aa,aA,_,_,_,TL c,λkH e36 iR Tg=> ?_⟩;have lh:Ext bH iR:=(aQ e36).ab Tg (ak _);have z37:=Eu e36 Tg;have rl:Row iR bH (dZ (fe c)) rF:=by rw [Tg];exact Row.set (by rw [e36];exact Row.new bH [_,_,_] _) _
 have BI:=lg.tr (cB.tr lh);refine ⟨λwj=>Ext iR wj/\¬V (fe c)=0/\¬(sb (V (fe c))=true\/7<=level),ez ((hV.ext BI).at okl) ?_,?_⟩
 ·rintro e kR ⟨rfl,qv⟩;have z39:=qv.size;refine ⟨_,rfl,qv.heap aa,qv.heap aa,Br.mk (λh=>(mO 1 kR.drew gA).mono ?_) (λh=>(pR (V (fe c)) kR).mono ?_)⟩
  ·rintro e oF ⟨rfl,rfl⟩;have h:=cS h;refine ⟨_,rfl,rfl,rfl,Lo.wv (rl.ext (qv.tr (Ext.dr kR))),λjW e43=> ?_⟩;have hr:Row jW kR.drew.heap.size (nN (fe c,jD 1)) lI:=Row.nw e43;have zd:=m7 kR;refine ⟨⟨aD kR.drew.heap.size,1,1⟩,rfl,?_,(BI.tr (qv.tr (Ext.dr kR))).br e43⟩;rw [if_pos h];exact Mo _ hr aa
  ·rintro e me ⟨rfl,rfl⟩;have h:=cS h;rw [if_neg h];refine ⟨_,rfl,rfl,rfl,Br.mk (λh2=> ?_) (λh2=>Br.mk (λh3=> ?_) (λh3=>⟨rfl,rfl,qv,h,?_⟩))⟩
   ·rw [if_pos (.inl h2)];exact ⟨⟨none,0,0⟩,rfl,ar.nil,BI.tr qv⟩
   ·rw [if_pos (.inr (by simpa using h3))];exact ⟨⟨none,0,0⟩,rfl,ar.nil,BI.tr qv⟩
   ·rintro (q|q)
    ·rw [q] at h2;cases h2
    ·simp at h3;omega
 rintro us nA ⟨xl,h1,h2⟩;have z47:=xl.size;rw [if_neg h1,if_neg h2];have awX:=BI.tr xl;refine (At c hc nA).mono ?_;rintro e iw ⟨s49,rfl,awY,Dd⟩;have z48:=Dd.size;have J6:=awX.tr Dd;have jj:=awY.rd (show 0<3 by decide);have aFE:s49.n=4:=jj.n;refine ⟨s49,rfl,Dd.heap aa,Dd.heap aa,λn x LW wr=>∃j:Nat,x=j/\j+n=4/\ar iw lI 4 wr LW (((((c5 c).take j).filter λn=>decide (V n=0)).map λn=>((n,jD (level+1)):Go.dR.Cg)).map nN)/\Ext iw wr,⟨4,rfl,rfl,0,rfl,rfl,ar.nil,Ext.cG _⟩,?_⟩;rintro n us x LW wr ⟨j,rfl,hj,ho,xr⟩;have zr:=xr.size;have xr0:=J6.tr xr;apply Br.mk<;>intro hb
 ·replace hb:=nh hb;obtain ⟨y,hy⟩:=bq (l:=c5 c) (i:=j) (by have:(c5 c).length=4:=rfl;omega);have oky:=(Ps hc (aO hy)).1;have hy':((c5 c).map dZ)[j]? =some (dZ y):=by rw [aS,hy];rfl
  have xU:(c5 c).take (j+1)=(c5 c).take j++ [y]:=by rw [dy,hy];rfl
  have wk:=ov (j:=j);refine ⟨jj.jd (i:=(j:Int)) aA aa hb,_,_,_,(jj.ext xr).bI hy',λoU e60 rI e61=> ?_⟩;have zI:Ext wr rI:=(aQ e60).ab e61 (ak _);have z61:=Eu e60 e61;have ry:Row rI wr (dZ y) rF:=by rw [e61];exact Row.set (by rw [e60];exact Row.new wr [_,_,_] _) _
  refine ez ((hV.ext (xr0.tr zI)).at oky) ?_;rintro e jX ⟨rfl,ox⟩;have z62:=ox.size;refine ⟨_,rfl,ox.heap aa,ox.heap aa,ox.heap aa,Br.mk (λh3=> ?_) (λh3=> ?_)⟩
  ·have wl:aw (level+1)=level+1:=wI;rw [wl];refine (mO (level+1) jX.drew gA).mono ?_;rintro e uV ⟨rfl,rfl⟩;have xd:=zI.tr (ox.tr (Ext.dr jX));have zd:=m7 jX;refine ⟨_,rfl,rfl,rfl,rfl,Lo.wv (ry.ext (ox.tr (Ext.dr jX))),λsQ e66=> ?_⟩;subst e66;have ho':=ho.ext xd;have aFF:LW.n<=4:=by have h1:=(ho.rd (show 0<4 by decide)).n;have h2:=Au (λn=>decide (V n=0)) ((c5 c).take j);rw [aL,aL] at h1;rw [cY] at h2;omega
   obtain ⟨J7,hres8⟩:=ho'.j9 (bytes:=32) (news:=nN (y,jD (level+1))) (.cells #[y.1,y.2.1,y.2.2,(jD (level+1))] lI) aa rfl (ag1 _) aa aa;refine ⟨J7,λs67 uK aw2=> ?_⟩;obtain ⟨f8,FW,hn8,x8,LX,-⟩:=hres8 s67 uK aw2;have xa:=Ext.al jX.drew (.cells #[y.1,y.2.1,y.2.2,(jD (level+1))] lI);have ams:∀b,LW.aZ=some b->iw.heap.size<=b/\b<wr.heap.size:=λb hb=>ho.own.lt hb
   have kp:∀j,(j<iw.heap.size\/wr.heap.size<=j)->j<jX.drew.heap.size->uK.heap[j]? =(jX.drew.alloc (.cells #[y.1,y.2.1,y.2.2,(jD (level+1))] lI)).heap[j]? :=λj hj hj2=>by rw [LX j (λhb=>by have:=ams j hb;omega) hj2,xa.heap hj2]
   refine ⟨kp _ (.inl aa) aa,kp _ (.inl aa) aa,kp _ (.inr aa) aa,f8,n-1,aa,rfl,rfl,j+1,wk,aa,?_,(Below.trans (xr.tr xd) x8:Below iw iw uK)⟩;rw [xU,tV,bJ,bJ,Pu (by simpa using h3)];exact FW
  ·refine ⟨n-1,aa,rfl,rfl,j+1,wk,aa,?_,xr.tr (zI.tr ox)⟩;rw [xU,tV,bJ,bJ,Px (by simpa using h3)];simpa using ho.ext (zI.tr ox)
 ·replace hb:=nC hb;have ht:(c5 c).take j=c5 c:=fl (by have:(c5 c).length=4:=rfl;omega);rw [ht] at ho;exact ⟨LW,rfl,ho.low aa,xr0⟩
def acH{b:Int}(h:sb b=true):0<=iK b/\iK b<=7:=by unfold iK;rw [h,if_pos rfl];unfold sb at h;simp only [fk,cJ] at h;omega
def TM{v:Value}{V:Ce->Int}{w:World}(hV:Tl v V w)(c:Ce)(hc:fm c):
  ae 242 #[v,eg c] w λe w'=>∃s:Sl,e=s/\ar w lI 4 w' s ((ig V c).map nN)/\Ext w w':=by
 apply Ya.vc;intro w0 e0;have x0:=aQ e0;have z0:=fj e0;have r0:Row w0 w (dZ c) rF:=Row.nw e0;refine ez ((hV.ext x0).at hc.ok) ?_;rintro e w1 ⟨rfl,x1⟩;have z1:=x1.size;have lg:=x0.tr x1;refine ⟨_,rfl,x1.heap aa,(yi (V c) w1).mono ?_⟩;rintro e w3 ⟨rfl,rfl⟩;unfold ig;refine ⟨_,rfl,rfl,Br.mk (λh=> ?_) (λh=>(pR (V c) w3).mono ?_)⟩
 ·rw [if_pos (by simpa using h)];refine (Yb (hV.ext lg) c hc).mono ?_;rintro e w5 ⟨s,rfl,ho,x5⟩;exact ⟨s,rfl,x5.heap aa,s,rfl,ho.low aa,lg.tr x5⟩
 ·rintro e w7 ⟨rfl,rfl⟩;rw [if_neg (by simpa using h)];refine ⟨_,rfl,rfl,Br.mk (λh2=>(GR (V c) w7.drew).mono ?_) (λh2=> ?_)⟩
  ·rintro e w9 ⟨rfl,rfl⟩;rw [h2,if_pos rfl];have xd:=lg.tr (Ext.dr w7);have zd:=m7 w7;refine ⟨_,rfl,rfl,Lo.wv (r0.ext (x1.tr (Ext.dr w7))),(TJ (hV.ext xd) c hc (iK (V c)) (acH h2)).mono ?_⟩;rintro e bw ⟨s,rfl,ho,bK⟩;exact ⟨s,rfl,bK.heap aa,s,rfl,ho.low aa,xd.tr bK⟩
  ·rw [h2,if_neg aA];exact ⟨⟨none,0,0⟩,rfl,ar.nil,lg⟩
open Go.ej
abbrev Ck:TypeId:=130
structure Sm where
 ag:Int
 cap:Int
 T:Tb
 ch:List Go.dR.Cg
 q:QS
 dD:Int
 now:Int
 jI:List Ce
abbrev smC(g o:Nat)(M:Sm)(occ:Value)(sd:Sl):LV:=[g,o,.int .i64 M.dD,.int .i64 M.now,occ,.slice sd.a sd.n sd.c]
def SF(F:Nat->Prop)(w:World)(s o t:Nat)(M:Sm)(occ:Value):Prop:=
 ∃g m qs Fw sd,Row w s (smC g o M occ sd) Ck/\Q.uC w g m qs M.q/\BT M.q/\WF Fw w o t M.ag M.cap M.T M.ch/\ar 0 rF 3 w sd (M.jI.map dZ)/\(∀i,Q.g7 g m qs i->¬Fw i)/\F=λi=>i=s\/Q.g7 g m qs i\/Fw i\/sd.aZ=some i
section
variable {F F':Nat->Prop} {w w':World} {s o t:Nat} {M M':Sm} {occ:Value}
def SF.lt(h:SF F w s o t M occ){i:Nat}(hi:F i):i<w:=by
 obtain ⟨g,m,qs,Fw,sd,h1,h2,-,h3,h4,-,rfl⟩:=h;rcases hi with rfl|hi|hi|hi
 ·exact h1.lt
 ·exact h2.lt i hi
 ·exact h3.lt hi
 ·exact (h4.own.lt hi).2
def SF.same(h:SF F w s o t M occ)(hk:∀i,F i->w'.heap[i]? =w.heap[i]?):SF F w' s o t M occ:=by obtain ⟨g,m,qs,Fw,sd,h1,h2,hq,h3,h4,h5,rfl⟩:=h;obtain ⟨kvs,m1,m2⟩:=h2.map;exact ⟨g,m,qs,Fw,sd,h1.same (hk _ (.inl rfl)),⟨h2.row.same (hk _ (.inr (.inl (.inl rfl)))),ar.aW h2.own λb hb=>hk b (.inr (.inl (.inr (.inr hb)))),kvs,m1.same (hk _ (.inr (.inl (.inr (.inl rfl))))),m2⟩,hq,h3.same λi hi=>hk i (.inr (.inr (.inl hi))),ar.aW h4 λb hb=>hk b (.inr (.inr (.inr hb))),h5,rfl⟩
def SF.ext(h:SF F w s o t M occ)(x:Ext w w'):SF F w' s o t M occ:=h.same λ_ hi=>x.heap (h.lt hi)
def SF.dA(h:SF F w s o t M occ){j:Nat}{cs:LV}{τ:TypeId}(hr:Row w j cs τ)(h1:Gq τ)(h2:τ≠sW)(h3:τ≠lI)(h4:τ≠Ck)(h5:τ≠Q.kL)(h6:τ≠Q.cF)(hj:∀(g:Nat)(sd:Sl),Row w s (smC g o M occ sd) Ck->sd.aZ≠some j):¬F j:=by
 obtain ⟨g,m,qs,Fw,sd,r1,r2,-,r3,r4,-,rfl⟩:=h;rintro (hi|hi|hi|hi)
 ·exact hr.ne r1 h4 hi
 ·exact r2.dA hr h5 h6 hi
 ·exact r3.dA hr h1 h2 h3 hi
 ·exact hj g sd r1 hi
def SF.jf(h:SF F w s o t M occ){j:Nat}{cs:LV}{τ:TypeId}(hr:Row w j cs τ)(h1:Gq τ)(h2:τ≠sW)(h3:τ≠lI)(h4:τ≠Ck)(h5:τ≠Q.kL)(h6:τ≠Q.cF)(h7:τ≠rF):¬F j:=by
 obtain ⟨g,m,qs,Fw,sd,r1,r2,-,r3,r4,-,rfl⟩:=h;rintro (hi|hi|hi|hi)
 ·exact hr.ne r1 h4 hi
 ·exact r2.dA hr h5 h6 hi
 ·exact r3.dA hr h1 h2 h3 hi
 ·obtain ⟨cs',hr'⟩:=aY r4 aA hi;exact hr.ne hr' h7 rfl
abbrev mC(F:Nat->Prop)(w:World)(s o t:Nat)(M:Sm)(occ:Value)(w':World):Prop:=∃F',SF F' w' s o t M occ/\aJ F F' w w'
def SF.world(h:SF F w s o t M occ):∃Fw,WF Fw w o t M.ag M.cap M.T M.ch/\(∀i,Fw i->F i)/\∀{w':World} {T':Tb} {ch':List Go.dR.Cg},Gr Fw w o t M.ag M.cap T' ch' w'->mC F w s o t {M with T:=T',ch:=ch'} occ w':=by
 obtain ⟨g,m,qs,Fw,sd,h1,h2,hq,h3,h4,h5,rfl⟩:=h;refine ⟨Fw,h3,λi hi=> .inr (.inr (.inl hi)),?_⟩;rintro w' T' ch' ⟨F',h',ht⟩;have n1:=h3.dA h1 aA aA aA;have n2:∀i,Q.g7 g m qs i->¬Fw i:=h5;have n4:∀b,sd.aZ=some b->¬Fw b:=λb hb=>by obtain ⟨cs',hr'⟩:=aY h4 aA hb;exact h3.dA hr' aA aA aA
 refine ⟨_,⟨g,m,qs,F',sd,ht.mod.row h1 n1,h2.aW ht.mod n2,hq,h',ht.mod.gU h4 n4,?_,rfl⟩,ht.mod.mono λi _ hi=> .inr (.inr (.inl hi)),λi hi=> ?_⟩
 ·exact λi hi hf=>ht.apart (G:=Q.g7 g m qs) (λi hi hg=>h5 i hg hi) (λi hi=>h2.lt i hi) i hf hi
 ·rcases hi with hi|hi|hi|hi
  ·exact .inl (.inl hi)
  ·exact .inl (.inr (.inl hi))
  ·exact (ht.sub i hi).imp (λh=> .inr (.inr (.inl h))) id
  ·exact .inl (.inr (.inr (.inr hi)))
def SF.queue(h:SF F w s o t M occ):∃g m qs,Q.uC w g m qs M.q/\BT M.q/\(∃sd,Row w s (smC g o M occ sd) Ck)/\(∀i,Q.g7 g m qs i->F i)/\∀{w':World} {qs':Sl} {q':QS},Q.uC w' g m qs' q'->BT q'->aJ (Q.g7 g m qs) (Q.g7 g m qs') w w'->mC F w s o t {M with q:=q'} occ w':=by
 obtain ⟨g,m,qs,Fw,sd,h1,h2,hq,h3,h4,h5,rfl⟩:=h;refine ⟨g,m,qs,h2,hq,⟨sd,h1⟩,λi hi=> .inr (.inl hi),?_⟩;rintro w' qs' q' h' hq' ht;have n1:=h2.dA h1 aA aA;have n3:∀i,Fw i->¬Q.g7 g m qs i:=λi hi hf=>h5 i hf hi
 have n4:=h2.adV h4 aA aA aA;refine ⟨_,⟨g,m,qs',Fw,sd,ht.mod.row h1 n1,h',hq',h3.aW ht.mod n3,ht.mod.gU h4 n4,?_,rfl⟩,ht.mod.mono λi _ hi=> .inr (.inl hi),λi hi=> ?_⟩
 ·exact λi hi hf=>ht.apart (G:=Fw) (λi hi hg=>h5 i hi hg) (λi hi=>h3.lt hi) i hi hf
 ·rcases hi with hi|hi|hi|hi
  ·exact .inl (.inl hi)
  ·exact (ht.sub i hi).imp (λh=> .inr (.inl h)) id
  ·exact .inl (.inr (.inr (.inl hi)))
  ·exact .inl (.inr (.inr (.inr hi)))
def SF.row(h:SF F w s o t M occ):∃g sd,Row w s (smC g o M occ sd) Ck/\ar 0 rF 3 w sd (M.jI.map dZ)/\F s/\(∀b,sd.aZ=some b->F b)/\∀{w':World} {M':Sm} {occ':Value} {sd':Sl},M'.ag=M.ag->M'.cap=M.cap->M'.T=M.T->M'.ch=M.ch->M'.q=M.q->Mod (λi=>i=s\/sd.aZ=some i) w w'->Row w' s (smC g o M' occ' sd') Ck->ar 0 rF 3 w' sd' (M'.jI.map dZ)->(∀b,sd'.aZ=some b->sd.aZ=some b\/w.heap.size<=b)->mC F w s o t M' occ' w':=by
 obtain ⟨g,m,qs,Fw,sd,h1,h2,hq,h3,h4,h5,rfl⟩:=h;refine ⟨g,sd,h1,h4,.inl rfl,λb hb=> .inr (.inr (.inr hb)),?_⟩;rintro w' M' occ' sd' e1 e2 e3 e4 e5 hm hr hd fa;have q1:=h2.dA h1 aA aA;have q2:=h2.adV h4 aA aA aA;have r1:=h3.dA h1 aA aA aA;have r2:∀b,sd.aZ=some b->¬Fw b:=λb hb=>by obtain ⟨cs',hr'⟩:=aY h4 aA hb;exact h3.dA hr' aA aA aA
 refine ⟨_,⟨g,m,qs,Fw,sd',hr,by rw [e5];exact h2.aW hm λi hi hf=>hf.elim (λe=>q1 (e▸hi)) (λe=>q2 _ e hi),by rw [e5];exact hq,by rw [e1,e2,e3,e4];exact h3.aW hm λi hi hf=>hf.elim (λe=>r1 (e▸hi)) (λe=>r2 _ e hi),hd,h5,rfl⟩,hm.mono λi _ hi=>hi.elim .inl (λe=> .inr (.inr (.inr e))),λi hi=> ?_⟩;rcases hi with hi|hi|hi|hi
 ·exact .inl (.inl hi)
 ·exact .inl (.inr (.inl hi))
 ·exact .inl (.inr (.inr (.inl hi)))
 ·exact (fa i hi).imp (λh=> .inr (.inr (.inr h))) id
end
def ac3{l:List En}(hg:fV l)(c:Ce)(b:Int):fV (fb l c b).1:=by
 unfold fb;split
 ·exact hg
 ·split
  ·exact hg
  ·split
   ·exact hg
   ·intro e he;rcases bX.1 he with he|he
    ·exact hg e ((xG ..).subset he)
    ·simp only [Option.mem_toList,xE] at he;obtain ⟨y,hy,rfl⟩:=he;exact WO (hg y (aO hy)).1 (hg y (aO hy)).2 c b
def vA(M:Sm)(c:Ce)(b:Int):Sm:={M with T:=(M.T.1,(fb M.T.2 c b).1),ch:=wsC M.T.2 M.ch c b,q:=if (fb M.T.2 c b).2=0 then HC (gz (fb M.T.2 c b).1) M.now M.q c else M.q}
def bT(M:Sm)(x:Go.dR.Cg):Sm:=if gz M.T.2 x.1=x.2 then M else vA M x.1 x.2
def vD(O:Ce->Bool)(M:Sm)(c:Ce):Bool:=decide (gz M.T.2 c=3) &&(!(ig (gz M.T.2) c).isEmpty && O (fe c))
def kh(O:Ce->Bool)(M:Sm)(c:Ce):Sm:=
 if Gs M.T.2 c=false then {M with q:=(mj M.q c (M.now+1)).1}
 else if vD O M c=true then bT {M with jI:=M.jI++ [fe c]} (c,0)
 else (ig (gz M.T.2) c).foldl bT M
def tA(M:Sm):Int:=min (M.now+1) 1099511627776
def tw(M:Sm):Sm:={M with now:=tA M,q:=(MV M.q (tA M) M.dD).1}
def pc(M:Sm):List Ce:=(MV M.q (tA M) M.dD).2
def AZ(O:Ce->Bool)(M:Sm):Sm:=(pc M).foldl (kh O) (tw M)
section
variable {F F':Nat->Prop} {w w':World} {s o t:Nat} {M M':Sm} {occ:Value}
def SF.tl(h:SF F w s o t M occ):Tl (.func (.func 83) #[t] #[]) (gz M.T.2) w:=by obtain ⟨Fw,hW,-,-⟩:=h.world;exact ⟨Fw,λi hi=>hW.lt hi,λw' hk c hc=>hW.aqk hk c hc⟩
def acP:BT ⟨4096,0,[]⟩:=⟨aA,aA,List.Pairwise.nil,List.nodup_nil⟩
def D6{Fw:Nat->Prop}{ag cap:Int}{T:Tb}{ch:List Go.dR.Cg}(h:WF Fw w o t ag cap T ch)(dD:Int):ae 40 #[o,dD] w λe w'=>∃s F,e=Value.pointer (aD s)/\SF F w' s o t ⟨ag,cap,T,ch,⟨4096,0,[]⟩,min (max dD 1) 64,0,[]⟩ (.func (.func 98) #[] #[])/\Ext w w'/\(∀i,F i->Fw i\/w.heap.size<=i):=by
 apply ahf.vc;refine (Q.AA 4096 w).mono ?_;rintro e w0 ⟨g,m,rfl,hq,x0,hg,hm⟩;refine ⟨_,rfl,λw2 e2=> ?_⟩;have eb:(if 64<(if 1>dD then 1 else dD) then 64 else (if 1>dD then 1 else dD))=min (max dD 1) 64:=by split<;>split<;>omega
 rw [eb] at e2;have x2:=aQ e2;have hr:Row w2 w0 (smC g o ⟨ag,cap,T,ch,⟨4096,0,[]⟩,min (max dD 1) 64,0,[]⟩ (.func (.func 98) #[] #[]) ⟨none,0,0⟩) Ck:=Row.nw e2;refine ⟨w0.heap.size,_,rfl,⟨g,m,⟨none,0,0⟩,Fw,⟨none,0,0⟩,hr,hq.ext x2,acP,h.ext (x0.tr x2),ar.nil,?_,rfl⟩,x0.tr x2,λi hi=> ?_⟩
 ·rintro i (hi|hi|hi) hf
  ·have:=h.lt hf;omega
  ·have:=h.lt hf;omega
  ·cases hi
 ·have:=x0.size;rcases hi with hi|(hi|hi|hi)|hi|hi
  ·exact .inr aa
  ·exact .inr aa
  ·exact .inr aa
  ·cases hi
  ·exact .inl hi
  ·cases hi
def gL(h:SF F w s o t M occ):ae 18 #[s] w λe w'=>e=Value.pointer (aD o)/\w'=w:=by obtain ⟨g,sd,h1,-⟩:=h.row;apply JA.vc;exact ⟨_,h1.at 1 rfl,rfl,rfl⟩
def JL(h:SF F w s o t M occ):ae 82 #[s] w λe w'=>∃s':Sl,e=s'/\ar w Q.cF 4 w' s' (M.q.l.map fJ)/\Ext w w':=by obtain ⟨g,m,qs,hq,bc,⟨sd,hr⟩,-⟩:=h.queue;apply EM.vc;refine ⟨_,hr.at 0 rfl,(Q.adA hq bc).mono ?_⟩;rintro e w' ⟨s',rfl,ho,x⟩;exact ⟨s',rfl,s',rfl,ho,x⟩
def AR(h:SF F w s o t M occ)(f:Fn)(a b:Array Value):ae 118 #[s,.func f a b] w λe w'=>e=ya/\mC F w s o t M (.func f a b) w'/\Mod (λi=>i=s) w w':=by
 obtain ⟨g,sd,hr,ho,-,-,bf⟩:=h.row;apply Ha.vc;obtain ⟨p1,p2⟩:=hr.ic (j:=4) (v:=.func f a b) (by simp [smC]) rfl;refine ⟨⟨rfl,p1⟩,λw0 e0=>⟨rfl,?_⟩⟩;obtain ⟨q1,q2⟩:=p2 w0 e0;have hso:∀b,sd.aZ=some b->b≠s:=λb hb=>by obtain ⟨cs',hr'⟩:=aY ho aA hb;exact hr'.ne hr aA
 exact ⟨bf (M':=M) rfl rfl rfl rfl rfl (q2.mono λi _ hi=> .inl hi) q1 (q2.gU ho hso) (λb hb=> .inl hb),q2⟩
def QA(b:Int):0<=ki b/\ki b<=5:=by
 unfold ki;split
 ·decide
 ·split<;>decide
def adB{V:Ce->Int}{c:Ce}(hc:fm c):∀n ∈ tB V c,rT n:=λn hn=>by
 unfold tB at hn
 rcases cp.1 (ju.1 hn).1 with rfl|h
 ·exact hc.ok
 ·exact GP hc h
def K0(V:Ce->Int)(c:Ce):(tB V c).length<=7:=Au _ _
abbrev HB(V:Ce->Int)(now:Int)(q:QS)(n:Ce):QS:=(mj q n (now+ki (V n))).1
def yF(V:Ce->Int)(now:Int):∀(l:List Ce)(q:QS),q.lost<=(l.foldl (HB V now) q).lost/\(l.foldl (HB V now) q).lost<=q.lost+l.length
 | [],q=>⟨lL _,bg⟩
 |n::l,q=>by
  have h1:=yF V now l (HB V now q n)
  have h2:=CH q n (now+ki (V n))
  have h3:(HB V now q n).lost=(mj q n (now+ki (V n))).1.lost:=rfl
  simp only [nU,bR]
  omega
def Zg(h:SF F w s o t M occ)(c:Ce)(hc:fm c)(hl:0<=M.q.lost/\M.q.lost<=900000)(ajf:0<=M.now/\M.now<=1099511627776):
  ae 162 #[s,eg c] w λe w'=>e=ya/\mC F w s o t {M with q:=HC (gz M.T.2) M.now M.q c} occ w':=by
 apply MD.vc;intro w0 e0;have x0:=aQ e0;have z0:=fj e0;have h0:=h.ext x0;obtain ⟨g,sd,hr,-,hFs,-⟩:=h0.row;obtain ⟨Fw,hW,-,-⟩:=h0.world;refine ⟨_,hr.at 1 rfl,(iH hW).mono ?_⟩;rintro e w2 ⟨rfl,hw⟩;subst hw;refine ⟨_,rfl,rfl,(UH h0.tl c hc).mono ?_⟩;rintro e w4 ⟨s5,rfl,ho,x4⟩;have z4:=x4.size;have jj:=ho.rd (show 0<3 by decide);have hn5:=jj.n;have h4:=h0.ext x4;have hL:=K0 (gz M.T.2) c;have bc:=adB (V:=gz M.T.2) hc;unfold HC;generalize hLe:tB (gz M.T.2) c=L at*;rw [aL] at hn5;refine ⟨s5,rfl,x4.heap aa,λn x bo=>∃(j:Nat)(F':Nat->Prop),x=j/\j+n=L.length/\SF F' bo s o t {M with q:=(L.take j).foldl (HB (gz M.T.2) M.now) M.q} occ/\aJ F F' w4 bo,⟨L.length,rfl,0,F,rfl,aa,h4,aJ.refl _ _⟩,?_⟩;rintro n us x bo ⟨j,F',rfl,hj,hS,hT⟩;have XB:=hT.mod.size;have hF:∀i,F i->i<w.heap.size:=λi hi=>h.lt hi
 have hrd10:RdK bo s5 3 (L.map dZ):=hT.mod.rdK aA jj λ_ b hb hf=>by have:=(ho.own.lt hb).1;have:=hF b hf;omega
 apply Br.mk<;>intro hb
 ·replace hb:=nh hb;obtain ⟨y,hy⟩:=bq (l:=L) (i:=j) aa;have oky:=bc y (aO hy);have hy':(L.map dZ)[j]? =some (dZ y):=by rw [aS,hy];rfl
  have xU:L.take (j+1)=L.take j++ [y]:=by rw [dy,hy];rfl
  have hlost:=yF (gz M.T.2) M.now (L.take j) M.q;have aHc:(L.take j).length<=7:=by rw [cY];omega
  generalize hqj:(L.take j).foldl (HB (gz M.T.2) M.now) M.q=qj at*;refine ⟨hrd10.jd (i:=(j:Int)) aA aa hb,_,_,_,hrd10.bI hy',λee qu cD FY=> ?_⟩;have du:Ext bo cD:=(aQ qu).ab FY (ak _);have z16:=Eu qu FY;have azp:Row cD bo (dZ y) rF:=by rw [FY];exact Row.set (by rw [qu];exact Row.new bo [_,_,_] _) _
  have xd:=du.tr (Ext.dr cD);have zd:=m7 cD;have asM:=hS.ext xd;obtain ⟨g',m,qs,hq,IW,⟨sd',hr'⟩,fa,bf⟩:=asM.queue;refine ⟨_,hr'.at 0 rfl,_,hr'.at 3 rfl,ez (asM.tl.at oky) ?_⟩;rintro e fK ⟨rfl,db⟩;have z19:=db.size;have ajg:=hr'.ext db;have asN:=(azp.ext (Ext.dr cD)).ext db;have hd:=QA (gz M.T.2 y);have wr:aw (M.now+ki (gz M.T.2 y))=M.now+ki (gz M.T.2 y):=wI;refine ⟨_,rfl,db.heap aa,db.heap aa,qd (ajg.at 3 rfl),Lo.wv asN,qd (ajg.at 0 rfl),(HD (gz M.T.2 y) fK).mono ?_⟩;rintro e dU ⟨rfl,hw⟩;subst hw;refine ⟨_,rfl,rfl,rfl,qd (ajg.at 3 rfl),Lo.wv asN,qd (ajg.at 0 rfl),?_⟩;rw [wr];refine (Q.HE (hq.ext db) IW (by simp only at hlost ⊢;omega) y (M.now+ki (gz M.T.2 y))).mono ?_;rintro e fQ ⟨rfl,qs',hq',ht⟩;have wk:=ov (j:=j);have ht':aJ (Q.g7 g' m qs) (Q.g7 g' m qs') cD.drew fQ:=(aJ.aC db).trans ht;obtain ⟨F2,Wa,IX⟩:=bf hq' (IW.add y _) ht';have hsF:¬Q.g7 g' m qs s:=(hq).dA hr' aA aA;have azq:=ht'.mod.row hr' hsF;have nf:∀i,(w.heap.size<=i/\i<w4.heap.size\/bo.heap.size<=i)->i<cD.drew.heap.size->fQ.heap[i]? =dU.heap[i]? :=λi h1 h2=>(IX.mod.same i h2 (λhf=>by
   rcases h1 with ⟨h1,XA⟩|h1
   ·rcases hT.sub i hf with q|q
    ·have:=hF i q;omega
    ·omega
   ·have:=hS.lt hf;omega)).trans (db.heap h2).symm
  refine ⟨_,rfl,nf _ (.inl aa) aa,nf _ (.inr aa) aa,qd (azq.at 3 rfl),n-1,aa,rfl,j+1,F2,wk,aa,?_,(hT.trans (aJ.aC xd)).trans IX⟩;rw [xU,pW,hqj];exact Wa
 ·replace hb:=nC hb;rw [fl aa] at hS;exact ⟨rfl,F',hS,(aJ.aC (x0.tr x4)).trans hT⟩
end
section
variable {F F':Nat->Prop} {w w':World} {s o t:Nat} {M M':Sm} {occ:Value}
def mC.trans{F1:Nat->Prop}{w1:World}(h:aJ F F1 w w1)(k:mC F1 w1 s o t M occ w'):mC F w s o t M occ w':=by obtain ⟨F2,h2,t2⟩:=k;exact ⟨F2,h2,h.trans t2⟩
structure sO(M:Sm)(n:Nat):Prop where
 l:0<=M.q.lost/\M.q.lost<=n
 c:M.ch.length<=n
 now:0<=M.now/\M.now<=1099511627776
 d:M.jI.length<=n
def sO.mono{n m:Nat}(h:sO M n)(hm:n<=m):sO M m:=⟨⟨h.l.1,by have:=h.l.2;omega⟩,gG h.c hm,h.now,gG h.d hm⟩
def adZ(l:List En)(ch:List Go.dR.Cg)(c:Ce)(b:Int):(wsC l ch c b).length<=ch.length+1:=agW l ch c b
def UY(V:Ce->Int)(now:Int)(q:QS)(c:Ce):q.lost<=(HC V now q c).lost/\(HC V now q c).lost<=q.lost+7:=by have h1:=yF V now (tB V c) q;have h2:=K0 V c;have h3:HC V now q c=(tB V c).foldl (HB V now) q:=rfl;rw [h3];omega
def sO.edit{n:Nat}(h:sO M n)(c:Ce)(b:Int):sO (vA M c b) (n+7):=by
 have h1:=adZ M.T.2 M.ch c b;have h2:=UY (gz (fb M.T.2 c b).1) M.now M.q c;have h3:=h.l;have h4:=h.c;unfold vA;have h5:=h.d;refine ⟨?_,?_,h.now,by simp only;omega⟩
 ·simp only;split<;>omega
 ·simp only;omega
def sO.change{n:Nat}(h:sO M n)(x:Go.dR.Cg):sO (bT M x) (n+7):=by
 unfold bT;split
 ·exact h.mono aa
 ·exact h.edit _ _
def yN(h:SF F w s o t M occ)(c:Ce)(hc:fm c)(b:Int)(hk:sO M 800000):
  ae 113 #[s,eg c,b] w λe w'=>e=Value.int .i64 (fb M.T.2 c b).2/\mC F w s o t (vA M c b) occ w':=by
 apply MC.vc;intro w0 e0;have x0:Ext w w0.drew:=(aQ e0).tr (Ext.dr w0);have z0:w0.drew.heap.size=w.heap.size+1:=by show w0.heap.size=_;rw [e0];simp
 have zd:=m7 w0;have h0:=h.ext x0;obtain ⟨g,sd,hr,-⟩:=h0.row;obtain ⟨Fw,hW,fa,bf⟩:=h0.world;have hlc:=hk.c;have hll:=hk.l;refine ⟨_,(hr.at 1 rfl),(X1 hW c hc.ok b aa).mono ?_⟩;rintro e w2 ⟨rfl,hw⟩;obtain ⟨F2,h2,t2⟩:=bf hw;have hF:∀{i},w.heap.size<=i->i<w0.drew.heap.size->w2.heap[i]? =w0.drew.heap[i]? :=λh1 h3=>t2.mod.same _ h3 λhf=>by have:=h.lt hf;omega
 unfold vA;refine ⟨_,rfl,hF (ak _) aa,Br.mk (λhb=> ?_) (λhb=> ?_)⟩
 ·rw [if_pos (by simpa using hb)];refine (Zg h2 c hc (by simp only;omega) hk.now).mono ?_;rintro e w4 ⟨rfl,F4,h4,t4⟩;have hz:=t2.mod.size;have hnf:¬F2 w:=λhf=>by
   rcases t2.sub _ hf with q|q
   ·have:=h.lt q;omega
   ·omega
  exact ⟨rfl,t4.mod.same _ aa hnf,rfl,F4,h4,(aJ.aC x0).trans (t2.trans t4)⟩
 ·rw [if_neg (by simpa using hb)];exact ⟨rfl,F2,h2,(aJ.aC x0).trans t2⟩
def qQ(h:SF F w s o t M occ)(x:Go.dR.Cg)(hc:fm x.1)(hk:sO M 800000):
  ae 244 #[s,.agg (nN x).toArray] w λe w'=>e=ya/\mC F w s o t (bT M x) occ w':=by
 apply Hb.vc;intro w0 e0;have F7:Row w0 w (nN x) lI:=Row.nw e0;have x0:Ext w w0.drew:=(aQ e0).tr (Ext.dr w0);have z0:w0.drew.heap.size=w.heap.size+1:=by show w0.heap.size=_;rw [e0];simp
 have hb:=F7.ext (Ext.dr w0);have h0:=h.ext x0;obtain ⟨g,sd,hr,-⟩:=h0.row;obtain ⟨Fw,hW,-,-⟩:=h0.world;refine ⟨_,(hr.at 1 rfl),(iH hW).mono ?_⟩;rintro e w2 ⟨rfl,hw⟩;subst hw;refine ⟨_,rfl,rfl,hb.bI (o:=3) (λj hj=>by
  match j,hj with
  |0,_=>rfl),hb.bI (o:=0) (λj hj=>by
  match j,hj with
  |0,_=>rfl
  |1,_=>rfl
  |2,_=>rfl),ez (h0.tl.at hc.ok) ?_⟩
 rintro e w4 ⟨rfl,x4⟩;have z4:=x4.size;have El:=x0.tr x4;unfold bT;refine ⟨_,rfl,x4.heap aa,(hb.ext x4).bI (o:=3) (λj hj=>by
  match j,hj with
  |0,_=>rfl),Br.mk (λj8=> ?_) (λj8=> ?_)⟩
 ·rw [if_neg (by simpa using j8)];refine (yN (h.ext El) x.1 hc x.2 hk).mono ?_;rintro e w6 ⟨rfl,F6,h6,t6⟩;exact ⟨_,rfl,t6.mod.same _ aa (λhf=>by have:=h.lt hf;omega),rfl,F6,h6,(aJ.aC El).trans t6⟩
 ·rw [if_pos (by simpa using j8)];exact ⟨rfl,F,h.ext El,aJ.aC El⟩
end
def Oc(occ:Value)(O:Ce->Bool)(F:Nat->Prop)(w:World):Prop:=∃D:Nat->Prop,(∀i,D i->i<w.heap.size/\¬F i)/\∀w',(∀i,D i->w'.heap[i]? =w.heap[i]?)->∀c,rT c->bB Tryz.prog occ [eg c] w' λe w''=>e=Value.bool (O c)/\Ext w' w''
section
variable {F F':Nat->Prop} {w w':World} {s o t:Nat} {M M':Sm} {occ:Value} {O:Ce->Bool}
def Oc.vF(h:Oc occ O F w)(ht:aJ F F' w w'):Oc occ O F' w':=by
 obtain ⟨D,h1,h2⟩:=h;refine ⟨D,λi hi=>⟨kr (h1 i hi).1 ht.mod.size,λhf=> ?_⟩,λw'' hk=>h2 w'' λi hi=>(hk i hi).trans (ht.mod.same i (h1 i hi).1 (h1 i hi).2)⟩;rcases ht.sub i hf with q|q
 ·exact (h1 i hi).2 q
 ·have:=(h1 i hi).1;omega
def Oc.ext(h:Oc occ O F w)(x:Ext w w'):Oc occ O F w':=h.vF (aJ.aC x)
def Oc.at(h:Oc occ O F w){c:Ce}(hc:rT c):bB Tryz.prog occ [eg c] w λe w'=>e=Value.bool (O c)/\Ext w w':=by obtain ⟨D,h1,h2⟩:=h;exact h2 w (λ_ _=>rfl) c hc
def sO.fold{n:Nat}:∀{M:Sm} (l:List Go.dR.Cg),sO M n->sO (l.foldl bT M) (n+7*l.length)
 |M,[],h=>h
 |M,x::l,h=>(sO.fold l (h.change x)).mono (by simp only [bR];omega)
def QP(V:Ce->Int)(c:Ce):(ig V c).length<=4:=by
 unfold ig LJ mN;split
 ·split<;>simp
 ·split
  ·split
   ·simp
   ·split
    ·simp
    ·split
     ·simp
     ·split
      ·simp
      ·rw [aL];exact Au _ _
  ·simp
def aaT(V:Ce->Int)(c:Ce):∀x ∈ ig V c,x.1=c\/x.1 ∈ rG c:=by
 have ajz:fe c ∈ rG c:=by simp [rG]
 have hside:∀n ∈ c5 c,n ∈ rG c:=λn hn=>by
  unfold c5 at hn;unfold rG;simp only [cp,lJ,or_false] at hn ⊢;rcases hn with h|h|h|h
  ·exact .inl h
  ·exact .inr (.inl h)
  ·exact .inr (.inr (.inr (.inr (.inl h))))
  ·exact .inr (.inr (.inr (.inr (.inr h))))
 intro x hx;unfold ig at hx;split at hx
 ·unfold LJ at hx;split at hx
  ·simp only [cp,lJ,or_false] at hx;rcases hx with rfl|rfl
   ·exact .inl rfl
   ·exact .inr ajz
  ·cases hx
 ·split at hx
  ·unfold mN at hx;split at hx
   ·simp only [cp,lJ,or_false] at hx;rw [hx];exact .inl rfl
   ·split at hx
    ·simp only [cp,lJ,or_false] at hx;rw [hx];exact .inl rfl
    ·split at hx
     ·simp only [cp,lJ,or_false] at hx;rw [hx];exact .inr ajz
     ·split at hx
      ·cases hx
      ·obtain ⟨n,hn,rfl⟩:=aU.1 hx;exact .inr (hside n (ju.1 hn).1)
  ·cases hx
def QQ(h:SF F w s o t M occ)(hO:Oc occ O F w)(c:Ce)(hc:CU c)(hk:sO M 700000):
  ae 173 #[s,eg c] w λe w'=>e=ya/\mC F w s o t (kh O M c) occ w':=by
 apply Hc.vc;have hc':=id hc;unfold CU at hc';intro w0 e0;have x0:Ext w w0.drew:=(aQ e0).tr (Ext.dr w0);have z0:w0.drew.heap.size=w.heap.size+1:=by show w0.heap.size=_;rw [e0];simp
 have h0:=h.ext x0;obtain ⟨g,sd,hr,hdr,-,hsdF,bf⟩:=h0.row;obtain ⟨Fw,hW,-,-⟩:=h0.world;refine ⟨_,(hr.at 1 rfl),(vb hW c hc.wide.ok (agX aa aa)).mono ?_⟩;rintro e w2 ⟨rfl,x2⟩;have z2:=x2.size;have xh:=x0.tr x2;have ajz:rT (fe c):=GP hc.wide (by simp [rG]);refine ⟨_,rfl,x2.heap aa,Br.mk (λhb=> ?_) (λhb=> ?_)⟩
 ·have xd:=x2.tr (Ext.dr w2);have zd:=m7 w2;have ajf:=hk.now;have wr:aw (M.now+1)=M.now+1:=wI;obtain ⟨g',m,qs,hq,IW,⟨sd',hr'⟩,fa,hresq⟩:=(h0.ext xd).queue;refine ⟨_,hr'.at 0 rfl,_,hr'.at 3 rfl,?_⟩;dsimp only;rw [wr];have hll:=hk.l;refine (Q.HE hq IW aa c (M.now+1)).mono ?_;rintro e w6 ⟨rfl,qs',hq',ht⟩;obtain ⟨F2,Wa,IX⟩:=hresq hq' (IW.add c _) ht;have hsF:¬Q.g7 g' m qs s:=hq.dA hr' aA aA;refine ⟨_,rfl,IX.mod.same _ aa (λhf=>by have:=h.lt hf;omega),qd ((ht.mod.row hr' hsF).at 3 rfl),rfl,?_⟩;unfold kh;rw [if_pos (by simpa using hb)];exact ⟨F2,Wa,(aJ.aC (x0.tr xd)).trans IX⟩
 have aBO:¬Gs M.T.2 c=false:=by simpa using hb
 have oS:=hr.ext x2;refine ⟨_,(oS.at 1 rfl),(iH (hW.ext x2)).mono ?_⟩;rintro e w9 ⟨rfl,hw9⟩;subst hw9;refine ⟨_,rfl,rfl,(TM (h0.tl.ext x2) c hc.wide).mono ?_⟩;rintro e bw ⟨pj,rfl,ho,bK⟩;have z11:=bK.size;have jj:=ho.rd (show 0<4 by decide);have aBP:=jj.n;have hLlen:=QP (gz M.T.2) c;have hLw:∀x ∈ ig (gz M.T.2) c,fm x.1:=λx hx=>by
  rcases aaT _ _ x hx with q|q
  ·rw [q];exact hc.wide
  ·exact ah7 hc q
 have hU:kh O M c=if vD O M c=true then bT {M with jI:=M.jI++ [fe c]} (c,0) else (ig (gz M.T.2) c).foldl bT M:=by unfold kh;rw [if_neg aBO]
 have hH:vD O M c=(decide (gz M.T.2 c=3) &&(!(ig (gz M.T.2) c).isEmpty && O (fe c))):=rfl;generalize ig (gz M.T.2) c=L at*;rw [aL] at aBP;refine ⟨pj,rfl,bK.heap aa,(jP c hc.wide bw).mono ?_⟩;rintro e bP ⟨rfl,cR⟩;have z13:=cR.size;refine ⟨_,_,_,_,_,_,_,_,_,_,_,_,_,_,_,_,_,_,rfl,cR.heap aa,aA,_,_,_,TL c,λgT e35 kH e36=> ?_⟩;have oW:Ext bP kH:=(aQ e35).ab e36 (ak _);have z36:=Eu e35 e36;have xd:=Ext.dr kH;have zd:=m7 kH;have akQ:=cR.tr (oW.tr xd);have aue:=xh.tr (bK.tr akQ);refine ez ((h.ext aue).tl.at hc.wide.ok) ?_;rintro e iR ⟨rfl,lh⟩;have z37:=lh.size;have BI:=aue.tr lh;have S5:=akQ.tr lh;refine ⟨_,rfl,lh.heap aa,lh.heap aa,(yi (gz M.T.2 c) iR).mono ?_⟩;rintro e kR ⟨rfl,aoj⟩;subst aoj;have aBQ:=oS.ext (bK.tr S5);refine ⟨_,rfl,rfl,rfl,Br.mk (λhf=>Br.mk (λhp=> ?_) (λhp=> ?_)) (λhf=> ?_)⟩
 ·refine ⟨_,aBQ.at 4 rfl,ez ((hO.ext BI).at ajz) ?_⟩;rintro e lf ⟨rfl,qU⟩;have z42:=qU.size;have S6:=BI.tr qU;have hpn:(!L.isEmpty)=true:=by
   have:0<L.length:=by simp only [cJ,gt_iff_lt] at hp;omega
   cases L with
   |nil=>simp at this
   |cons=>rfl
  have hf3:decide (gz M.T.2 c=3)=true:=by simpa using hf
  refine ⟨_,rfl,qU.heap aa,qU.heap aa,Br.mk (λhh=> ?_) (λhh=> ?_)⟩
  ·have hHt:vD O M c=true:=by rw [hH,hf3,hpn,hh];rfl
   intro me e44;have pk:=aQ e44;have z44:=fj e44;have rch:Row me lf (nN (c,0)) lI:=Row.nw e44;have aoU:=Ext.dr me;have aJJ:=m7 me;have auf:=S6.tr (pk.tr aoU);have aEK:=x2.tr ((bK.tr S5).tr (qU.tr (pk.tr aoU)));obtain ⟨g2,sd2,aga,hdr44,hFs,hsdF2,hres44⟩:=(h.ext auf).row;refine ⟨sd2,aga.at 5 rfl,λsI e46=> ?_⟩;subst e46;have uT:sd2.n=M.jI.length:=by have:=(hdr44.rd (show 0<3 by decide)).n;rwa [aL] at this
   have hkd:=hk.d;obtain ⟨J7,hres8⟩:=hdr44.j9 (bytes:=24) (news:=dZ (fe c)) (.cells #[.int .i64 (fe c).1,.int .i64 (fe c).2.1,.int .i64 (fe c).2.2] rF) (gV _) rfl (C6 _) aa aa;refine ⟨J7,λIS iw aBS=> ?_⟩;obtain ⟨f8,FW,hn8,x8,LX,iX⟩:=hres8 IS iw aBS;have xa:=Ext.al me.drew (.cells #[.int .i64 (fe c).1,.int .i64 (fe c).2.1,.int .i64 (fe c).2.2] rF);have hsdlt:∀b,sd2.aZ=some b->b<w.heap.size:=λb hb=>h.lt (hsdF2 b hb)
   have kp:∀j,w.heap.size<=j->j<me.drew.heap.size->iw.heap[j]? =(me.drew.alloc (.cells #[.int .i64 (fe c).1,.int .i64 (fe c).2.1,.int .i64 (fe c).2.2] rF)).heap[j]? :=λj h1 h2=>by rw [LX j (λhb=>by have:=hsdlt j hb;omega) h2,xa.heap h2]
   have aJK:=h.lt hFs;have m48:Mod (λj=>sd2.aZ=some j) me.drew iw:=Mod.yb x8 LX;have aBU:¬sd2.aZ=some s:=λe=>by obtain ⟨cs',hr'⟩:=aY hdr44 aA e;exact hr'.ne aga aA rfl
   have akR:=m48.row aga aBU;obtain ⟨p1,p2⟩:=akR.ic (j:=5) (v:=.slice IS.a IS.n IS.c) (by simp [smC]) rfl;have z48:=m48.size;have pb:∀j:Nat,s<j->bk (af (some ⟨s,0,none⟩) 5)≠some j:=λj hj e=>by
    rw [cP] at e;have:s=j:=by simpa [bk] using e
    omega
   refine ⟨kp _ aa aa,kp _ aa aa,kp _ aa aa,f8,⟨rfl,p1⟩,pb _ aa,pb _ aa,pb _ aa,pb _ aa,λpG e49=> ?_⟩;obtain ⟨q1,q2⟩:=p2 pG e49;have ho9:∀b,IS.aZ=some b->b≠s:=λb hb=>by obtain ⟨cs',hr'⟩:=aY FW aA hb;exact hr'.ne akR aA
   have m49:Mod (λj=>j=s\/sd2.aZ=some j) me.drew pG:=(m48.mono λi _ hi=> .inr hi).trans (q2.mono λi _ hi=> .inl hi);obtain ⟨F3,hS3,hT3⟩:=hres44 (M':={M with jI:=M.jI++ [fe c]}) rfl rfl rfl rfl rfl m49 q1 (by rw [bJ];exact q2.gU FW ho9) (λb hb=>by
    rcases iX with e|e
    ·exact .inl (by rw [<-e];exact hb)
    ·rw [e] at hb;cases hb;exact .inr (pO _))
   have z49:=q2.size;have aBW:Row pG me.drew.heap.size (dZ (fe c)) rF:=q2.row (Row.same (Row.new me.drew [_,_,_] rF) f8) aa;have hnl:¬F3 me.drew.heap.size:=hS3.dA aBW aqn.1 aA aA aA aA aA (λg sd r1 hb=>by
    have e1:=(r1.at 5 rfl).symm.trans (q1.at 5 rfl);have e2:sd.a=IS.a:=by injection e1 with e1;injection e1
    have e3:sd.aZ=IS.aZ:=by unfold Sl.aZ;rw [e2]
    rw [e3] at hb;rcases iX with e|e
    ·have:=hsdlt _ (by rw [<-e];exact hb);omega
    ·rw [e] at hb;simp at hb)
   have hch49:Row pG lf (nN (c,0)) lI:=m49.row (rch.ext aoU) (λq=>by
    rcases q with q|q
    ·omega
    ·have:=hsdlt _ q;omega)
   have hF3:∀i,F3 i->i<w.heap.size\/me.heap.size<=i:=λi hi=>(hT3.sub i hi).imp (λq=>h.lt q) id
   refine ⟨λn x wr=>(x=0/\n=1/\wr=pG)\/(x=1/\n=0/\mC F3 pG s o t (bT {M with jI:=M.jI++ [fe c]} (c,0)) occ wr),⟨1,rfl,rfl,rfl,rfl,.inl ⟨rfl,rfl,rfl⟩⟩,?_⟩;rintro n us x wr (⟨rfl,rfl,rfl⟩|⟨rfl,rfl,hS⟩)
   ·refine Br.mk (λ_=> ?_) (λq=>by simp at q);refine ⟨⟨rfl,aA,aA⟩,_,_,_,_,Lo.wv hch49,λoU e60 rI e61=> ?_⟩;have zI:Ext wr rI:=(aQ e60).ab e61 (ak _);have z61:=Eu e60 e61;refine (qQ (hS3.ext zI) (c,0) hc.wide ⟨by have:=hk.l;simp only;omega,by have:=hk.c;simp only;omega,hk.now,by have:=hk.d;simp only [bQ,List.length_singleton];omega⟩).mono ?_;rintro e jX ⟨rfl,F4,hS4,hT4⟩;have nf:∀i,(w.heap.size<=i/\i<me.heap.size\/wr.heap.size<=i)->i<rI.heap.size->jX.heap[i]? =rI.heap[i]? :=λi h1 h2=>hT4.mod.same i h2 λhf=>by
     rcases h1 with ⟨h1,XA⟩|h1
     ·rcases hF3 i hf with q|q<;>omega
     ·have:=hS3.lt hf;omega
    refine ⟨rfl,nf _ (.inl aa) aa,nf _ (.inl aa) aa,nf _ (.inl aa) aa,hT4.mod.same _ aa hnl,nf _ (.inr aa) aa,0,aa,rfl,rfl,rfl,rfl,.inr ⟨rfl,rfl,F4,hS4,(aJ.aC zI).trans hT4⟩⟩
   ·refine Br.mk (λq=>by simp at q) (λ_=> ?_);rw [hU,if_pos hHt];exact ⟨rfl,mC.trans ((aJ.aC auf).trans hT3) hS⟩
  ·have hHf:¬vD O M c=true:=by rw [hH,hh,Bool.and_false,Bool.and_false];decide
   refine ⟨λn x wr=>∃(j:Nat)(F':Nat->Prop),x=j/\j+n=L.length/\SF F' wr s o t ((L.take j).foldl bT M) occ/\aJ F F' lf wr,⟨L.length,rfl,rfl,0,F,rfl,aa,h.ext S6,aJ.refl _ _⟩,?_⟩;rintro n us x wr ⟨j,F',rfl,hj,hS,hT⟩;have zr:=hT.mod.size;have hzw42:=(S6).size;have Jb:RdK wr pj 4 (L.map nN):=hT.mod.rdK aA (jj.ext (S5.tr qU)) λ_ b hb hf=>by have:=(ho.own.lt hb).1;have:=h.lt hf;omega
   have nf:∀{w2:World} {F2:Nat->Prop} {w1:World},Ext wr w1->aJ F' F2 w1 w2->∀i,(w.heap.size<=i/\i<lf.heap.size\/wr.heap.size<=i)->i<w1.heap.size->w2.heap[i]? =w1.heap[i]? :=λx1 t2 i h1 h2=>t2.mod.same i h2 λhf=>by
    rcases h1 with ⟨h1,XA⟩|h1
    ·rcases hT.sub i hf with q|q
     ·have:=h.lt q;omega
     ·omega
    ·have:=hS.lt hf;omega
   apply Br.mk<;>intro hb
   ·replace hb:=nh hb;obtain ⟨y,hy⟩:=bq (l:=L) (i:=j) aa;have hy':(L.map nN)[j]? =some (nN y):=by rw [aS,hy];rfl
    have xU:L.take (j+1)=L.take j++ [y]:=by rw [dy,hy];rfl
    have wk:=ov (j:=j);refine ⟨Jb.jd (i:=(j:Int)) aA aa hb,_,_,_,_,Jb.bI hy',λw86 e86 Eo e87=> ?_⟩;have vX:Ext wr Eo:=(aQ e86).ab e87 (ak _);have z87:=Eu e86 e87;refine (qQ (hS.ext vX) y (hLw y (aO hy)) ((hk.fold (L.take j)).mono (by rw [cY];omega))).mono ?_;rintro e NI ⟨rfl,F2,Wa,IX⟩;refine ⟨rfl,nf vX IX _ (.inl aa) aa,nf vX IX _ (.inl aa) aa,nf vX IX _ (.inr aa) aa,n-1,aa,rfl,rfl,j+1,F2,wk,aa,?_,(hT.trans (aJ.aC vX)).trans IX⟩;rw [xU,pW];exact Wa
   ·replace hb:=nC hb;rw [fl aa] at hS;rw [hU,if_neg hHf];exact ⟨rfl,F',hS,(aJ.aC S6).trans hT⟩
 ·have hHf:¬vD O M c=true:=by
   have:L=[]:=by
    have:¬0<L.length:=by simp only [fA,gt_iff_lt] at hp;omega
    exact Gj.1 aa
   rw [hH,this];simp
  refine ⟨λn x wr=>∃(j:Nat)(F':Nat->Prop),x=j/\j+n=L.length/\SF F' wr s o t ((L.take j).foldl bT M) occ/\aJ F F' kR wr,⟨L.length,rfl,rfl,0,F,rfl,aa,h.ext BI,aJ.refl _ _⟩,?_⟩;rintro n us x wr ⟨j,F',rfl,hj,hS,hT⟩;have zr:=hT.mod.size;have hzw39:=(BI).size;have Jb:RdK wr pj 4 (L.map nN):=hT.mod.rdK aA (jj.ext S5) λ_ b hb hf=>by have:=(ho.own.lt hb).1;have:=h.lt hf;omega
  have nf:∀{w2:World} {F2:Nat->Prop} {w1:World},Ext wr w1->aJ F' F2 w1 w2->∀i,(w.heap.size<=i/\i<kR.heap.size\/wr.heap.size<=i)->i<w1.heap.size->w2.heap[i]? =w1.heap[i]? :=λx1 t2 i h1 h2=>t2.mod.same i h2 λhf=>by
   rcases h1 with ⟨h1,XA⟩|h1
   ·rcases hT.sub i hf with q|q
    ·have:=h.lt q;omega
    ·omega
   ·have:=hS.lt hf;omega
  apply Br.mk<;>intro hb
  ·replace hb:=nh hb;obtain ⟨y,hy⟩:=bq (l:=L) (i:=j) aa;have hy':(L.map nN)[j]? =some (nN y):=by rw [aS,hy];rfl
   have xU:L.take (j+1)=L.take j++ [y]:=by rw [dy,hy];rfl
   have wk:=ov (j:=j);refine ⟨Jb.jd (i:=(j:Int)) aA aa hb,_,_,_,_,Jb.bI hy',λw86 e86 Eo e87=> ?_⟩;have vX:Ext wr Eo:=(aQ e86).ab e87 (ak _);have z87:=Eu e86 e87;refine (qQ (hS.ext vX) y (hLw y (aO hy)) ((hk.fold (L.take j)).mono (by rw [cY];omega))).mono ?_;rintro e NI ⟨rfl,F2,Wa,IX⟩;refine ⟨rfl,nf vX IX _ (.inl aa) aa,nf vX IX _ (.inl aa) aa,nf vX IX _ (.inr aa) aa,n-1,aa,rfl,rfl,j+1,F2,wk,aa,?_,(hT.trans (aJ.aC vX)).trans IX⟩;rw [xU,pW];exact Wa
  ·replace hb:=nC hb;rw [fl aa] at hS;rw [hU,if_neg hHf];exact ⟨rfl,F',hS,(aJ.aC BI).trans hT⟩
 ·have hHf:¬vD O M c=true:=by
   have:¬gz M.T.2 c=3:=by simpa using hf
   rw [hH,decide_eq_false this];simp
  refine ⟨λn x wr=>∃(j:Nat)(F':Nat->Prop),x=j/\j+n=L.length/\SF F' wr s o t ((L.take j).foldl bT M) occ/\aJ F F' kR wr,⟨L.length,rfl,rfl,0,F,rfl,aa,h.ext BI,aJ.refl _ _⟩,?_⟩;rintro n us x wr ⟨j,F',rfl,hj,hS,hT⟩;have zr:=hT.mod.size;have hzw39:=(BI).size;have Jb:RdK wr pj 4 (L.map nN):=hT.mod.rdK aA (jj.ext S5) λ_ b hb hf=>by have:=(ho.own.lt hb).1;have:=h.lt hf;omega
  have nf:∀{w2:World} {F2:Nat->Prop} {w1:World},Ext wr w1->aJ F' F2 w1 w2->∀i,(w.heap.size<=i/\i<kR.heap.size\/wr.heap.size<=i)->i<w1.heap.size->w2.heap[i]? =w1.heap[i]? :=λx1 t2 i h1 h2=>t2.mod.same i h2 λhf=>by
   rcases h1 with ⟨h1,XA⟩|h1
   ·rcases hT.sub i hf with q|q
    ·have:=h.lt q;omega
    ·omega
   ·have:=hS.lt hf;omega
  apply Br.mk<;>intro hb
  ·replace hb:=nh hb;obtain ⟨y,hy⟩:=bq (l:=L) (i:=j) aa;have hy':(L.map nN)[j]? =some (nN y):=by rw [aS,hy];rfl
   have xU:L.take (j+1)=L.take j++ [y]:=by rw [dy,hy];rfl
   have wk:=ov (j:=j);refine ⟨Jb.jd (i:=(j:Int)) aA aa hb,_,_,_,_,Jb.bI hy',λw86 e86 Eo e87=> ?_⟩;have vX:Ext wr Eo:=(aQ e86).ab e87 (ak _);have z87:=Eu e86 e87;refine (qQ (hS.ext vX) y (hLw y (aO hy)) ((hk.fold (L.take j)).mono (by rw [cY];omega))).mono ?_;rintro e NI ⟨rfl,F2,Wa,IX⟩;refine ⟨rfl,nf vX IX _ (.inl aa) aa,nf vX IX _ (.inl aa) aa,nf vX IX _ (.inr aa) aa,n-1,aa,rfl,rfl,j+1,F2,wk,aa,?_,(hT.trans (aJ.aC vX)).trans IX⟩;rw [xU,pW];exact Wa
  ·replace hb:=nC hb;rw [fl aa] at hS;rw [hU,if_neg hHf];exact ⟨rfl,F',hS,(aJ.aC BI).trans hT⟩
end
section
variable {F F':Nat->Prop} {w w':World} {s o t:Nat} {M M':Sm} {occ:Value} {O:Ce->Bool}
def KS(l:List Ce):Prop:=∀y ∈ l,CU y
def sO.upd{n:Nat}(h:sO M n)(O:Ce->Bool)(c:Ce):sO (kh O M c) (n+40):=by
 have h1:=h.l;have h2:=CH M.q c (M.now+1);unfold kh;split
 ·exact ⟨by simp only;omega,by have:=h.c;simp only;omega,h.now,by have:=h.d;simp only;omega⟩
 ·split
  ·have:sO {M with jI:=M.jI++ [fe c]} (n+1):=⟨by simp only;omega,by have:=h.c;simp only;omega,h.now,by have:=h.d;simp only [bQ,List.length_singleton];omega⟩;exact (this.change _).mono aa
  ·have:=QP (gz M.T.2) c;exact (h.fold _).mono aa
def sO.Zc{n:Nat}(O:Ce->Bool):∀{M:Sm} (l:List Ce),sO M n->sO (l.foldl (kh O) M) (n+40*l.length)
 |M,[],h=>h
 |M,x::l,h=>(sO.Zc O l (h.upd O x)).mono (by simp only [bR];omega)
def WY{q:QS}{now b:Int}(hb:1<=b/\b<=64):(MV q now b).2.length<=64:=by unfold MV jc;rw [aL,cY];omega
def KU(h:SF F w s o t M occ)(hO:Oc occ O F w)(hd:KS (pc M))(hk:sO M 600000)(hb:1<=M.dD/\M.dD<=64):
  ae 119 #[s] w λe w'=>e=Value.int .i64 (pc M).length/\mC F w s o t (AZ O M) occ w':=by
 obtain ⟨g,sd,hr,ho,-,-,bf⟩:=h.row;apply ME.vc;have ajf:=hk.now;have wr:aw (M.now+1)=M.now+1:=wI;have en:(if 1099511627776<M.now+1 then 1099511627776 else M.now+1)=tA M:=by unfold tA;split<;>omega
 obtain ⟨p1,p2⟩:=hr.ic (j:=3) (v:=.int .i64 (tA M)) (by simp [smC]) rfl;refine ⟨M.now,hr.at 3 rfl,⟨rfl,p1⟩,λw1 e1=> ?_⟩;rw [wr,en] at e1;obtain ⟨q1,q2⟩:=p2 w1 e1;have hso:∀b,sd.aZ=some b->b≠s:=λb hb=>by obtain ⟨cs',hr'⟩:=aY ho aA hb;exact hr'.ne hr aA
 obtain ⟨F1,h1,t1⟩:=bf (M':={M with now:=tA M}) (occ':=occ) (sd':=sd) rfl rfl rfl rfl rfl (q2.mono λi _ hi=> .inl hi) q1 (q2.gU ho hso) (λb hb=> .inl hb);have xd:=Ext.dr w1;have t1d:=t1.trans (aJ.aC xd);obtain ⟨g',m,qs,hq,IW,⟨sd',hr'⟩,fa,hresq⟩:=(h1.ext xd).queue;refine ⟨_,hr'.at 0 rfl,_,hr'.at 3 rfl,_,hr'.at 2 rfl,(Q.adN hq IW (tA M) M.dD).mono ?_⟩;rintro e w5 ⟨s6,rfl,qs',sH,hq',ht⟩;obtain ⟨F5,h5,t5⟩:=hresq hq' (IW.due _ _) ht;have h5:SF F5 w5 s o t (tw M) occ:=h5;have T5:=t1d.trans t5;have hO5:=hO.vF T5;have jj:=sH.rd (show 0<3 by decide);have Tr:(pc M).length<=64:=WY hb;have jj:RdK w5 s6 3 ((pc M).map dZ):=jj;have sH:ar w1.drew.heap.size rF 3 w5 s6 ((pc M).map dZ):=sH;have hk5:sO (tw M) 600000:=⟨hk.l,hk.c,by show 0<=tA M/\tA M<=_;unfold tA;omega,hk.d⟩;obtain ⟨g1,sd1,r1,-,-,f1,-⟩:=(h1.ext xd).row;have hsq:¬Q.g7 g' m qs s:=hq.dA hr' aA aA;have r5:=ht.mod.row r1 hsq;have hsF:∀b,s6.aZ=some b->¬F5 b:=λb hb=>by
  obtain ⟨cs6,hr6⟩:=aY sH aA hb;refine h5.dA hr6 aqn.1 aA aA aA aA aA (λg sd r2 j8=> ?_);have e1:=(r2.at 5 rfl).symm.trans (r5.at 5 rfl);have e2:sd.a=sd1.a:=by injection e1 with e1;injection e1
  have e3:sd.aZ=sd1.aZ:=by unfold Sl.aZ;rw [e2]
  have q1:=h1.lt (f1 b (by rw [<-e3];exact j8));have q2:=(sH.own.lt hb).1;have q3:=m7 w1;omega
 unfold AZ;generalize pc M=L at*;generalize tw M=M0 at*;have hn6:=jj.n;rw [aL] at hn6;refine ⟨s6,rfl,λn x wr=>∃(j:Nat)(F':Nat->Prop),x=j/\j+n=L.length/\SF F' wr s o t ((L.take j).foldl (kh O) M0) occ/\aJ F5 F' w5 wr,⟨L.length,0,F5,rfl,aa,h5,aJ.refl _ _⟩,?_⟩;rintro n us x VN ⟨j,F',rfl,hj,hS,hT⟩;have zr:=hT.mod.size;have Jb:RdK VN s6 3 (L.map dZ):=hT.mod.rdK aA jj λ_ b hb hf=>hsF b hb hf
 apply Br.mk<;>intro hb
 ·replace hb:=nh hb;obtain ⟨y,hy⟩:=bq (l:=L) (i:=j) aa;have hy':(L.map dZ)[j]? =some (dZ y):=by rw [aS,hy];rfl
  have xU:L.take (j+1)=L.take j++ [y]:=by rw [dy,hy];rfl
  have wk:=ov (j:=j);have hsm:=hd y (aO hy);refine ⟨Jb.jd (i:=(j:Int)) aA aa hb,_,_,_,Jb.bI hy',λcD FY cL BX=> ?_⟩;have dH:Ext VN cL:=(aQ FY).ab BX (ak _);have z17:=Eu FY BX;refine (QQ (hS.ext dH) ((hO5.vF hT).ext dH) y hsm ((hk5.Zc O (L.take j)).mono (by rw [cY];omega))).mono ?_;rintro e dI ⟨rfl,F2,Wa,IX⟩;refine ⟨rfl,IX.mod.same _ aa (λhf=>by have:=hS.lt hf;omega),n-1,aa,j+1,F2,wk,aa,?_,(hT.trans (aJ.aC dH)).trans IX⟩;rw [xU,pW];exact Wa
 ·replace hb:=nC hb;rw [fl aa] at hS;exact ⟨by rw [hn6],F',hS,T5.trans hT⟩
end
variable {R:Ending->World->Prop} {w:World} {a0 a1 a2 a3 aE au aB cw cA cO fO fi eP aH aG aM dW gy gE J8 J9 De:Int}
def wY.vc{a0:Addr}(h:(λ(A:Array Value)(B:LV) C D=>
 Aw w #[aH,aG,aM] 28 λw0=>(λAa=>
 Aw w0 #[ai,ai,ai,ai,ai,ai,ai,ai,false] 70 λw1=>
 Sw w1 w0 A λw2=>
 ae 43 #[.slice (aI D (0) (16) 1) (16-0) (16-0),.pointer none] w2 (Ri λx4 w3=>(λAb=>Aa w2 w3 (
 ae 44 #[.agg A] w3 (Rb λb6 w5=>Aa w3 w5 (
 Br (!b6)
 (R (dS #[C,(1:Int)]) w5)
 (Br (x4<0)
 (R (dS #[C,(8:Int)]) w5)
 (ae 45 #[a0,.agg A] w5 (Rb λb8 w7=>Aa w5 w7 (
 Br (!b8)
 (R (dS #[C,(11:Int)]) w7)
 (ae 47 #[a0] w7.drew (Rv λv10 w9=>Aa w7.drew w9 (
 ah w9 (aD w0) 0 B/\ae 48 #[.agg A] w9 (yj λbW cR cB cW du dH bw=>Aa w9 bw (
 ae 46 #[v10,.agg #[bW,cR,cB,cW,du,dH]] bw (Rb λb19 dI=>Aa bw dI (
 Br b19
 (R (dS #[C,(12:Int)]) dI)
 (ae 47 #[a0] dI.drew (Rv λv21 fx=>Aa dI.drew fx (
 ah fx (aD w0) 0 B/\ae 48 #[.agg A] fx (yj λfC gW eZ jN jm nv dm=>Aa fx dm (
 ae 49 #[v21,.agg #[fC,gW,eZ,jN,jm,nv]] dm (Rb λb30 eG=>Aa dm eG (
 Sw eG w0 #[aH,aG,aM,ai,ai,ai,a2,a3,b30] λgS=>
 Aw gS.drew #[aH,aG,aM,ai,ai,ai,a2,a3,b30,ai,ai,false] 111 λqT=>
 (0:Int)<=x4/\x4<((16:Nat):Int)/\(true=true/\Wr qT Ab 1)/\bk Ab≠some w.heap.size/\bk Ab≠some w0.heap.size/\bk Ab≠some gS.drew.heap.size/\(Pw qT Ab [.pointer (aD gS.drew.heap.size)] λfL=>
 R (dS #[x4,ai]) fL))))))))))))))))))))))) (af D ((x4:Int).toNat*1)))) (K2 w w0)) #[aH,aG,aM,ai,ai,ai,a2,a3,false] [aH,aG,aM,ai,ai,ai,a2,a3,false] (-1:Int) (af (some a0) 1)):ae 11 #[a0,.agg #[aH,aG,aM],a2,a3] w R:=
 cq bG func11 h
def yM.vc{a0:Addr}(h:
 ∃(p0 p1 p2 p3 p4 p5 p6 p7 p8 p9 L4 To Dn SU p14 Ow:Option Addr),ah w (af (some a0) 1) 0 [.pointer p0,p1,p2,p3,p4,p5,p6,p7,p8,p9,L4,To,Dn,SU,p14,Ow]/\
 oz (λI16 N3=>I16 N3 (0) ⟨none,0,0⟩ w) λI16 N3 azf db xZ dU=>
 Br (db<16)
 (((0:Int)<=db/\db<((16:Nat):Int))/\∃(V5:Option Addr),([.pointer p0,p1,p2,p3,p4,p5,p6,p7,p8,p9,L4,To,Dn,SU,p14,Ow]:LV)[(db:Int).toNat*1]? =some (.pointer V5)/\
 Br (!(V5).isNone)
 (Aw dU #[db] 3 λgC=>
 ba 8 1 gC xZ 1 [db]/\∀(s25:Sl)(gx:World),aX 3 1 gC xZ 1 [db] s25 gx->Kp dU gC gx/\
 ∃SW,SW<N3/\I16 SW ((aw (db+1))) s25 gx)
 (∃SW,SW<N3/\I16 SW ((aw (db+1))) xZ dU))
 (R xZ dU)):ae 12 #[a0] w R:=
 cq (anS 3 10 3) func12 h
def yL.vc{a0:Addr}(h:
 ae 50 #[a0,a1] w (AG λp1 w0=>Br (p1).isNone
 (R (6:Int) w0)
 ((0:Int)<=a1/\a1<((16:Nat):Int)/\(Pv w0 (af (af (some a0) 1) ((a1:Int).toNat*1)) 1 [.pointer none] λw2=>
 R (0:Int) w2)))):ae 13 #[a0,a1] w R:=
 cq bG func13 h
def UQ.vc(h:
 Aw w #[aE,au,aB,cw] 94 λw0=>
 ae 39 #[aE,au,aB] w0.drew (AG λp2 w1=>Kp w w0.drew w1/\
 ah w1 (fP w 3) 0 [cw]/\ae 40 #[p2,cw] w1 (AG λp4 w3=>Kp w w1 w3/\
 Aw w3 #[p4,.pointer none,.pointer none,.pointer none,.pointer none,.pointer none,.pointer none,.pointer none,.pointer none,.pointer none,.pointer none,.pointer none,.pointer none,.pointer none,.pointer none,.pointer none,.pointer none] 56 λw5=>
 R (Value.pointer (aD w3)) w5))):ae 38 #[.agg #[aE,au,aB,cw]] w R:=
 cq bG func38 h
def AN.vc{a0:Addr}(h:
 gZ w (af (some a0) 0) λp0=>
 R p0 w):ae 41 #[a0] w R:=
 cq bG func41 h
def A2.vc{a0:Sl}(h:
 sN (λI0 n1=>I0 n1 (0) w) λI0 n1 zF x3 w4=>
 Br (decide (x3<((a0.n:Nat):Int)))
 (eL a0.a x3 a0.n/\gZ w4 (af a0.a ((x3:Int).toNat*1)) λp6=>
 aT (ap0 none p6) (Br (ap1 none p6)
 (R x3 w4)
 (∃n5,n5<n1/\I0 n5 ((aw (x3+1))) w4)))
 (R (Value.int .i64 (-1)) w4)):ae 43 #[a0,.pointer (none:Option Addr)] w R:=
 cq (Of 2 8) func43 h
def adh.vc{eP:Bool}(h:
 Aw w #[aE,au,aB,cw,cA,cO,fO,fi,eP] 70 λw0=>(λAa=>
 Br (fO>=2)
 (Br (fO<=131072)
 (Br (fi>=1)
 (Br (fi<=262144)
 (ae 99 #[.agg #[aE,au,aB],(70368744177664:Int)] w0 (Rb λb2 w1=>Kp w w0 w1/\
 Br b2
 (ae 99 #[.agg #[cw,cA,cO],(262144:Int)] w1 (Rb λb4 w3=>Kp w w1 w3/\
 R b4 w3))
 (R false w1)))
 Aa)
 Aa)
 Aa)
 Aa) (R false w0)):ae 44 #[.agg #[aE,au,aB,cw,cA,cO,fO,fi,eP]] w R:=
 cq bG func44 h
def wS.vc{a0:Addr}{De:Bool}(h:
 Aw w #[aH,aG,aM,dW,gy,gE,J8,J9,De] 70 λw0=>
 gZ w0.drew (af (some a0) 0) λp1=>
 ae 18 #[p1] w0.drew (AG λp3 w2=>Kp w w0.drew w2/\
 ah w2 w 0 [aH,aG,aM]/\ae 101 #[.agg #[aH,aG,aM]] w2 (jl λx5 x6 x7 w4=>Kp w w2 w4/\
 ae 100 #[p3,.agg #[x5,x6,x7]] w4 (Rb λb9 w8=>Kp w w4 w8/\
 R b9 w8)))):ae 45 #[a0,.agg #[aH,aG,aM,dW,gy,gE,J8,J9,De]] w R:=
 cq bG func45 h
def JB.vc{a0:Value}(h:(λA=>
 Aw w A 107 λw0=>
 ae 102 #[a0,.agg A,.func (.func 103) #[] #[]] w0 (Rb λb2 w1=>Kp w w0 w1/\
 R b2 w1)) #[aH,aG,aM,dW,gy,gE]):ae 46 #[a0,.agg #[aH,aG,aM,dW,gy,gE]] w R:=
 cq bG func46 h
def yx.vc{a0:Addr}(h:
 gZ w (af (some a0) 0) λp0=>
 ae 18 #[p0] w (AG λp2 w1=>ae 27 #[p2] w1 (ahl λv4 w3=>R v4 w3))):ae 47 #[a0] w R:=
 cq bG func47 h
def Jz.vc{eP:Bool}(h:
 Aw w #[aE,au,aB,cw,cA,cO,fO,fi,eP] 70 λw0=>
 Aw w0 #[ai,ai,ai,ai,ai,ai] 107 λw1=>
 ae 104 #[.agg #[aE,au,aB],fO,fi] w1 (yj λx3 x4 x5 x6 x7 x8 w2=>K2 w w0 w1 w2 (
 Sw w2 w0 #[x3,x4,x5,x6,x7,x8] λw9=>
 R (qY #[x3,x4,x5,x6,x7,x8]) w9))):ae 48 #[.agg #[aE,au,aB,cw,cA,cO,fO,fi,eP]] w R:=
 cq bG func48 h
def MH.vc{a0:Value}(h:(λA=>
 Aw w A 107 λw0=>
 ae 105 #[.agg A] w0 (yj λx2 x3 x4 x5 x6 x7 w1=>Kp w w0 w1/\
 ae 46 #[a0,.agg #[x2,x3,x4,x5,x6,x7]] w1 (Rb λb9 w8=>Kp w w1 w8/\
 R b9 w8))) #[aH,aG,aM,dW,gy,gE]):ae 49 #[a0,.agg #[aH,aG,aM,dW,gy,gE]] w R:=
 cq bG func49 h
def CX.vc{a0:Addr}(h:(λA=>
 Br (a1<0)
 A
 (Br (a1>=16)
 A
 ((0:Int)<=a1/\a1<((16:Nat):Int)/\gZ w (af (af (some a0) 1) ((a1:Int).toNat*1)) λp0=>
 R p0 w))) (R (Value.pointer none) w)):ae 50 #[a0,a1] w R:=
 cq bG func50 h
def Qb.vc(h:(λA B=>
 Aw w #[aE,au,aB] 28 λw0=>
 Br (decide (((if aB<A then aB else A):Int)>=(aw (0-a1))))
 (R (uD (decide (((if aB>B then aB else B):Int)<=a1))) w0)
 (R false w0)) (if au<aE then au else aE) (if au>aE then au else aE)):ae 99 #[.agg #[aE,au,aB],a1] w R:=
 cq bG func99 h
def ahb.vc(h:
 Aw w #[aE,au,aB] 28 λw0=>
 Aw w0 #[ai,ai,ai] 41 λw1=>
 ae 152 #[aE] w1.drew (Ri λx3 w2=>K2 w w0 w1.drew w2 (
 ah w2 (fP w 2) 0 [aB]/\ah w2 (fP w 1) 0 [au]/\ae 152 #[au] w2 (Ri λx5 w4=>K2 w w0 w2 w4 (
 ah w4 (fP w 2) 0 [aB]/\ae 152 #[aB] w4 (Ri λx7 w6=>K2 w w0 w4 w6 (
 Sw w6 w0 #[x3,x5,x7] λw8=>
 R (qY #[x3,x5,x7]) w8))))))):ae 101 #[.agg #[aE,au,aB]] w R:=
 cq bG func101 h
def Yw.vc{a0:Value}{a2:Value}(h:(λA=>
 Aw w A 107 λw0=>
 ae 153 #[a0,.agg A,a2] w0 (Rx9 λx2 x3 x4 b5 w1=>Kp w w0 w1/\
 Aw w1 #[ai,ai,ai] 41 λw6=>
 Sw w6 w1 #[x2,x3,x4] λw7=>
 R b5 w7)) #[aH,aG,aM,dW,gy,gE]):ae 102 #[a0,.agg #[aH,aG,aM,dW,gy,gE],a2] w R:=
 cq bG func102 h
def Yl.vc(h:(λA B C=>
 Aw w B 28 λw0=>
 Aw w0 #[ai,ai,ai,ai,ai,ai] 107 λw1=>(λAa=>
 Aw w1 #[ai,ai,ai] 28 λw2=>
 Sw w2 w1 #[A,ai,A] λw3=>
 (ae 154 #[.agg B,.agg #[A,ai,A]] w3.drew (jl λx5 x6 x7 w4=>Aa w3.drew w4 (
 ah w4 w 0 [aE,au,aB]/\ae 145 #[.agg B,.agg #[A,.int .i64 C,A]] w4 (jl λx9 bE bK w8=>Aa w4 w8 (
 Sw w8 w0 #[x5,x6,x7,x9,bE,bK] λcC=>
 R (qY #[x5,x6,x7,x9,bE,bK]) cC)))))/\(ae 154 #[.agg B,.agg #[A,ai,A]] w3.drew (jl λcB cW du bP=>Aa w3.drew bP (
 ah bP w 0 [aE,au,aB]/\ae 145 #[.agg B,.agg #[A,.int .i64 C,A]] bP (jl λdc db dN cL=>Aa bP cL (
 Sw cL w0 #[cB,cW,du,dc,db,dN] λdU=>
 R (qY #[cB,cW,du,dc,db,dN]) dU)))))) (K3 w w0 w1)) (aw (Int.tdiv (if 0>a1 then 0 else a1) 2)) #[aE,au,aB] (if 0>a2 then 0 else a2)):ae 104 #[.agg #[aE,au,aB],a1,a2] w R:=
 cq bG func104 h
def PJ.vc(h:
 Aw w #[aE,au,aB,cw,cA,cO] 107 λw0=>
 Aw w0 #[ai,ai,ai,ai,ai,ai] 107 λw1=>
 ae 156 #[au,(1:Int)] w1.drew (Ri λx3 w2=>K2 w w0 w1.drew w2 (
 ah w2 (fP w 3) 0 [cw,cA,cO]/\ah w2 w 0 [aE,au,aB]/\ae 155 #[.agg #[aE,au,aB],(1:Int),x3] w2 (jl λx5 x6 x7 w4=>K2 w w0 w2 w4 (
 ah w4 (fP w 3) 0 [cw,cA,cO]/\ae 155 #[.agg #[cw,cA,cO],(1:Int),au] w4 (jl λx9 bE bK w8=>K2 w w0 w4 w8 (
 Sw w8 w0 #[x5,x6,x7,x9,bE,bK] λcC=>
 R (qY #[x5,x6,x7,x9,bE,bK]) cC))))))):ae 105 #[.agg #[aE,au,aB,cw,cA,cO]] w R:=
 cq bG func105 h
def ah8.vc(h:
 Aw w #[aE,au,aB] 28 λw0=>
 Aw w0 #[aH,aG,aM] 28 λw1=>
 Aw w1 #[ai,ai,ai] 28 λw2=>
 ae 203 #[.agg #[aE,au,aB],.func (.func 204) #[] #[.pointer (aD w0)]] w2 (jl λx4 x5 x6 w3=>K2 w w1 w2 w3 (
 Sw w3 w1 #[x4,x5,x6] λw7=>
 R (qY #[x4,x5,x6]) w7))):ae 145 #[.agg #[aE,au,aB],.agg #[aH,aG,aM]] w R:=
 cq bG func145 h
def RN.vc(h:
 ae 214 #[a0] w (kX λx1 w0=>R (Value.int .i64 ((x1:Int).fdiv (2 ^(min (16:Int).toNat 64)))) w0)):ae 152 #[a0] w R:=
 cq bG func152 h
def Ui.vc{a0:Value}{a2:Value}(h:(λA B C D=>
 aT (lF a0) (
 Aw w #[a0] 65 λw0=>
 Aw w0 D 107 λw1=>
 aT (lF a2) (
 Aw w1 #[a2] 180 λw2=>
 Aw w2 B 41 λw3=>(λAa=>
 Aw w3 #[false] 4 λw4=>
 ae 215 #[.agg D] w4 (Rv λv6 w5=>K5 w w0 w1 w2 w3 w4 w5 (
 ∃(xs7:List (LV))(Rd8 F9:Nat->Prop)(Fz:Nat->(Nat->Prop)->Int->Int->Int->Bool->World->Prop)(X11:Option Nat->(Nat->Prop)->Int->Int->Int->Bool->World->Prop),
 (∀x ∈ xs7,∃(bW cR cB:Int),x=[.agg #[.int .i64 bW,.int .i64 cR,.int .i64 cB]])/\
 (∀(n15:Nat)(F16:Nat->Prop)(dH dc db:Int)(b20:Bool)(dU dm:World),Fz n15 F16 dH dc db b20 dU->Below w5 dU dm->(∀i,F16 i->dm.heap[i]? =dU.heap[i]?)->Fz n15 F16 dH dc db b20 dm)/\
 (∀(n23:Option Nat)(F24:Nat->Prop)(eZ jN jm:Int)(XH:Bool)(eG gR:World),X11 n23 F24 eZ jN jm XH eG->Below w5 eG gR->(∀i,F24 i->gR.heap[i]? =eG.heap[i]?)->X11 n23 F24 eZ jN jm XH gR)/\
 (∀(n31:Nat)(F32:Nat->Prop)(fD jO oV:Int)(b36:Bool)(iR:World),Fz n31 F32 fD jO oV b36 iR->∀i,F32 i->i<iR.heap.size/\i≠w5.heap.size/\i≠w5.heap.size+1)/\
 (∀(n38:Option Nat)(F39:Nat->Prop)(pF om qU:Int)(VQ:Bool)(me:World),X11 n38 F39 pF om qU VQ me->∀i,F39 i->i<me.heap.size/\i≠w5.heap.size/\i≠w5.heap.size+1)/\
 (∀i,Rd8 i->i<w5.heap.size/\¬F9 i/\i≠w.heap.size/\i≠w0.heap.size/\i≠w1.heap.size/\i≠w2.heap.size/\i≠w3.heap.size/\True)/\
 (∀zL:World,PD w5 w5 zL->Iter Tryz.prog (v6) zL Rd8 xs7/\aN [a0]/\aN C/\aN [a2]/\Fz 0 F9 (0) (0) (0) false zL)/\
 (∀(n46:Nat)(F47:Nat->Prop)(aJ5:Nat->Value)(Ot sS rA:Int)(b52:Bool)(kS qV oG:Int)(sJ:World),xs7[n46]? =some [.agg #[.int .i64 kS,.int .i64 qV,.int .i64 oG]]->Fz n46 F47 Ot sS rA b52 sJ->
 Aw sJ B 41 λEr=>
 Sw Er sJ #[kS,qV,oG] λqE=>
 Below sJ sJ qE/\∀nB:World,Rec (w5.heap.size+1) qE nB->Fz n46 F47 Ot sS rA b52 nB->
 bB Tryz.prog a0 [.agg #[kS,qV,oG]] nB.drew (Ri λzI oU=>K6 w w0 w1 w2 w3 sJ nB.drew oU (
 ah oU (aD w1) 0 [a2]/\bB Tryz.prog a2 [zI] oU (Rb λb63 jX=>K6 w w0 w1 w2 w3 sJ oU jX (
 Br b63
 (Sw jX w2 #[kS,qV,oG] λuV=>
 Sw uV w3 #[true] λLY=>
 true=true/\∃F66:Nat->Prop,(aN [a0]/\aN C/\aN [a2]/\X11 none F66 kS qV oG true LY)/\Step (λi=>(F47 i\/i ∈ Aa)\/sJ.heap.size<=i) (λi=>F66 i\/i ∈ Aa) nB LY)
 (∃F67:Nat->Prop,(aN [a0]/\aN C/\aN [a2]/\Fz (n46+1) F67 Ot sS rA b52 jX)/\Step (λi=>(F47 i\/i ∈ Aa)\/sJ.heap.size<=i) (λi=>F67 i\/i ∈ Aa) nB jX))))))/\
 (∀(F68:Nat->Prop)(aJ7:Nat->Value)(ur uM wM:Int)(b73:Bool)(oq:World),Fz xs7.length F68 ur uM wM b73 oq->oq.heap[w5.heap.size]? =some A->
 Sw oq w2 B λrC=>
 Sw rC w3 #[false] λpH=>
 pH.heap[w5.heap.size]? =some A/\∀uO:World,Rec w5 pH uO->
 R (dS #[.agg B,false]) uO)/\
 (∀(F78:Nat->Prop)(azk:Nat->Value)(FX zJ zK:Int)(b83:Bool)(Jg:World),X11 none F78 FX zJ zK b83 Jg->Jg.heap[w5.heap.size]? =some A->
 Jg.heap[w5.heap.size]? =some A/\∀w85:World,Rec w5 Jg w85->
 R (dS #[.agg #[FX,zJ,zK],b83]) w85)))) ([w.heap.size,w0.heap.size,w1.heap.size,w2.heap.size,w3.heap.size]:List Nat)))) (.deferred (some [])) #[ai,ai,ai] [aH,aG,aM,dW,gy,gE] #[aH,aG,aM,dW,gy,gE]):ae 153 #[a0,.agg #[aH,aG,aM,dW,gy,gE],a2] w R:=
 cq ⟨[],[],[(3,⟨[],[(3,[.int .i64,.int .i64,.int .i64]),(4,[.bool])],[]⟩,[.agg [.int .i64,.int .i64,.int .i64]])]⟩ func153 h
def ah9.vc(h:
 Aw w #[aE,au,aB] 28 λw0=>
 Aw w0 #[aH,aG,aM] 28 λw1=>
 Aw w1 #[ai,ai,ai] 28 λw2=>
 ae 203 #[.agg #[aE,au,aB],.func (.func 216) #[] #[.pointer (aD w0)]] w2 (jl λx4 x5 x6 w3=>K2 w w1 w2 w3 (
 Sw w3 w1 #[x4,x5,x6] λw7=>
 R (qY #[x4,x5,x6]) w7))):ae 154 #[.agg #[aE,au,aB],.agg #[aH,aG,aM]] w R:=
 cq bG func154 h
def aeF.vc(h:
 Aw w #[aE,au,aB] 28 λw0=>
 Aw w0 #[a1] 3 λw1=>
 Aw w1 #[a2] 3 λw2=>
 Aw w2 #[ai,ai,ai] 28 λw3=>
 ae 203 #[.agg #[aE,au,aB],.func (.func 217) #[] #[.pointer (aD w0),.pointer (aD w1)]] w3 (jl λx5 x6 x7 w4=>K2 w w2 w3 w4 (
 Sw w4 w2 #[x5,x6,x7] λw8=>
 R (qY #[x5,x6,x7]) w8))):ae 155 #[.agg #[aE,au,aB],a1,a2] w R:=
 cq bG func155 h
def aax.vc(h:
 ae 214 #[a0] w (λe w0=>∃(x1:Int),e=x1/\
 ae 214 #[a1] w0 (λe w2=>∃(x3:Int),e=x3/\
 ae 214 #[(aw (x1-x3))] w2 (λe w4=>∃(x5:Int),e=x5/\
 R x5 w4)))):ae 156 #[a0,a1] w R:=
 cq bG func156 h
def aeC.vc(h:(λA=>
 R ((aw ((if 2147483648<A then 2147483648 else A)*2 ^(min (16:Int).toNat 64)))) w) (if (-2147483648)>a0 then (-2147483648) else a0)):ae 174 #[a0] w R:=
 cq bG func174 h
def uE.vc{a0:Sl}{a1:Value}(h:
 sN (λI0 n1=>I0 n1 (0) w) λI0 n1 zF x3 w4=>
 Br (decide (x3<((a0.n:Nat):Int)))
 (eL a0.a x3 a0.n/\gZ w4 (af a0.a ((x3:Int).toNat*1)) λp6=>
 bB Tryz.prog a1 [.pointer p6] w4 (EK λb8 w7=>Br b8
 (R x3 w7)
 (∃n5,n5<n1/\I0 n5 ((aw (x3+1))) w7)))
 (R (Value.int .i64 (-1)) w4)):ae 175 #[a0,a1] w R:=
 cq (Of 2 8) func175 h
def aeE.vc(h:
 Aw w #[aE,au,aB] 28 λw0=>
 Br (a1<0)
 (R (0:Int) w0)
 (Br (a1>=3)
 (R (0:Int) w0)
 (ae 245 #[w] w0 (λe w1=>∃(p2 p3 p4:Option Addr),e=Value.agg #[p2,p3,p4]/\
 ((0:Int)<=a1/\a1<((3:Nat):Int))/\∃(p5:Option Addr),([.pointer p2,p3,p4]:LV)[(a1:Int).toNat*1]? =some (.pointer p5)/\
 aT (fq p5) (kW w1 p5 λx6=>
 R x6 w1))))):ae 178 #[.agg #[aE,au,aB],a1] w R:=
 cq bG func178 h
def aeD.vc{a1:Value}(h:
 Aw w #[aE,au,aB] 28 λw0=>
 Aw w0 #[ai,ai,ai] 28 λw1=>
 ae 245 #[w] w1 (λe w2=>∃(p3 p4 p5:Option Addr),e=Value.agg #[p3,p4,p5]/\Kp w0 w1 w2/\
 sN (λI6 n7=>aN [ai,ai,ai]/\I6 n7 (0) w2) λI6 n7 us8 x9 bo=>
 Br (x9<3)
 (((0:Int)<=x9/\x9<((3:Nat):Int))/\∃(Dn:Option Addr),([.pointer p3,p4,p5]:LV)[(x9:Int).toNat*1]? =some (.pointer Dn)/\
 aT (fq Dn) (kW bo Dn λcR=>
 bB Tryz.prog a1 [x9,cR] bo (Ri λcW bH=>Kp w0 bo bH/\
 aT (fq Dn) (((Dn).isSome=true/\Wr bH Dn 1)/\Nq Dn w0/\(Pw bH Dn [cW] λcD=>
 ∃tN,tN<n7/\aN [ai,ai,ai]/\I6 tN ((aw (x9+1))) cD)))))
 (gM bo w λdH dc db=>
 Sw bo w0 #[dH,dc,db] λfx=>
 R (qY #[dH,dc,db]) fx))):ae 203 #[.agg #[aE,au,aB],a1] w R:=
 cq (Of 2 8) func203 h
def aaB.vc{c0:Addr}(h:
 gM w (some c0) λx0 x1 x2=>
 ae 178 #[.agg #[x0,x1,x2],a0] w (kX λx4 w3=>ae 205 #[a1,x4] w3 (kX λx6 w5=>R x6 w5))):ae 204 #[a0,a1,c0] w R:=
 cq bG func204 h
def aaw.vc(h:
 ae 214 #[a0] w (λe w0=>∃(x1:Int),e=x1/\
 ae 214 #[a1] w0 (λe w2=>∃(x3:Int),e=x3/\
 ae 214 #[(aw (x1+x3))] w2 (λe w4=>∃(x5:Int),e=x5/\
 R x5 w4)))):ae 205 #[a0,a1] w R:=
 cq bG func205 h
def aau.vc(h:(λA=>
 R (Value.int .i64 (if 140737488355328<A then 140737488355328 else A)) w) (if (-140737488355328)>a0 then (-140737488355328) else a0)):ae 214 #[a0] w R:=
 cq bG func214 h
def Uh.vc(h:
 Aw w #[aE,au,aB,cw,cA,cO] 107 λw0=>
 R (Value.func (.func 265) #[] #[w]) w0):ae 215 #[.agg #[aE,au,aB,cw,cA,cO]] w R:=
 cq bG func215 h
def aaD.vc{c0:Addr}(h:
 gM w (some c0) λx0 x1 x2=>
 ae 178 #[.agg #[x0,x1,x2],a0] w (kX λx4 w3=>ae 156 #[a1,x4] w3 (kX λx6 w5=>R x6 w5))):ae 216 #[a0,a1,c0] w R:=
 cq bG func216 h
def Vy.vc{c0:Addr}{c1:Addr}(h:
 kW w (some c0) λx0=>
 Br (a0==x0)
 (kW w (some c1) λx1=>
 ae 214 #[x1] w (kX λx3 w2=>R x3 w2))
 (R a1 w)):ae 217 #[a0,a1,c0,c1] w R:=
 cq bG func217 h
def aaz.vc{a0:Addr}(h:(λA=>
 Aw w #[.pointer none,.pointer none,.pointer none] 306 λw0=>
 (Pt w0.drew ⟨w,0,none⟩ 3 [.pointer (af A 0),.pointer (af A 1),.pointer (af A 2)] λw1=>
 ∃(p2 p3 p4:Option Addr),ah w1 w 0 [.pointer p2,p3,p4]/\
 R (qY #[p2,p3,p4]) w1)) (some a0)):ae 245 #[a0] w R:=
 cq bG func245 h
def Vv.vc(h:
 ae 214 #[a0] w (kX λx1 w0=>R (Value.int .i64 (uy .i64 x1 65535)) w0)):ae 258 #[a0] w R:=
 cq bG func258 h
def No.vc{a0:Value}{c0:Addr}(h:
 DM w (some c0) λx0 x1 x2 x3 x4 x5=>
 ae 266 #[.agg #[x0,x1,x2,x3,x4,x5]] w (λe w6=>∃(x7 x8 x9 bE bK bW:Int)(Oi:Bool),e=Value.tuple #[.agg #[x7,x8,x9],.agg #[bE,bK,bW],Oi]/\
 Aw w6 #[ai,ai,ai] 41 λbH=>
 Aw bH #[ai,ai,ai] 41 λee=>
 Sw ee w6 #[x7,x8,x9] λcD=>
 Sw cD bH #[bE,bK,bW] λcL=>
 sN (λI18 n19=>aN [x7,x8,x9]/\aN [bE,bK,bW]/\I18 n19 x8 cL) λI18 n19 arM eO dm=>
 Br Oi
 (Br (eO<=bK)
 (sN (λI24 n25=>aN [x7,x8,x9]/\aN [bE,bK,bW]/\I24 n25 x9 dm) λI24 n25 aJ9 jm iY=>
 Br (jm<=bW)
 (sN (λI30 n31=>aN [x7,x8,x9]/\aN [bE,bK,bW]/\I30 n31 x7 iY) λI30 n31 axh fD lq=>
 Br (fD<=bE)
 (bB Tryz.prog a0 [.agg #[fD,eO,jm]] lq (Rb λb37 kH=>K2 w6 bH lq kH (
 Br (!b37)
 (R ya kH)
 (∃n35,n35<n31/\aN [x7,x8,x9]/\aN [bE,bK,bW]/\I30 n35 ((aw (fD+1))) kH))))
 (∃n29,n29<n25/\aN [x7,x8,x9]/\aN [bE,bK,bW]/\I24 n29 ((aw (jm+1))) lq))
 (∃n23,n23<n19/\aN [x7,x8,x9]/\aN [bE,bK,bW]/\I18 n23 ((aw (eO+1))) iY))
 (R ya dm))
 (R ya dm))):ae 265 #[a0,c0] w R:=
 cq ⟨[(8,⟨[(8,.int .i64)],[],[]⟩),(5,⟨[(7,.int .i64)],[],[]⟩),(2,⟨[(6,.int .i64)],[],[]⟩)],[],[]⟩ func265 h
def Yn.vc(h:(λA B C D=>
 Aw w #[aE,au,aB,cw,cA,cO] 107 λw0=>
 Aw w0 A 41 λw1=>
 Aw w1 A 41 λw2=>
 ae 101 #[.agg #[aE,au,aB]] w2 (jl λx4 x5 x6 w3=>K3 w w0 w1 w2 w3 (
 Aw w3 A 41 λw7=>
 Sw w7 w3 #[x4,x5,x6] λw8=>
 ae 145 #[.agg #[cw,cA,cO],.agg #[D,D,D]] w8 (jl λbE bK bW w9=>K4 w w0 w1 w3 w8 w9 (
 ae 101 #[.agg #[bE,bK,bW]] w9 (jl λcB cW du bP=>(λAa Ab=>K4 w w0 w1 w3 w9 bP (
 Aw bP A 41 λcL=>
 Sw cL bP #[cB,cW,du] λdI=>
 sN (λI19 n20=>aN C/\aN B/\aN B/\aN [x4,x5,x6]/\aN Ab/\I19 n20 (0) dI) λI19 n20 az4 fN fQ=>
 Br (fN<3)
 (ae 178 #[.agg #[aE,au,aB],fN] fQ.drew (Ri λjN cZ=>Aa fQ.drew cZ (
 ah cZ (fP w 3) 0 [cw,cA,cO]/\ae 178 #[.agg #[cw,cA,cO],fN] cZ (Ri λnv fy=>Aa cZ fy (
 Br (jN==nv)
 (ae 258 #[jN] fy (Ri λnu eG=>Aa fy eG (
 Br (nu==0)
 (Sw eG w0 A λgS=>
 Sw gS w1 A λqT=>
 R (dS #[.agg A,.agg A,false]) qT)
 (∃n24,n24<n20/\aN C/\aN B/\aN B/\aN [x4,x5,x6]/\aN Ab/\I19 n24 ((aw (fN+1))) eG))))
 (∃n24,n24<n20/\aN C/\aN B/\aN B/\aN [x4,x5,x6]/\aN Ab/\I19 n24 ((aw (fN+1))) fy))))))
 (ae 293 #[aE,cw,x4,cB] fQ.drew (Ri λjO fL=>Aa fQ.drew fL (
 ah fL (fP bP 2) 0 [du]/\ah fL (fP w3 2) 0 [x6]/\ah fL (fP w 5) 0 [cO]/\ah fL (fP w 2) 0 [aB]/\ah fL (fP bP 1) 0 [cW]/\ah fL (fP w3 1) 0 [x5]/\ah fL (fP w 4) 0 [cA]/\ah fL (fP w 1) 0 [au]/\ae 293 #[au,cA,x5,cW] fL (Ri λoW gT=>Aa fL gT (
 ah gT (fP bP 2) 0 [du]/\ah gT (fP w3 2) 0 [x6]/\ah gT (fP w 5) 0 [cO]/\ah gT (fP w 2) 0 [aB]/\ae 293 #[aB,cO,x6,du] gT (Ri λkm iR=>Aa gT iR (
 Sw iR bP #[jO,cW,du] λkR=>
 Sw kR bP #[jO,oW,du] λkz=>
 Sw kz bP #[jO,oW,km] λoF=>
 Sw oF.drew w0 #[x4,x5,x6] λlf=>
 ah lf (aD bP) 0 [jO,oW,km]/\Sw lf w1 #[jO,oW,km] λjW=>
 R (dS #[.agg #[x4,x5,x6],.agg #[jO,oW,km],true]) jW))))))))) (K5 w w0 w1 w3 bP) [cB,cW,du])))))) #[ai,ai,ai] [ai,ai,ai] [aE,au,aB,cw,cA,cO] (-1:Int)):ae 266 #[.agg #[aE,au,aB,cw,cA,cO]] w R:=
 cq (Of 4 19) func266 h
def PI.vc(h:
 Br (a0==a1)
 (R a2 w)
 (R a3 w)):ae 293 #[a0,a1,a2,a3] w R:=
 cq bG func293 h
def VI.vc{a0:Addr}(h:
 ae 19 #[a0] w (AG λp1 w0=>Br (p1).isNone
 (R false w0)
 (sN (λI2 n3=>I2 n3 ((-1)) w0) λI2 n3 us4 x5 w6=>
 Br (x5<2)
 (sN (λI8 n9=>I8 n9 ((-1)) w6) λI8 n9 abr bK cC=>
 Br (bK<2)
 (ae 20 #[p1,.agg #[x5,bK]] cC (kX λcW bH=>Br (cW !=0)
 (R false bH)
 (∃n13,n13<n9/\I8 n13 ((aw (bK+1))) bH)))
 (∃n7,n7<n3/\I2 n7 ((aw (x5+1))) cC))
 (R true w6)))):ae 42 #[a0] w R:=
 cq ⟨[(8,⟨[(5,.int .i64)],[],[]⟩),(5,⟨[(4,.int .i64)],[],[]⟩)],[],[]⟩ func42 h
def Sb.vc(h:(λA B C=>
 ae 38 #[.agg #[a0,a2,(1000000:Int),a1]] w (λe w0=>∃(p1:Option Addr),e=p1/\
 ae 39 #[a0,a2,(1000000:Int)] w0 (λe w2=>(λAa=>∃(p3:Option Addr),e=p3/\
 Br (p1).isNone
 Aa
 (Br (p3).isNone
 Aa
 (ae 40 #[p3,a1] w2 (λe w4=>∃(p5:Option Addr),e=p5/\
 Br (p5).isNone
 (R A w4)
 (aT (fq p1) (aT (fq p1) (gZ w4 (af p1 0) λp6=>
 ae 18 #[p6] w4 (λe w7=>∃(p8:Option Addr),e=p8/\
 Br (p8).isNone
 (R A w7)
 (ae 41 #[p1] w7 (λe w9=>∃(L4:Option Addr),e=L4/\
 Br (L4).isNone
 (R A w9)
 (ae 27 #[p3] w9 (λe bw=>∃(v12:Value),e=v12/\
 aT (fnC v12) (Br (L8 v12)
 (R A bw)
 (aT (fq p1) (aT (fq p1) (gZ bw (af p1 0) λSU=>
 ae 18 #[SU] bw (λe bH=>∃(Ow:Option Addr),e=Ow/\
 ae 27 #[Ow] bH (λe cD=>∃(v17:Value),e=v17/\
 aT (fnC v17) (Br (L8 v17)
 (R A cD)
 (ae 42 #[p3] cD (λe dI=>∃(b19:Bool),e=b19/\
 Br (!b19)
 (R A dI)
 (aT (fq p1) (aT (fq p1) (gZ dI (af p1 0) λp20=>
 ae 18 #[p20] dI (λe dU=>∃(p22:Option Addr),e=p22/\
 ae 42 #[p22] dU (λe fQ=>(λAb=>∃(b24:Bool),e=b24/\
 Br (!b24)
 (R A fQ)
 ((C/\(∀cZ,cZ=fQ.drew.alloc B->
 ((Aw cZ Ab 101 λgx=>
 R (dS #[p1,.pointer (aD cZ)]) gx)/\(Aw cZ Ab 101 λfy=>
 R (dS #[p1,.pointer (aD cZ)]) fy))/\(Aw cZ Ab 101 λiY=>
 R (dS #[p1,.pointer (aD cZ)]) iY)))/\(C/\(∀eG,eG=fQ.drew.alloc B->
 Aw eG Ab 101 λgR=>
 R (dS #[p1,.pointer (aD eG)]) gR)))) #[p3,p5,.slice (aD fQ.drew.heap.size) (16:Int).toNat (16:Int).toNat])))))))))))))))))))))))))) (R A w2)))) (Value.tuple #[.pointer none,.pointer none]) (.cells (bh [.bool false,ai,ai,ai,ai,ai,ai,ai,ai,false,ai,ai,false] (16:Int).toNat).toArray 117) ((0:Int)<=16/\(16:Int)<=16/\(16:Int)<=140737488355328/\(16:Int)*104<=140737488355328)):ae 9 #[a0,a1,a2] w R:=
 cq bG func9 h
def Sc.vc(h:
 ae 38 #[.agg #[ai,(1:Int),ai,ai]] w (AG λp1 w0=>Br (p1).isNone
 (R false w0)
 (ae 11 #[p1,.agg #[ai,ai,ai],(100:Int),(100:Int)] w0 (Qm λx3 x4 w2=>Br (x3==(-1))
 (R (uD (x4==11)) w2)
 (R false w2))))):ae 14 #[] w R:=
 cq bG func14 h
open Go.gF
abbrev iM:TypeId:=28
abbrev td(b:Bx):Value:=.agg #[b.1.1,b.1.2.1,b.1.2.2,b.2.1,b.2.2.1,b.2.2.2]
def awv(n:Int):(if 140737488355328<(if (-140737488355328)>n then (-140737488355328) else n) then 140737488355328 else (if (-140737488355328)>n then (-140737488355328) else n))=cU n:=by
 unfold cU
 repeat' split
 all_goals omega
def iq(n:Int)(w:World):ae 214 #[n] w λe w'=>e=Value.int .i64 (cU n)/\w'=w:=by apply aau.vc;exact ⟨by rw [awv],rfl⟩
def aav(a b:Int)(w:World):ae 205 #[a,b] w λe w'=>e=Value.int .i64 (fZ a b)/\w'=w:=by apply aaw.vc;refine (iq a w).mono ?_;rintro e w1 ⟨rfl,rfl⟩;refine ⟨_,rfl,(iq b w1).mono ?_⟩;rintro e w2 ⟨rfl,rfl⟩;have h1:=kC a;have h2:=kC b;refine ⟨_,rfl,?_⟩;rw [wI];refine (iq _ w2).mono ?_;rintro e w3 ⟨rfl,rfl⟩;exact ⟨_,rfl,rfl,rfl⟩
def KO(a b:Int)(w:World):ae 156 #[a,b] w λe w'=>e=Value.int .i64 (mw a b)/\w'=w:=by apply aax.vc;refine (iq a w).mono ?_;rintro e w1 ⟨rfl,rfl⟩;refine ⟨_,rfl,(iq b w1).mono ?_⟩;rintro e w2 ⟨rfl,rfl⟩;have h1:=kC a;have h2:=kC b;refine ⟨_,rfl,?_⟩;rw [wI];refine (iq _ w2).mono ?_;rintro e w3 ⟨rfl,rfl⟩;exact ⟨_,rfl,rfl,rfl⟩
def p16:(2 ^(min (16:Int).toNat 64):Int)=65536:=by decide
def pV(n:Int)(w:World):ae 152 #[n] w λe w'=>e=Value.int .i64 (bO n)/\w'=w:=by apply RN.vc;refine (iq n w).mono ?_;rintro e w1 ⟨rfl,rfl⟩;rw [p16];exact ⟨_,rfl,by rw [ud _ aA];rfl,rfl⟩
def aay{x:Int}(h: -140737488355328<=x/\x<=140737488355328):uy .i64 x 65535=x % 65536:=by
 unfold uy;have e:(BitVec.ofInt IntKind.i64.bits x &&& BitVec.ofInt IntKind.i64.bits 65535).toNat=(x % 65536).toNat:=by
  show (BitVec.ofInt 64 x &&& BitVec.ofInt 64 65535).toNat=_;rw [AH];have h1:(BitVec.ofInt 64 65535).toNat=2 ^ 16-1:=by decide
  rw [h1,Nat.and_two_pow_sub_one_eq_mod,zV];omega
 rw [e,Int.toNat_of_nonneg aa];exact wI
def Cr(n:Int)(w:World):ae 258 #[n] w λe w'=>e=Value.int .i64 (vm n)/\w'=w:=by apply Vv.vc;refine (iq n w).mono ?_;rintro e w1 ⟨rfl,rfl⟩;exact ⟨_,rfl,by rw [aay (kC n)];rfl,rfl⟩
def tn(n:Int)(w:World):ae 174 #[n] w λe w'=>e=Value.int .i64 (nO n)/\w'=w:=by
 apply aeC.vc;rw [p16];have e:(if 2147483648<(if (-2147483648)>n then (-2147483648) else n) then 2147483648 else (if (-2147483648)>n then (-2147483648) else n))=min (max n (-2147483648)) 2147483648:=by
  repeat' split
  all_goals omega
 rw [e,wI];exact ⟨rfl,rfl⟩
def al9(p q r:Option Addr):One [.pointer p,q,r]:=by intro v hv;simp at hv;rcases hv with rfl|rfl|rfl<;>rfl
def Ih(a:Addr)(w:World):ae 245 #[a] w λe w'=>e=Value.agg #[.pointer (af (some a) 0),.pointer (af (some a) 1),.pointer (af (some a) 2)]/\Ext w w':=by
 apply aaz.vc;intro w0 e0;have x0:Ext w w0.drew:=(aQ e0).drew;have hr:Row w0.drew w [.pointer none,.pointer none,.pointer none] 306:=by rw [e0];exact (Row.new w [_,_,_] _).ext (Ext.dr _)
 refine ⟨⟨rfl,hr.wr bg⟩,λw1 e1=> ?_⟩;rw [hr.bF (vs:=[.pointer (af (some a) 0),.pointer (af (some a) 1),.pointer (af (some a) 2)]) bg (al9 _ _ _),dE bg] at e1;have hr1:Row w1 w [.pointer (af (some a) 0),.pointer (af (some a) 1),.pointer (af (some a) 2)] 306:=hr.st e1;exact ⟨_,_,_,Lo.wv hr1,rfl,x0.ab e1 (ak _)⟩
def Vw(f:Int->Int->Int)(v:Ce)(k:Nat):LV:=[.int .i64 (if 0<k then f 0 v.1 else v.1),.int .i64 (if 1<k then f 1 v.2.1 else v.2.1),.int .i64 (if 2<k then f 2 v.2.2 else v.2.2)]
def wL(f:Int->Int->Int)(v:Ce)(fv:Value)(w:World)(hf:∀w',Ext w w'->∀i x:Int,0<=i->i<3->bB Tryz.prog fv [.int .i64 i,.int .i64 x] w' λe w''=>e=Value.int .i64 (f i x)/\Ext w' w''):
  ae 203 #[eg v,fv] w λe w'=>e=(eg (PS f v))/\Ext w w':=by
 apply aeD.vc;intro w0 e0 w1 e1;have x0:=aQ e0;have z0:=fj e0;have r0:Row w0 w (Vw f v 0) iM:=Row.nw e0;have x1:=aQ e1;have z1:=fj e1;refine (Ih ⟨w.heap.size,0,none⟩ w1).mono ?_;rintro e w2 ⟨rfl,x2⟩;have z2:=x2.size;refine ⟨_,_,_,rfl,x2.heap aa,λn x wr=>∃k:Nat,x=k/\k+n=3/\Row wr w (Vw f v k) iM/\Ext w wr/\w2.heap.size<=wr,⟨3,rfl,0,rfl,rfl,r0.ext (x1.tr x2),x0.tr (x1.tr x2),ak _⟩,?_⟩;rintro n us x wr ⟨k,rfl,hk,hr,xr,zr⟩;have hl:∀k,(Vw f v k).length=3:=λ_=>rfl
 have wk:=ov (j:=k);apply Br.mk<;>intro hb
 ·replace hb:=nh hb;have BH:k=0\/k=1\/k=2:=by omega
  have step:∀(j:Nat)(y:Int),k=j->j<3->(Vw f v j)[j]? =some (.int .i64 y)->aP (Vw f v j) j [(f j y)]=Vw f v (j+1)->
    aT (fq (af (aD w.heap.size) j)) (∃(cR:Int),ld wr (af (aD w.heap.size) j)=some (.int .i64 cR)/\
     bB Tryz.prog fv [.int .i64 (k:Int),cR] wr (λe bH=>∃(cW:Int),e=cW/\bH.heap[w0.heap.size]? =wr.heap[w0.heap.size]?/\
     aT (fq (af (aD w.heap.size) j)) (((af (aD w.heap.size) j).isSome=true/\Wr bH (af (aD w.heap.size) j) 1)/\bk (af (aD w.heap.size) j)≠some w0.heap.size/\(∀cD:World,cD=bF bH (af (aD w.heap.size) j) [cW]->
     ∃tN,tN<n/\aN [ai,ai,ai]/\∃k':Nat,aw ((k:Int)+1)=k'/\k'+tN=3/\Row cD w (Vw f v k') iM/\Ext w cD/\w2.heap.size<=cD)))):=by
   intro j y hj h3 h1 h2;subst hj;refine iS rfl ⟨y,hr.at k h1,ez (hf wr xr k y aa aa) ?_⟩;rintro e bH ⟨rfl,cB⟩;have z14:=cB.size;have aol:=hr.ext cB;obtain ⟨p1,p2⟩:=aol.ic (j:=k) (v:=.int .i64 (f k y)) (by rw [hl];exact h3) rfl;refine ⟨_,rfl,cB.heap aa,iS rfl ⟨⟨rfl,p1⟩,?_,λcD FY=> ?_⟩⟩
   ·rw [cP];intro q;have q:w.heap.size=w0.heap.size:=by simpa [bk] using q
    omega
   obtain ⟨q1,q2⟩:=p2 cD FY;rw [h2] at q1;have z16:=q2.size;exact ⟨n-1,aa,rfl,k+1,wk,aa,q1,q2.ext (xr.tr cB) λi hi=>by omega,aa⟩
  refine ⟨⟨aa,aa⟩,?_⟩;rcases BH with h|h|h
  ·exact ⟨_,by rw [h];rfl,step 0 v.1 h aA rfl rfl⟩
  ·exact ⟨_,by rw [h];rfl,step 1 v.2.1 h aA rfl rfl⟩
  ·exact ⟨_,by rw [h];rfl,step 2 v.2.2 h aA rfl rfl⟩
 ·replace hb:=nC hb;have BH:k=3:=by omega
  subst BH;exact ⟨_,_,_,Lo.wv hr,λfx Nz=>⟨rfl,xr.ab Nz aa⟩⟩
def da(v:Ce)(i:Int)(w:World):ae 178 #[eg v,i] w λe w'=>e=Value.int .i64 (cN v i)/\Ext w w':=by
 apply aeE.vc;intro w0 e0;have x0:=aQ e0;have r0:Row w0 w (dZ v) iM:=Row.nw e0;refine Br.mk (λh=> ?_) (λh=>Br.mk (λh2=> ?_) (λh2=>(Ih ⟨w.heap.size,0,none⟩ w0).mono ?_))
 ·replace h:=nh h;exact ⟨by unfold cN;rw [if_neg aa,if_neg aa,if_neg aa],x0⟩
 ·simp only [cJ,ge_iff_le] at h2;exact ⟨by unfold cN;rw [if_neg aa,if_neg aa,if_neg aa],x0⟩
 ·simp only [fA,ge_iff_le] at h h2;rintro e w1 ⟨rfl,x1⟩;have hr:=r0.ext x1;refine ⟨_,_,_,rfl,⟨aa,aa⟩,?_⟩;have h3:i=0\/i=1\/i=2:=by omega
  rcases h3 with rfl|rfl|rfl
  ·exact ⟨_,rfl,iS rfl ⟨_,hr.at 0 rfl,rfl,x0.tr x1⟩⟩
  ·exact ⟨_,rfl,iS rfl ⟨_,hr.at 1 rfl,rfl,x0.tr x1⟩⟩
  ·exact ⟨_,rfl,iS rfl ⟨_,hr.at 2 rfl,rfl,x0.tr x1⟩⟩
def aaA(b:Ce)(i n:Int){g:Nat}{w:World}(hr:Row w g (dZ b) iM):ae 204 #[i,n,g] w λe w'=>e=Value.int .i64 (fZ n (cN b i))/\Ext w w':=by apply aaB.vc;refine ⟨_,_,_,Lo.wv hr,(da b i w).mono ?_⟩;rintro e w1 ⟨rfl,x1⟩;refine ⟨_,rfl,(aav n _ w1).mono ?_⟩;rintro e w2 ⟨rfl,rfl⟩;exact ⟨_,rfl,rfl,x1⟩
def aaC(b:Ce)(i n:Int){g:Nat}{w:World}(hr:Row w g (dZ b) iM):ae 216 #[i,n,g] w λe w'=>e=Value.int .i64 (mw n (cN b i))/\Ext w w':=by apply aaD.vc;refine ⟨_,_,_,Lo.wv hr,(da b i w).mono ?_⟩;rintro e w1 ⟨rfl,x1⟩;refine ⟨_,rfl,(KO n _ w1).mono ?_⟩;rintro e w2 ⟨rfl,rfl⟩;exact ⟨_,rfl,rfl,x1⟩
def jS(a b:Ce)(w:World):ae 145 #[eg a,eg b] w λe w'=>e=(eg (kf a b))/\Ext w w':=by apply ah8.vc;intro w0 e0 w1 e1 w2 e2;have x0:=aQ e0;have z0:=fj e0;have x1:=aQ e1;have z1:=fj e1;have r1:Row w1 w0 (dZ b) iM:=Row.nw e1;have x2:=aQ e2;have z2:=fj e2;have xh:=x0.tr (x1.tr x2);refine (wL (λi n=>fZ n (cN b i)) a (.func (.func 204) #[] #[w0]) w2 λw' x' i x _ _=>cH (by kernel_rfl) rfl (aaA b i x ((r1.ext x2).ext x'))).mono ?_;rintro e w3 ⟨rfl,x3⟩;have z3:=x3.size;exact ⟨_,_,_,rfl,x3.heap aa,x3.heap aa,λw7 e7=>⟨rfl,(xh.tr x3).ab e7 aa⟩⟩
def wu(a b:Ce)(w:World):ae 154 #[eg a,eg b] w λe w'=>e=(eg (ym a b))/\Ext w w':=by apply ah9.vc;intro w0 e0 w1 e1 w2 e2;have x0:=aQ e0;have z0:=fj e0;have x1:=aQ e1;have z1:=fj e1;have r1:Row w1 w0 (dZ b) iM:=Row.nw e1;have x2:=aQ e2;have z2:=fj e2;have xh:=x0.tr (x1.tr x2);refine (wL (λi n=>mw n (cN b i)) a (.func (.func 216) #[] #[w0]) w2 λw' x' i x _ _=>cH (by kernel_rfl) rfl (aaC b i x ((r1.ext x2).ext x'))).mono ?_;rintro e w3 ⟨rfl,x3⟩;have z3:=x3.size;exact ⟨_,_,_,rfl,x3.heap aa,x3.heap aa,λw7 e7=>⟨rfl,(xh.tr x3).ab e7 aa⟩⟩
def Vx(ax m i n:Int){g h:Nat}{w:World}{τ:TypeId}(hr:Row w g [ax] τ)(hh:Row w h [m] τ):ae 217 #[i,n,g,h] w λe w'=>e=Value.int .i64 (if i=ax then cU m else n)/\Ext w w':=by
 apply Vy.vc;refine ⟨ax,hr.at 0 rfl,Br.mk (λq=>⟨m,hh.at 0 rfl,(iq m w).mono ?_⟩) (λq=> ?_)⟩
 ·rintro e w1 ⟨rfl,rfl⟩;exact ⟨_,rfl,by rw [if_pos (by simpa using q)],Ext.cG _⟩
 ·exact ⟨by rw [if_neg (by simpa using q)],Ext.cG _⟩
def jG(v:Ce)(ax m:Int)(w:World):ae 155 #[eg v,ax,m] w λe w'=>e=(eg (im v ax m))/\Ext w w':=by apply aeF.vc;intro w0 e0 w1 e1 w2 e2 w3 e3;have x0:=aQ e0;have z0:=fj e0;have x1:=aQ e1;have z1:=fj e1;have r1:Row w1 w0 [ax] 3:=Row.nw e1;have x2:=aQ e2;have z2:=fj e2;have r2:Row w2 w1 [m] 3:=Row.nw e2;have x3:=aQ e3;have z3:=fj e3;have Da:=x0.tr (x1.tr (x2.tr x3));refine (wL (λi own=>if i=ax then cU m else own) v (.func (.func 217) #[] #[w0,w1]) w3 λw' x' i x _ _=>cH (by kernel_rfl) rfl (Vx ax m i x ((r1.ext (x2.tr x3)).ext x') ((r2.ext x3).ext x'))).mono ?_;rintro e w4 ⟨rfl,x4⟩;have z4:=x4.size;exact ⟨_,_,_,rfl,x4.heap aa,x4.heap aa,λw8 e8=>⟨rfl,(Da.tr x4).ab e8 aa⟩⟩
abbrev gu:TypeId:=107
abbrev qA(b:Bx):LV:=[.int .i64 b.1.1,.int .i64 b.1.2.1,.int .i64 b.1.2.2,.int .i64 b.2.1,.int .i64 b.2.2.1,.int .i64 b.2.2.2]
def oP{w:World}{g o:Nat}{cs:LV}{τ:TypeId}(hr:Row w g cs τ){v:Value}(h:cs[o]? =some v):ah w (fP g o) 0 [v]:=hr.bI (o:=o) (λj hj=>by
 match j,hj with
 |0,_=>exact h)
def ti{w:World}{g o:Nat}{cs:LV}{τ:TypeId}(hr:Row w g cs τ){x y z:Value}(h:cs[o]? =some x)(h1:cs[o+1]? =some y)(h2:cs[o+2]? =some z):ah w (fP g o) 0 [x,y,z]:=hr.bI (o:=o) (λj hj=>by
 match j,hj with
 |0,_=>exact h
 |1,_=>exact h1
 |2,_=>exact h2)
def ajH{a:Int}(h:dJ a):aw (Int.tdiv (if 0>a then 0 else a) 2)=max a 0 / 2:=by
 have e:(if 0>a then 0 else a)=max a 0:=by split<;>omega
 unfold dJ at h;rw [e,sa aa,wI]
def ap8(a:Int):(if 0>a then 0 else a)=max a 0:=by split<;>omega
def T6(aq:Ce)(wd h:Int)(hw:dJ wd)(w:World):ae 104 #[eg aq,wd,h] w λe w'=>e=(td (lQ aq wd h))/\Ext w w':=by
 apply Yl.vc;rw [ajH hw,ap8 h];intro w0 e0 w1 e1 w2 e2 w3 e3;have x0:=aQ e0;have z0:=fj e0;have r0:Row w0 w (dZ aq) iM:=Row.nw e0;have x1:=aQ e1;have z1:=fj e1;have x3:Ext w1 w3:=(aQ e2).ab e3 (ak _);have z3:=Eu e2 e3;have cR:=x1.tr (x3.tr (Ext.dr w3));have zd:=m7 w3;constructor
 all_goals
  refine (wu aq (max wd 0 / 2,0,max wd 0 / 2) w3.drew).mono ?_
  rintro e w4 ⟨rfl,x4⟩
  have z4:=x4.size
  refine ⟨_,_,_,rfl,x4.heap aa,x4.heap aa,x4.heap aa,Lo.wv (r0.ext (cR.tr x4)),(jS aq (max wd 0 / 2,max h 0,max wd 0 / 2) w4).mono ?_⟩
  rintro e w8 ⟨rfl,x8⟩
  have z8:=x8.size
  exact ⟨_,_,_,rfl,x8.heap aa,x8.heap aa,x8.heap aa,λcC Fy=>⟨rfl,(x0.tr (cR.tr (x4.tr x8))).ab Fy aa⟩⟩
structure dw where
 aq:Ce
 speed:Ce
 wd:Int
 ht:Int
 fG:Bool
abbrev kc(b:dw):LV:=[.int .i64 b.aq.1,.int .i64 b.aq.2.1,.int .i64 b.aq.2.2,.int .i64 b.speed.1,.int .i64 b.speed.2.1,.int .i64 b.speed.2.2,.int .i64 b.wd,.int .i64 b.ht,.bool b.fG]
abbrev FJ(b:dw):Value:=.agg #[b.aq.1,b.aq.2.1,b.aq.2.2,b.speed.1,b.speed.2.1,b.speed.2.2,b.wd,b.ht,.bool b.fG]
abbrev BV:TypeId:=70
def dw.box(b:dw):Bx:=lQ b.aq b.wd b.ht
def kY(b:dw)(hw:dJ b.wd)(w:World):ae 48 #[FJ b] w λe w'=>e=(td b.box)/\Ext w w':=by apply Jz.vc;intro w0 e0 w1 e1;have x1:Ext w w1:=(aQ e0).br e1;have z0:=fj e0;have z1:=fj e1;refine (T6 b.aq b.wd b.ht hw w1).mono ?_;rintro e w2 ⟨rfl,x2⟩;have z2:=x2.size;exact ⟨_,_,_,_,_,_,rfl,x2.heap aa,x2.heap aa,λw9 e9=>⟨rfl,(x1.tr x2).ab e9 aa⟩⟩
def AF(v:Ce)(w:World):ae 101 #[eg v] w λe w'=>e=(eg (bj v))/\Ext w w':=by
 apply ahb.vc;intro w0 e0 w1 e1;have x0:=aQ e0;have z0:=fj e0;have r0:Row w0 w (dZ v) iM:=Row.nw e0;have x1:Ext w0 w1.drew:=(aQ e1).drew;have z1:w1.drew.heap.size=w0.heap.size+1:=by show w1.heap.size=_;rw [e1];simp
 have r1:=r0.ext x1;refine (pV v.1 w1.drew).mono ?_;rintro e w2 ⟨rfl,rfl⟩;refine ⟨_,rfl,rfl,rfl,oP r1 rfl,oP r1 rfl,(pV v.2.1 w1.drew).mono ?_⟩;rintro e w4 ⟨rfl,rfl⟩;refine ⟨_,rfl,rfl,rfl,oP r1 rfl,(pV v.2.2 w1.drew).mono ?_⟩;rintro e w6 ⟨rfl,rfl⟩;exact ⟨_,rfl,rfl,rfl,λw8 e8=>⟨by unfold bj;rfl,(x0.tr x1).ab e8 aa⟩⟩
def Cp(a b c d:Int)(w:World):ae 293 #[a,b,c,d] w λe w'=>e=Value.int .i64 (if a=b then c else d)/\w'=w:=by apply PI.vc;exact Br.mk (λh=>⟨by rw [if_pos (by simpa using h)],rfl⟩) (λh=>⟨by rw [if_neg (by simpa using h)],rfl⟩)
def Ym(b:Bx)(w:World):ae 266 #[td b] w λe w'=>∃lo hi:Ce,e=Value.tuple #[eg lo,eg hi,.bool (xF b)]/\(xF b=true->lo=bj b.1/\hi=il b)/\Ext w w':=by
 apply Yn.vc;intro w0 e0 w1 e1 w2 e2;have x0:=aQ e0;have z0:=fj e0;have r0:Row w0 w (qA b) gu:=Row.nw e0;have x1:=aQ e1;have z1:=fj e1;have x2:=aQ e2;have z2:=fj e2;refine (AF b.1 w2).mono ?_;rintro e w3 ⟨rfl,x3⟩;have z3:=x3.size;refine ⟨_,_,_,rfl,x3.heap aa,x3.heap aa,x3.heap aa,λw7 e7 w8 e8=>(jS b.2 (-1,-1,-1) w8).mono ?_⟩;have x8:Ext w3 w8:=(aQ e7).ab e8 (ak _);have z8:=Eu e7 e8;have r8:Row w8 w3 (dZ (bj b.1)) rF:=by rw [e8];exact Row.set (by rw [e7];exact Row.new w3 [_,_,_] _) _
 rintro e w9 ⟨rfl,x9⟩;have z9:=x9.size;refine ⟨_,_,_,rfl,x9.heap aa,x9.heap aa,x9.heap aa,x9.heap aa,(AF (kf b.2 (-1,-1,-1)) w9).mono ?_⟩;rintro e bP ⟨rfl,cR⟩;have z13:=cR.size;refine ⟨_,_,_,rfl,cR.heap aa,cR.heap aa,cR.heap aa,cR.heap aa,λcL BX dI e18=> ?_⟩;have dc:Ext bP dI:=(aQ BX).ab e18 (ak _);have z18:=Eu BX e18;have r18:Row dI bP (dZ (Cq b)) rF:=by rw [e18];exact Row.set (by rw [BX];exact Row.new bP [_,_,_] _) _
 have anu:=x9.tr (cR.tr dc);have VY:=x0.tr (x1.tr (x2.tr (x3.tr (x8.tr anu))));have rb:=r0.ext (x1.tr (x2.tr (x3.tr (x8.tr anu))));have rl:=r8.ext anu;refine ⟨λn x wr=>∃k:Nat,x=k/\k+n=3/\Ext dI wr/\∀j:Nat,j<k->lR b j=false,⟨3,rfl,rfl,rfl,rfl,rfl,0,rfl,rfl,Ext.cG _,λj hj=>by omega⟩,?_⟩;rintro n us x wr ⟨k,rfl,hk,xr,ht⟩;have zr:=xr.size;have xd:=Ext.dr wr;have zd:=m7 wr;have wk:=ov (j:=k);refine Br.mk (λhb=>(da b.1 k wr.drew).mono ?_) (λhb=>(Cp b.1.1 b.2.1 (bj b.1).1 (Cq b).1 wr.drew).mono ?_)
 ·replace hb:=nh hb;rintro e cZ ⟨rfl,eZ⟩;have z25:=eZ.size;have x25d:=xr.tr (xd.tr eZ);refine ⟨_,rfl,eZ.heap aa,eZ.heap aa,eZ.heap aa,eZ.heap aa,eZ.heap aa,ti (rb.ext x25d) rfl rfl rfl,(da b.2 k cZ).mono ?_⟩;rintro e fy ⟨rfl,jm⟩;have z27:=jm.size;have next:lR b k=false->∀j:Nat,j<k+1->lR b j=false:=λh j hj=>by
   by_cases q:j<k
   ·exact ht j q
   ·rw [show j=k from by omega];exact h
  refine ⟨_,rfl,jm.heap aa,jm.heap aa,jm.heap aa,jm.heap aa,jm.heap aa,Br.mk (λh1=>(Cr _ fy).mono ?_) (λh1=> ?_)⟩
  ·rintro e eG ⟨rfl,rfl⟩;have h1:=cS h1;refine ⟨_,rfl,rfl,rfl,rfl,rfl,rfl,Br.mk (λh2=>λgS e31 qT VZ=> ?_) (λh2=> ?_)⟩
   ·have h2:=cS h2;have hth:lR b k=true:=by unfold lR;rw [h1,<-h1,h2];simp [h1]
    have hsp:xF b=false:=by
     have h3:(k:Int)=0\/(k:Int)=1\/(k:Int)=2:=by omega
     unfold xF;rcases h3 with q|q|q<;>(rw [q] at hth;rw [hth];simp)
    refine ⟨(0,0,0),(0,0,0),by rw [hsp],λq=>absurd (hsp.symm.trans q) aA,((VY.tr (x25d.tr jm)).ab e31 aa).ab VZ aa⟩
   ·have h2:=cS h2;exact ⟨n-1,aa,rfl,rfl,rfl,rfl,rfl,k+1,wk,aa,x25d.tr jm,next (by unfold lR;simp [h2])⟩
  ·have h1:=cS h1;exact ⟨n-1,aa,rfl,rfl,rfl,rfl,rfl,k+1,wk,aa,x25d.tr jm,next (by unfold lR;simp [h1])⟩
 ·replace hb:=nC hb;have hsp:xF b=true:=by unfold xF;rw [show lR b 0=false from ht 0 aa,show lR b 1=false from ht 1 aa,show lR b 2=false from ht 2 aa];rfl
  have rb':=rb.ext (xr.tr xd);have rl':=rl.ext (xr.tr xd);have rt':=r18.ext (xr.tr xd);rintro e fL ⟨rfl,rfl⟩;refine ⟨_,rfl,rfl,rfl,rfl,rfl,rfl,oP rt' rfl,oP rl' rfl,oP rb' rfl,oP rb' rfl,oP rt' rfl,oP rl' rfl,oP rb' rfl,oP rb' rfl,(Cp b.1.2.1 b.2.2.1 (bj b.1).2.1 (Cq b).2.1 wr.drew).mono ?_⟩;rintro e gT ⟨rfl,rfl⟩;refine ⟨_,rfl,rfl,rfl,rfl,rfl,rfl,oP rt' rfl,oP rl' rfl,oP rb' rfl,oP rb' rfl,(Cp b.1.2.2 b.2.2.2 (bj b.1).2.2 (Cq b).2.2 wr.drew).mono ?_⟩;rintro e iR ⟨rfl,rfl⟩;refine ⟨_,rfl,rfl,rfl,rfl,rfl,rfl,λkR e39 kz VO oF e41 lf XE=> ?_⟩;have r39:Row kR bP (dZ ((il b).1,(Cq b).2.1,(Cq b).2.2)) rF:=by rw [e39];exact Row.set rt' [_,_,_]
  have r40:Row kz bP (dZ ((il b).1,(il b).2.1,(Cq b).2.2)) rF:=r39.st VO;have r41:Row oF bP (dZ (il b)) rF:=r40.st e41;have r42:Row lf bP (dZ (il b)) rF:=(r41.ext (Ext.dr oF)).same (by rw [XE];exact setRow_other _ _ _ _ aa);have qU:Ext w lf:=(((((VY.tr (xr.tr xd)).ab e39 aa).ab VO aa).ab e41 aa).drew).ab XE aa;exact ⟨Lo.wv r42,λjW e43=>⟨bj b.1,il b,by rw [hsp];rfl,λ_=>⟨rfl,rfl⟩,qU.ab e43 aa⟩⟩
def T7(b:Bx)(w:World):ae 105 #[td b] w λe w'=>e=(td (jB b))/\Ext w w':=by
 apply PJ.vc;intro w0 e0 w1 e1;have x0:=aQ e0;have z0:=fj e0;have r0:Row w0 w (qA b) gu:=Row.nw e0;have x1:Ext w0 w1.drew:=(aQ e1).drew;have z1:w1.drew.heap.size=w0.heap.size+1:=by show w1.heap.size=_;rw [e1];simp
 have r1:=r0.ext x1;refine (KO b.1.2.1 1 w1.drew).mono ?_;rintro e w2 ⟨rfl,rfl⟩;refine ⟨_,rfl,rfl,rfl,ti r1 rfl rfl rfl,ti r1 rfl rfl rfl,(jG b.1 1 (mw b.1.2.1 1) w1.drew).mono ?_⟩;rintro e w4 ⟨rfl,x4⟩;have z4:=x4.size;refine ⟨_,_,_,rfl,x4.heap aa,x4.heap aa,ti (r1.ext x4) rfl rfl rfl,(jG b.2 1 b.1.2.1 w4).mono ?_⟩;rintro e w8 ⟨rfl,x8⟩;have z8:=x8.size;exact ⟨_,_,_,rfl,x8.heap aa,x8.heap aa,λcC Fy=>⟨rfl,(x0.tr (x1.tr (x4.tr x8))).ab Fy aa⟩⟩
abbrev oQ(b:Bx):List (LV):=(kg b).map λc=> [eg c]
abbrev ac5(g:Nat):Value:=.func (.func 265) #[] #[g]
def Yv(b:Bx)(g:Nat)(W0:World)(hb:Row W0 g (qA b) gu):Iter Tryz.prog (ac5 g) W0 (λi=>i=g) (oQ b):=by
 refine ⟨⟨_,_,_,rfl,by kernel_rfl⟩,?_⟩;intro y B J Jx F0 W hB hsJ hsX zo hRd hround h0;refine cH (by kernel_rfl) (by rfl) ?_;apply No.vc;have hbW:Row W g (qA b) gu:=hb.same (hRd g rfl).2.2;refine ⟨_,_,_,_,_,_,Lo.wv hbW,(Ym b W).mono ?_⟩;rintro e w6 ⟨lo,hi,rfl,hsp,x6⟩;refine ⟨_,_,_,_,_,_,_,rfl,λbH uU ee qu cD FY cL BX=> ?_⟩;have cB:=aQ uU;have z14:=fj uU;have dH:Ext w6 cL:=(((cB.br qu).ab FY (ak _)).ab BX aa);have z17:cL.heap.size=w6.heap.size+2:=by rw [BX,setRow_size,FY,setRow_size,qu];simp [z14]
 have xW:=x6.tr dH;have zW:=xW.size;obtain ⟨Q,hQ⟩:∃Q:Nat->World->Prop,Q=λk wr=>∃F,J k F wr/\∀i,F i->(F0 i\/cL.heap.size<=i):=⟨_,rfl⟩
 have z6:=x6.size;have hF0:∀i,F0 i->i<w6.heap.size:=λi hi=>kr (zo _ _ _ h0 i hi) z6
 have init:Q 0 cL:=by rw [hQ];exact ⟨F0,hsJ _ _ _ _ h0 (Below.mono xW hB) λi hi=>xW.heap (zo _ _ _ h0 i hi),λi hi=> .inl hi⟩
 have round:∀{k:Nat} {wr:World} {x:LV},cL.heap.size<=wr->(oQ b)[k]? =some x->Q k wr->bB Tryz.prog y x wr λe w'=>cL.heap.size<=w'.heap.size/\(∀i,i<cL.heap.size->¬F0 i->w'.heap[i]? =wr.heap[i]?)/\((e=true/\Q (k+1) w')\/(e=false/\∃F',Jx () F' w')):=λ{k wr x} hz hx h=>by
  rw [hQ] at h ⊢;obtain ⟨F,hJ,h2⟩:=h;refine bV (hround _ _ _ _ hx hJ) ?_;have aW:∀{w':World} {F2:Nat->Prop},Step F F2 wr w'->cL.heap.size<=w'.heap.size/\(∀i,i<cL.heap.size->¬F0 i->w'.heap[i]? =wr.heap[i]?):=λiC=>⟨by have:=iC.size;omega,λi hi hn=>iC.same i aa λhf=>(h2 i hf).elim hn aa⟩
  rintro e w' (⟨rfl,F2,Wb,iC⟩|⟨rfl,F2,Wb,iC⟩)
  ·refine ⟨(aW iC).1,(aW iC).2,.inl ⟨rfl,F2,Wb,λi hi=> ?_⟩⟩;rcases iC.sub i hi with hf|hf
   ·exact h2 i hf
   ·exact .inr aa
  ·exact ⟨(aW iC).1,(aW iC).2,.inr ⟨rfl,F2,Wb⟩⟩
 have fin:∀{wr:World},Q (oQ b).length wr->∃F',J (oQ b).length F' wr:=λh=>by rw [hQ] at h;obtain ⟨F,hJ,-⟩:=h;exact ⟨F,hJ⟩
 have n6:¬F0 w6:=λq=>by have:=hF0 _ q;omega
 have Tm:¬F0 bH:=λq=>by have:=hF0 _ q;omega
 have hsz:cL.heap.size=w6.heap.size+2:=z17
 cases hspan:xF b with
 |false=>
  have Fi:oQ b=[]:=by unfold oQ kg;rw [hspan];rfl
  rw [Fi] at fin ⊢;exact ⟨λn x wr=>wr=cL,⟨0,rfl,rfl,rfl⟩,λn us x wr hwr=>by
   subst hwr;exact Br.mk (λh=>by cases h) (λ_=>⟨⟨_,rfl⟩,.inl (fin init)⟩)⟩
 |true=>
  obtain ⟨rfl,rfl⟩:=hsp hspan;have hc:kg b=MG (bj b.1) (il b):=by unfold kg;rw [hspan];rfl
  have Jc:∀{jy jz jx:Nat},jy<cc (bj b.1).2.1 (il b).2.1->jz<cc (bj b.1).2.2 (il b).2.2->jx<cc (bj b.1).1 (il b).1->
    (oQ b)[(jy*cc (bj b.1).2.2 (il b).2.2+jz)*cc (bj b.1).1 (il b).1+jx]? =some [eg ((bj b.1).1+(jx:Int),(bj b.1).2.1+(jy:Int),(bj b.1).2.2+(jz:Int))]:=λh1 h2 h3=>by
   unfold oQ;rw [hc,aS,WN _ _ h1 h2 h3];rfl
  have dp:(oQ b).length=cc (bj b.1).2.1 (il b).2.1*cc (bj b.1).2.2 (il b).2.2*cc (bj b.1).1 (il b).1:=by unfold oQ;rw [aL,hc,ac2]
  obtain ⟨⟨a1,a2⟩,⟨a3,a4⟩,a5,a6⟩:=wx b.1;obtain ⟨⟨b1,b2⟩,⟨b3,b4⟩,b5,b6⟩:=WK b;generalize oQ b=xs at*;generalize bj b.1=a at*;generalize il b=z at*;have hny:∀j:Nat,a.2.1+(j:Int)<=z.2.1 ↔ j<cc a.2.1 z.2.1:=λj=>by unfold cc;omega
  have hnz:∀j:Nat,a.2.2+(j:Int)<=z.2.2 ↔ j<cc a.2.2 z.2.2:=λj=>by unfold cc;omega
  have F8:∀j:Nat,a.1+(j:Int)<=z.1 ↔ j<cc a.1 z.1:=λj=>by unfold cc;omega
  have hmy:cc a.2.1 z.2.1<=4294967297:=by unfold cc;omega
  have hmz:cc a.2.2 z.2.2<=4294967297:=by unfold cc;omega
  have hmx:cc a.1 z.1<=4294967297:=by unfold cc;omega
  generalize cc a.2.1 z.2.1=ny at*;generalize cc a.2.2 z.2.2=nz at*;generalize cc a.1 z.1=nx at*;refine ⟨λn v wr=>∃jy:Nat,v=a.2.1+jy/\jy+n=ny/\Q (jy*nz*nx) wr/\cL.heap.size<=wr,⟨ny,rfl,rfl,0,aa,aa,by rw [Nat.zero_mul,Nat.zero_mul];exact init,ak _⟩,?_⟩;rintro n2 us3 v dm ⟨jy,rfl,hjy,hq,zr⟩;refine Br.mk (λ_=>Br.mk (λGa=> ?_) (λGa=> ?_)) (λh=>by cases h)
  ·replace Ga:=nh Ga;have ly:=(hny jy).1 Ga;refine ⟨λn v wr=>∃jz:Nat,v=a.2.2+jz/\jz+n=nz/\Q ((jy*nz+jz)*nx) wr/\cL.heap.size<=wr,⟨nz,rfl,rfl,0,aa,aa,by rw [Nat.add_zero];exact hq,zr⟩,?_⟩;rintro n10 aIV v iY ⟨jz,rfl,hjz,hq,zr⟩;apply Br.mk<;>intro ky
   ·replace ky:=nh ky;have lz:=(hnz jz).1 ky;refine ⟨λn v wr=>∃jx:Nat,v=a.1+jx/\jx+n=nx/\Q ((jy*nz+jz)*nx+jx) wr/\cL.heap.size<=wr,⟨nx,rfl,rfl,0,aa,aa,by rw [Nat.add_zero];exact hq,zr⟩,?_⟩;rintro n18 aIW v lq ⟨jx,rfl,hjx,hq,zr⟩;apply Br.mk<;>intro Ox
    ·replace Ox:=nh Ox;have lx:=(F8 jx).1 Ox;refine bV (round zr (Jc ly lz lx) hq) ?_;have wk:aw (a.1+(jx:Int)+1)=a.1+((jx+1:Nat):Int):=by rw [wI];omega
     rintro e kH ⟨z36,k36,q⟩;have k1:=k36 w6 aa n6;have k2:=k36 bH aa Tm;rcases q with ⟨rfl,XC⟩|⟨rfl,Wc⟩
     ·exact ⟨true,rfl,k1,k2,Br.mk (λh=>by cases h) (λ_=>⟨n18-1,aa,rfl,rfl,jx+1,wk,aa,XC,z36⟩)⟩
     ·exact ⟨false,rfl,k1,k2,Br.mk (λ_=>⟨⟨_,rfl⟩,.inr Wc⟩) (λh=>by cases h)⟩
    ·replace Ox:=nC Ox;have e:jx=nx:=by have:=mt (F8 jx).2 Ox;omega
     subst e;have wk:aw (a.2.2+(jz:Int)+1)=a.2.2+((jz+1:Nat):Int):=by rw [wI];omega
     refine ⟨n10-1,aa,rfl,rfl,jz+1,wk,aa,?_,zr⟩;have:(jy*nz+(jz+1))*jx=(jy*nz+jz)*jx+jx:=by rw [<-Nat.add_assoc,pL _ 1,Nat.one_mul]
     rw [this];exact hq
   ·replace ky:=nC ky;have e:jz=nz:=by have:=mt (hnz jz).2 ky;omega
    subst e;have wk:aw (a.2.1+(jy:Int)+1)=a.2.1+((jy+1:Nat):Int):=by rw [wI];omega
    refine ⟨n2-1,aa,rfl,rfl,jy+1,wk,aa,?_,zr⟩;rw [pL jy 1,Nat.one_mul];exact hq
  ·replace Ga:=nC Ga;have e:jy=ny:=by have:=mt (hny jy).2 Ga;omega
   subst e;rw [<-dp] at hq;exact ⟨⟨_,rfl⟩,.inl (fin hq)⟩
def Ug(b:Bx)(w:World):ae 215 #[td b] w λe w'=>e=(ac5 w)/\Row w' w (qA b) gu/\Ext w w':=by apply Uh.vc;intro w0 e0;exact ⟨rfl,by rw [e0];exact Row.new w [_,_,_,_,_,_] _,(aQ e0)⟩
def Yt{b:Bx}{n:Nat}{x y z:Int}(h:(oQ b)[n]? =some [.agg #[.int .i64 x,.int .i64 y,.int .i64 z]]):(kg b)[n]? =some (x,y,z):=by
 unfold oQ at h;rw [aS] at h
 cases hc:(kg b)[n]? with
 |none=>rw [hc] at h;cases h
 |some c=>
  rw [hc] at h;simp only [oK] at h;injection h with h;injection h with h _;injection h with h;injection h with h;injection h with h1 h;injection h with h2 h;injection h with h3 _;injection h1 with _ h1;injection h2 with _ h2;injection h3 with _ h3;exact congrArg some (Prod.ext h1 (Prod.ext h2 h3))
def ac6{b:Bx}{c:Ce}(h:c ∈ kg b):rT c:=by
 unfold kg at h;split at h
 ·have h1:=PT h;have h2:=wx b.1;have h3:=WK b;unfold rT dJ;omega
 ·cases h
def Yu{v:Value}{V:Ce->Int}{w:World}(hV:Tl v V w)(hv:lF v=[])(b:Bx)(fp:Value)(hfp:lF fp=[])(p:Int->Bool)(hp:∀(x:Int)(w':World),bB Tryz.prog fp [.int .i64 x] w' λe w''=>e=Value.bool (p x)/\Ext w' w''):
  ae 153 #[v,td b,fp] w λe w'=>∃c:Ce,e=Value.tuple #[eg c,.bool (iI V b p)]/\Ext w w':=by
 apply Ui.vc;rw [hv,rK];intro w0 e0 w1 e1;rw [hfp,rK];intro w2 e2 w3 e3 w4 e4;have x0:=aQ e0;have z0:=fj e0;have x1:=aQ e1;have z1:=fj e1;have x2:=aQ e2;have z2:=fj e2;have r2:∃τ,Row w2 w1 [fp] τ:=⟨_,by rw [e2];exact Row.new w1 [_] _⟩;have x3:=aQ e3;have z3:=fj e3;have x4:=aQ e4;have z4:=fj e4;have El:=x0.tr (x1.tr (x2.tr (x3.tr x4)));obtain ⟨τ2,r2⟩:=r2;refine (Ug b w4).mono ?_;rintro e w5 ⟨rfl,hb5,x5⟩;have z5:=x5.size;have l5:=hb5.lt;have Sy:=El.tr x5;have r5:=r2.ext (x3.tr (x4.tr x5));refine ⟨_,rfl,x5.heap aa,x5.heap aa,x5.heap aa,x5.heap aa,x5.heap aa,oQ b,λi=>i=w4.heap.size,λ_=>False,
  λn F x y z bb w'=>(∀i,¬F i)/\(∀c ∈(kg b).take n,p (V c)=false)/\Mod (λi=>w5.heap.size<=i) w5 w',
  λo F x y z bb w'=>(∀i,¬F i)/\bb=iI V b p/\Mod (λi=>i=w2.heap.size\/i=w3.heap.size\/w5.heap.size<=i) w5 w',?_,?_,?_,λn F x y z bb w' h i hi=>(h.1 i hi).elim,λo F x y z bb w' h i hi=>(h.1 i hi).elim,λi hi=> ?_,λzL zy=> ?_,?_,?_,?_⟩
 ·intro x hx;obtain ⟨c,-,rfl⟩:=aU.1 hx;exact ⟨_,_,_,rfl⟩
 ·rintro n F x y z bb dU dm ⟨h1,h2,h3⟩ lj -;exact ⟨h1,h2,h3.tr ⟨lj.os,lj.tape,lj.output,lj.size,λi hi hn=>lj.block i (KR hn)⟩ λi hi=> .inl hi⟩
 ·rintro o F x y z bb dU dm ⟨h1,h2,h3⟩ lj -;exact ⟨h1,h2,h3.tr ⟨lj.os,lj.tape,lj.output,lj.size,λi hi hn=>lj.block i (KR hn)⟩ λi hi=> .inl (.inr (.inr hi))⟩
 ·subst hi;exact ⟨aa,id,aa,aa,aa,aa,aa,trivial⟩
 ·exact ⟨Yv b _ zL (hb5.same (zy.ext.block _ aa)),rfl,rfl,rfl,λi h=>h,λc hc=>by simp at hc,Mod.aC zy.ext⟩
 ·rintro n F us Ot sS rA b52 kS qV oG sJ hx hI Er e58 qE Tn;have uo:Ext sJ qE:=(aQ e58).ab Tn (ak _);have z59:qE.heap.size=sJ.heap.size+1:=by rw [Tn,setRow_size,e58];simp
  have z56:=hI.2.2.size;refine ⟨uo,λnB g8 afJ=> ?_⟩;obtain ⟨hF,l8,hM⟩:=afJ;have zr:=g8.size;have hc:=Yt hx;have fw:=aO hc;have z57:=hM.size;have ht:(kg b).take (n+1)=(kg b).take n++ [(kS,qV,oG)]:=by rw [dy,hc];rfl
  obtain ⟨D,hD1,hD2⟩:=hV;refine bV (hD2 nB.drew (λi hi=> ?_) (kS,qV,oG) (ac6 fw)) ?_
  ·have:=hD1 i hi;have:=Sy.size;exact (hM.same i aa aa).trans (Sy.heap aa)
  rintro e oU ⟨rfl,oo⟩;have zd:=m7 nB;have z60:=oo.size;have afK:=hM.trans (Mod.aC ((Ext.dr nB).tr oo));refine ⟨_,rfl,oo.heap aa,oo.heap aa,oo.heap aa,oo.heap aa,oo.heap aa,oo.heap aa,Lo.wv (afK.row r5 aa),bV (hp _ oU) ?_⟩;rintro e jX ⟨rfl,ox⟩;have z62:=ox.size;have Sz:=afK.trans (Mod.aC ox);refine ⟨_,rfl,ox.heap aa,ox.heap aa,ox.heap aa,ox.heap aa,ox.heap aa,ox.heap aa,Br.mk (λhq=>λuV e64 LY e65=> ?_) (λhq=> ?_)⟩
  ·have hq:p (V (kS,qV,oG))=true:=hq;have anx:iI V b p=true:=List.any_eq_true.2 ⟨_,fw,hq⟩;have ayx:LY.heap.size=jX.heap.size:=by rw [e65,setRow_size,e64,setRow_size]
   have anz:∀i,i≠w2.heap.size->i≠w3.heap.size->LY.heap[i]? =jX.heap[i]? :=λi h1 h2=>by rw [e65,setRow_other _ _ _ _ h2,e64,setRow_other _ _ _ _ h1]
   have afL:Mod (λi=>i=w2.heap.size\/i=w3.heap.size) jX LY:=⟨by rw [e65,e64];rfl,by rw [e65,e64];rfl,by rw [e65,e64];rfl,aa,λi _ hn=>anz i (λq=>hn (.inl q)) (λq=>hn (.inr q))⟩;refine ⟨rfl,λ_=>False,⟨rfl,rfl,rfl,λi h=>h,anx.symm,(Sz.mono λi _ h=> .inr (.inr h)).trans (afL.mono λi _ h=>h.elim .inl λh=> .inr (.inl h))⟩,?_⟩;have IT:=((Mod.aC (F:=λi=>i=w2.heap.size\/i=w3.heap.size) (((Ext.dr nB).tr oo).tr ox))).trans afL;refine Step.late ⟨λi hi=> ?_,IT.size,λi hi hn=>IT.same i hi λq=>hn (.inr ?_)⟩
   ·rcases hi with h|h
    ·exact h.elim
    ·exact .inl (.inr h)
   ·rcases q with rfl|rfl<;>simp
  ·have hq:p (V (kS,qV,oG))=false:=hq;have SR:=((Ext.dr nB).tr oo).tr ox;refine ⟨λ_=>False,⟨rfl,rfl,rfl,λi h=>h,λc hc=> ?_,Sz⟩,Step.late ⟨λi hi=> ?_,SR.size,λi hi _=>SR.block i hi⟩⟩
   ·rw [ht,bX] at hc;rcases hc with hc|hc
    ·exact l8 c hc
    ·rw [fT.1 hc];exact hq
   ·rcases hi with h|h
    ·exact h.elim
    ·exact .inl (.inr h)
 ·rintro F us ur uM wM b73 oq ⟨hF,l8,hM⟩ V3 rC e75 pH e76;have z74:=hM.size;have dp:(oQ b).length=(kg b).length:=by unfold oQ;simp
  rw [dp,jg] at l8;have anx:iI V b p=false:=by unfold iI;rw [List.any_eq_false];exact λc hc=>by rw [l8 c hc];decide
  refine ⟨by rw [e76,setRow_other _ _ _ _ aa,e75,setRow_other _ _ _ _ aa];exact V3,λuO g8=>⟨(0,0,0),by rw [anx],?_⟩⟩;have BY:Ext w oq:=hM.ext Sy λi hi=>by have:=Sy.size;omega
  have II:Ext w pH:=(BY.ab e75 aa).ab e76 aa;exact (Mod.q9 g8).ext II λi hi=>by have:=Sy.size;omega
 ·rintro F us FX zJ zK b83 Jg ⟨hF,rfl,hM⟩ V3;refine ⟨V3,λw85 g8=>⟨(FX,zJ,zK),rfl,?_⟩⟩;have Ke:Ext w Jg:=hM.ext Sy λi hi=>by have:=Sy.size;omega
  exact (Mod.q9 g8).ext Ke λi hi=>by have:=Sy.size;omega
def He{v:Value}{V:Ce->Int}{w:World}(hV:Tl v V w)(hv:lF v=[])(b:Bx)(fp:Value)(hfp:lF fp=[])(p:Int->Bool)(hp:∀(x:Int)(w':World),bB Tryz.prog fp [x] w' λe w''=>e=Value.bool (p x)/\Ext w' w''):
  ae 102 #[v,td b,fp] w λe w'=>e=Value.bool (iI V b p)/\Ext w w':=by
 apply Yw.vc;intro w0 e0;have x0:=aQ e0;have z0:=fj e0;refine (Yu (hV.ext x0) hv b fp hfp p hp).mono ?_;rintro e w1 ⟨c,rfl,x1⟩;have z1:=x1.size;refine ⟨_,_,_,_,rfl,x1.heap aa,λw6 e6 w7 e7=>⟨rfl,(x0.tr x1).tr ((aQ e6).ab e7 (ak _))⟩⟩
def o5{v:Value}{V:Ce->Int}{w:World}(hV:Tl v V w)(hv:lF v=[])(b:Bx):ae 46 #[v,td b] w λe w'=>e=Value.bool (iI V b ao)/\Ext w w':=by
 apply JB.vc;intro w0 e0;have x0:=aQ e0;have z0:=fj e0;refine (He (hV.ext x0) hv b (.func (.func 103) #[] #[]) rfl ao λx w'=>cH (by kernel_rfl) rfl ((sk x w').mono ?_)).mono ?_
 ·rintro e w'' ⟨rfl,rfl⟩;exact ⟨rfl,Ext.cG _⟩
 rintro e w1 ⟨rfl,x1⟩;exact ⟨_,rfl,x1.heap aa,rfl,x0.tr x1⟩
def nL{v:Value}{V:Ce->Int}{w:World}(hV:Tl v V w)(hv:lF v=[])(b:Bx):ae 49 #[v,td b] w λe w'=>e=Value.bool (iI V (jB b) ao)/\Ext w w':=by apply MH.vc;intro w0 e0;have x0:=aQ e0;have z0:=fj e0;refine (T7 b w0).mono ?_;rintro e w1 ⟨rfl,x1⟩;refine ⟨_,_,_,_,_,_,rfl,x1.heap aa,(o5 (hV.ext (x0.tr x1)) hv (jB b)).mono ?_⟩;rintro e w8 ⟨rfl,x8⟩;have z1:=x1.size;exact ⟨_,rfl,x8.heap aa,rfl,x0.tr (x1.tr x8)⟩
abbrev rZ:TypeId:=56
abbrev jF:TypeId:=111
abbrev cM:=dw ×(Int × Int × Bool)
abbrev G8(x:cM):LV:=[.int .i64 x.1.aq.1,.int .i64 x.1.aq.2.1,.int .i64 x.1.aq.2.2,.int .i64 x.1.speed.1,.int .i64 x.1.speed.2.1,.int .i64 x.1.speed.2.2,.int .i64 x.1.wd,.int .i64 x.1.ht,.bool x.1.fG,.int .i64 x.2.1,.int .i64 x.2.2.1,.bool x.2.2.2]
abbrev pA(a:Option Nat):Value:=.pointer (a.map λb=>⟨b,0,none⟩)
structure EL(w:World)(av:List (Option Nat))(L:List (Option cM)):Prop where
 n:av.length=16
 m:L.length=16
 s:∀(i a:Nat),av[i]? =some (some a)->∃x,L[i]? =some (some x)/\Row w a (G8 x) jF
 z:∀i:Nat,av[i]? =some none->L[i]? =some none
 d:∀(i j a:Nat),av[i]? =some (some a)->av[j]? =some (some a)->i=j
def EF(F:Nat->Prop)(w:World)(g s o t:Nat)(M:Sm)(occ:Value)(L:List (Option cM)):Prop:=
 ∃(Fs:Nat->Prop)(av:List (Option Nat)),Row w g (.pointer (aD s)::av.map pA) rZ/\SF Fs w s o t M occ/\EL w av L/\F=λi=>i=g\/Fs i\/some i ∈ av
abbrev gJ(F:Nat->Prop)(w:World)(g s o t:Nat)(M:Sm)(occ:Value)(L:List (Option cM))(w':World):Prop:=∃F',EF F' w' g s o t M occ L/\aJ F F' w w'
def lA:(Gq rZ/\rZ≠sW/\rZ≠lI/\rZ≠Ck/\rZ≠Q.kL/\rZ≠Q.cF/\rZ≠rF)/\(Gq jF/\jF≠sW/\jF≠lI/\jF≠Ck/\jF≠Q.kL/\jF≠Q.cF/\jF≠rF)/\rZ≠jF:=by decide
def pS{av:List (Option Nat)}{a:Nat}(h:some a ∈ av):∃i:Nat,av[i]? =some (some a):=KJ.1 h
section
variable {F F':Nat->Prop} {w w':World} {g s o t:Nat} {M M':Sm} {occ:Value} {L:List (Option cM)}
def EL.same{av:List (Option Nat)}(h:EL w av L)(hk:∀a,some a ∈ av->w'.heap[a]? =w.heap[a]?):EL w' av L:=
 ⟨h.n,h.m,λi a hi=>by obtain ⟨x,h1,h2⟩:=h.s i a hi;exact ⟨x,h1,h2.same (hk a (aO hi))⟩,h.z,h.d⟩
def EL.lt{av:List (Option Nat)}(h:EL w av L){a:Nat}(ha:some a ∈ av):a<w:=by obtain ⟨i,hi⟩:=pS ha;obtain ⟨x,-,h2⟩:=h.s i a hi;exact h2.lt
def EF.lt(h:EF F w g s o t M occ L){i:Nat}(hi:F i):i<w:=by
 obtain ⟨Fs,av,h1,h2,h3,rfl⟩:=h;rcases hi with rfl|hi|hi
 ·exact h1.lt
 ·exact h2.lt hi
 ·exact h3.lt hi
def EF.same(h:EF F w g s o t M occ L)(hk:∀i,F i->w'.heap[i]? =w.heap[i]?):EF F w' g s o t M occ L:=by obtain ⟨Fs,av,h1,h2,h3,rfl⟩:=h;exact ⟨Fs,av,h1.same (hk _ (.inl rfl)),h2.same λi hi=>hk i (.inr (.inl hi)),h3.same λa ha=>hk a (.inr (.inr ha)),rfl⟩
def EF.ext(h:EF F w g s o t M occ L)(x:Ext w w'):EF F w' g s o t M occ L:=h.same λ_ hi=>x.heap (h.lt hi)
def EF.xz(h:EF F w g s o t M occ L):∃Fs,SF Fs w s o t M occ/\Vc.ld w (af (aD g) 0)=some (.pointer (aD s))/\(∀i,Fs i->F i)/\∀{w':World} {M':Sm} {occ':Value},mC Fs w s o t M' occ' w'->gJ F w g s o t M' occ' L w':=by
 obtain ⟨Fs,av,h1,h2,h3,rfl⟩:=h;refine ⟨Fs,h2,h1.at 0 rfl,λi hi=> .inr (.inl hi),?_⟩;rintro w' M' occ' ⟨F',h',ht⟩;have ng:¬Fs g:=h2.jf h1 lA.1.1 lA.1.2.1 lA.1.2.2.1 lA.1.2.2.2.1 lA.1.2.2.2.2.1 lA.1.2.2.2.2.2.1 lA.1.2.2.2.2.2.2;have na:∀a,some a ∈ av->¬Fs a:=λa ha=>by obtain ⟨i,hi⟩:=pS ha;obtain ⟨x,-,hr⟩:=h3.s i a hi;exact h2.jf hr lA.2.1.1 lA.2.1.2.1 lA.2.1.2.2.1 lA.2.1.2.2.2.1 lA.2.1.2.2.2.2.1 lA.2.1.2.2.2.2.2.1 lA.2.1.2.2.2.2.2.2
 refine ⟨_,⟨F',av,ht.mod.row h1 ng,h',h3.same λa ha=>ht.mod.same a (h3.lt ha) (na a ha),rfl⟩,ht.mod.mono λi _ hi=> .inr (.inl hi),λi hi=> ?_⟩;rcases hi with hi|hi|hi
 ·exact .inl (.inl hi)
 ·exact (ht.sub i hi).imp (λq=> .inr (.inl q)) id
 ·exact .inl (.inr (.inr hi))
def EF.row(h:EF F w g s o t M occ L):∃av,Row w g (.pointer (aD s)::av.map pA) rZ/\EL w av L/\F g/\(∀a,some a ∈ av->F a)/\∀{w':World} {av':List (Option Nat)} {L':List (Option cM)},Mod (λi=>i=g\/some i ∈ av) w w'->Row w' g (.pointer (aD s)::av'.map pA) rZ->EL w' av' L'->(∀a,some a ∈ av'->some a ∈ av\/w.heap.size<=a)->gJ F w g s o t M occ L' w':=by
 obtain ⟨Fs,av,h1,h2,h3,rfl⟩:=h;refine ⟨av,h1,h3,.inl rfl,λa ha=> .inr (.inr ha),?_⟩;intro w' av' L' hm hr he fa;have ng:¬Fs g:=h2.jf h1 lA.1.1 lA.1.2.1 lA.1.2.2.1 lA.1.2.2.2.1 lA.1.2.2.2.2.1 lA.1.2.2.2.2.2.1 lA.1.2.2.2.2.2.2;have na:∀a,some a ∈ av->¬Fs a:=λa ha=>by obtain ⟨i,hi⟩:=pS ha;obtain ⟨x,-,hr⟩:=h3.s i a hi;exact h2.jf hr lA.2.1.1 lA.2.1.2.1 lA.2.1.2.2.1 lA.2.1.2.2.2.1 lA.2.1.2.2.2.2.1 lA.2.1.2.2.2.2.2.1 lA.2.1.2.2.2.2.2.2
 refine ⟨_,⟨Fs,av',hr,h2.same λi hi=>hm.same i (h2.lt hi) λq=> ?_,he,rfl⟩,hm.mono λi _ hi=>hi.elim .inl λq=> .inr (.inr q),λi hi=> ?_⟩
 ·rcases q with rfl|q
  ·exact ng hi
  ·exact na i q hi
 ·rcases hi with hi|hi|hi
  ·exact .inl (.inl hi)
  ·exact .inl (.inr (.inl hi))
  ·exact (fa i hi).imp (λq=> .inr (.inr q)) id
def EF.tl(h:EF F w g s o t M occ L):Tl (.func (.func 83) #[t] #[]) (gz M.T.2) w:=by obtain ⟨Fs,h1,-,-⟩:=h.xz;exact h1.tl
def mR(h:EF F w g s o t M occ L):ae 47 #[g] w λe w'=>e=Value.func (.func 83) #[t] #[]/\w'=w:=by obtain ⟨Fs,h1,h2,-,-⟩:=h.xz;obtain ⟨Fw,hW,-,-⟩:=h1.world;apply yx.vc;refine ⟨_,h2,(gL h1).mono ?_⟩;rintro e w1 ⟨rfl,rfl⟩;refine ⟨_,rfl,(iH hW).mono ?_⟩;rintro e w2 ⟨rfl,rfl⟩;exact ⟨_,rfl,rfl,rfl⟩
def YT(h:EF F w g s o t M occ L):ae 41 #[g] w λe w'=>e=Value.pointer (aD s)/\w'=w:=by obtain ⟨Fs,h1,h2,-,-⟩:=h.xz;apply AN.vc;exact ⟨_,h2,rfl,rfl⟩
def AO(v:Ce):rT (bj v)/\X2 (pos (bj v)):=by have h:=wx v;unfold rT dJ X2 Go.cg.pos;simp only;omega
abbrev pP(M:Sm)(b:dw):Bool:=Gs M.T.2 (bj b.aq)
def DP(h:EF F w g s o t M occ L)(b:dw):ae 45 #[g,FJ b] w λe w'=>e=Value.bool (pP M b)/\Ext w w':=by
 apply wS.vc;intro w0 e0;have x0:Ext w w0.drew:=(aQ e0).drew;have z0:w0.drew.heap.size=w.heap.size+1:=by show w0.heap.size=_;rw [e0];simp
 have r0:Row w0.drew w (kc b) BV:=by rw [e0];exact (Row.new w [_,_,_,_,_,_,_,_,_] _).ext (Ext.dr _)
 obtain ⟨Fs,h1,h2,-,-⟩:=(h.ext x0).xz;refine ⟨_,h2,(gL h1).mono ?_⟩;rintro e w2 ⟨rfl,hw⟩;subst hw;refine ⟨_,rfl,rfl,ti r0 rfl rfl rfl,(AF b.aq w0.drew).mono ?_⟩;rintro e w4 ⟨rfl,x4⟩;obtain ⟨Fw,hW,-,-⟩:=(h1.ext x4).world;refine ⟨_,_,_,rfl,x4.heap aa,(vb hW (bj b.aq) (AO _).1 (AO _).2).mono ?_⟩;rintro e w8 ⟨rfl,x8⟩;have z4:=x4.size;exact ⟨_,rfl,x8.heap aa,rfl,x0.tr (x4.tr x8)⟩
end
def within(v:Ce)(m:Int):Bool:=decide (-m<=min (min v.1 v.2.1) v.2.2) && decide (max (max v.1 v.2.1) v.2.2<=m)
def dw.may(b:dw):Bool:=decide (2<=b.wd) &&(decide (b.wd<=131072) &&(decide (1<=b.ht) &&(decide (b.ht<=262144) &&(within b.aq 70368744177664 && within b.speed 262144))))
def DQ(v:Ce)(m:Int)(hm:0<=m/\m<=140737488355328)(w:World):ae 99 #[eg v,m] w λe w'=>e=Value.bool (within v m)/\Ext w w':=by
 apply Qb.vc;intro w0 e0;have x0:=aQ e0;have e1:(if v.2.2<(if v.2.1<v.1 then v.2.1 else v.1) then v.2.2 else (if v.2.1<v.1 then v.2.1 else v.1))=min (min v.1 v.2.1) v.2.2:=by
  repeat' split
  all_goals omega
 have e2:(if v.2.2>(if v.2.1>v.1 then v.2.1 else v.1) then v.2.2 else (if v.2.1>v.1 then v.2.1 else v.1))=max (max v.1 v.2.1) v.2.2:=by
  repeat' split
  all_goals omega
 have e3:aw (0-m)= -m:=by rw [wI];omega
 rw [e1,e2,e3];unfold within;apply Br.mk<;>intro h
 ·have h:=cS h;exact ⟨by rw [decide_eq_true h,qI],x0⟩
 ·have h:=cS h;exact ⟨by rw [decide_eq_false h,DR],x0⟩
def Qc(b:dw)(w:World):ae 44 #[FJ b] w λe w'=>e=Value.bool b.may/\Ext w w':=by
 apply adh.vc;intro w0 e0;have x0:=aQ e0;have z0:=fj e0;unfold dw.may;refine Br.mk (λh1=>Br.mk (λh2=>Br.mk (λh3=>Br.mk (λh4=>(DQ b.aq _ aA w0).mono ?_) (λh4=> ?_)) (λh3=> ?_)) (λh2=> ?_)) (λh1=> ?_)
 ·rintro e w1 ⟨rfl,x1⟩;have z1:=x1.size;have h1:=cS h1;have h2:=cS h2;have h3:=cS h3;have h4:=cS h4;rw [decide_eq_true h1,decide_eq_true h2,decide_eq_true h3,decide_eq_true h4];refine ⟨_,rfl,x1.heap aa,Br.mk (λh5=>(DQ b.speed _ aA w1).mono ?_) (λh5=>⟨by rw [h5];rfl,x0.tr x1⟩)⟩;rintro e w3 ⟨rfl,x3⟩;exact ⟨_,rfl,x3.heap aa,by rw [h5];rfl,x0.tr (x1.tr x3)⟩
 ·have h4:=cS h4;exact ⟨by rw [decide_eq_false h4];simp,x0⟩
 ·have h3:=cS h3;exact ⟨by rw [decide_eq_false h3];simp,x0⟩
 ·have h2:=cS h2;exact ⟨by rw [decide_eq_false h2];simp,x0⟩
 ·have h1:=cS h1;exact ⟨by rw [decide_eq_false h1];simp,x0⟩
def MB{w:World}{g:Nat}{p:Value}{av:List (Option Nat)}{τ:TypeId}(hr:Row w g (p::av.map pA) τ){k:Nat}{a:Option Nat}(ha:av[k]? =some a):Vc.ld w (af (af (aD g) 1) (((k:Nat):Int).toNat*1))=some (pA a):=by rw [dn,dQ,As];refine hr.at (1+k) ?_;rw [u9,DS,aS,ha];rfl
def yf{w:World}{g:Nat}{p:Value}{av:List (Option Nat)}{τ:TypeId}(hr:Row w g (p::av.map pA) τ)(hn:av.length=16):
  ae 43 #[.slice (aI (af (some ⟨g,0,none⟩) 1) 0 16 1) (16-0) (16-0),.pointer none] w λe w'=>e=Value.int .i64 (bU (λa:Option Nat=>a.isNone) av)/\w'=w:=by
 apply (A2.vc (a0:=⟨aI (af (some ⟨g,0,none⟩) 1) 0 16 1,16-0,16-0⟩));rw [dz];refine ⟨λn x wr=>∃k:Nat,x=k/\k+n=16/\wr=w/\∀j,j<k->∀y,av[j]? =some y->y.isNone=false,⟨16,0,rfl,rfl,rfl,λj hj=>by omega⟩,?_⟩;rintro n us x wr ⟨k,rfl,hk,rfl,l8⟩;apply Br.mk<;>intro hb
 ·have hb:(k:Int)<((16-0:Nat):Int):=by simpa using hb
  obtain ⟨a,ha⟩:=bq (l:=av) (i:=k) aa;refine ⟨⟨rfl,aa,hb⟩,_,MB hr ha,?_⟩
  cases a with
  |none=>exact ⟨congrArg (λn=>Ending.returned (.int .i64 n)) (pB ha rfl l8).symm,rfl⟩
  |some b=>
   refine bz.2 ⟨λp hp=>by rw [List.mem_singleton.1 hp],?_⟩;have wk:=ov (j:=k);refine gd rfl ⟨n-1,aa,k+1,wk,aa,rfl,λj hj y hy=> ?_⟩;by_cases q:j<k
   ·exact l8 j q y hy
   ·rw [show j=k from by omega,ha] at hy;rw [<-Option.some.inj hy];rfl
 ·have hb:¬(k:Int)<((16-0:Nat):Int):=by simpa using hb
  refine ⟨congrArg (λn=>Ending.returned (.int .i64 n)) (jE λy hy=> ?_).symm,rfl⟩;obtain ⟨j,hj⟩:=List.mem_iff_getElem?.1 hy;have:=(bZ.1 hj).1;exact l8 j aa y hj
abbrev qN(L:List (Option cM)):Int:=bU (λx:Option cM=>x.isNone) L
section
variable {F F':Nat->Prop} {w w':World} {g s o t:Nat} {M M':Sm} {occ:Value} {L:List (Option cM)}
def EL.A3{av:List (Option Nat)}(h:EL w av L)(i:Nat):(av[i]? =some none ↔ L[i]? =some none):=by
 refine ⟨h.z i,λhl=> ?_⟩;have hi:i<16:=by rw [<-h.m];exact (bZ.1 hl).1
 obtain ⟨a,ha⟩:=bq (l:=av) (i:=i) (by rw [h.n];exact hi)
 cases a with
 |none=>exact ha
 |some a=>
  obtain ⟨x,hx,-⟩:=h.s i a ha;rw [hx] at hl
  cases hl
def EL.free{av:List (Option Nat)}(h:EL w av L):bU (λa:Option Nat=>a.isNone) av=qN L:=by
 rcases eM (λa:Option Nat=>a.isNone) av with ⟨e,l8⟩|⟨k,x,hx,hq,e,iQ⟩
 ·rw [e];refine (jE λy hy=> ?_).symm;obtain ⟨i,hi⟩:=KJ.1 hy
  cases y with
  |some y=>rfl
  |none=>
   have:=l8 none (aO ((h.A3 i).2 hi))
   cases this
 ·rw [e]
  cases x with
  |some x=>cases hq
  |none=>
   refine (pB ((h.A3 k).1 hx) rfl λj hj y hy=> ?_).symm
   cases y with
   |some y=>rfl
   |none=>exact absurd (iQ j hj none ((h.A3 j).2 hy)) bg
def cQ(M:Sm)(L:List (Option cM))(b:dw):Int × Int × List (Option cM):=
 if b.may=false then (-1,1,L) else if qN L<0 then (-1,8,L) else if pP M b=false then (-1,11,L) else if iI (gz M.T.2) b.box ao=true then (-1,12,L)
 else (qN L,0,L.set (qN L).toNat (some ({b with fG:=iI (gz M.T.2) (jB b.box) ao},(0,0,false))))
abbrev fH(aq:Ce)(wd ht:Int):dw:=⟨aq,(0,0,0),wd,ht,false⟩
def EF.res(h:EF F w g s o t M occ L)(x:Ext w w'):gJ F w g s o t M occ L w':=⟨F,h.ext x,aJ.aC x⟩
def HF(h:EF F w g s o t M occ L)(aq:Ce)(wd ht:Int)(hw:dJ wd):ae 11 #[.pointer (some ⟨g,0,none⟩),eg aq,wd,ht] w λe w'=>
  e=Value.tuple #[.int .i64 (cQ M L (fH aq wd ht)).1,.int .i64 (cQ M L (fH aq wd ht)).2.1]/\gJ F w g s o t M occ (cQ M L (fH aq wd ht)).2.2 w':=by
 apply wY.vc;intro w0 e0 w1 e1 w2 e2;have x0:=aQ e0;have z0:=fj e0;have x2:Ext w0 w2:=(aQ e1).ab e2 (ak _);have z2:=Eu e1 e2;have r2:Row w2 w0 (kc (fH aq wd ht)) BV:=by rw [e2];exact Row.set (by rw [e1];exact Row.new w0 [_,_,_,_,_,_,_,_,_] _) _
 have xh:=x0.tr x2;obtain ⟨av,c9,kq,-⟩:=(h.ext xh).row;refine (yf c9 kq.n).mono ?_;rintro e w3 ⟨rfl,L5⟩;subst L5;rw [kq.free];refine ⟨_,rfl,rfl,rfl,(Qc (fH aq wd ht) w3).mono ?_⟩;rintro e w5 ⟨rfl,x5⟩;have z5:=x5.size;refine ⟨_,rfl,x5.k,x5.k,Br.mk (λq=> ?_) (λq=>Br.mk (λq2=> ?_) (λq2=>(DP (h.ext (xh.tr x5)) (fH aq wd ht)).mono ?_))⟩
 ·have q:(fH aq wd ht).may=false:=by simpa using q
  unfold cQ;rw [if_pos q];exact ⟨rfl,h.res (xh.tr x5)⟩
 ·have q:¬(fH aq wd ht).may=false:=by simpa using q
  have q2:qN L<0:=by simpa using q2
  unfold cQ;rw [if_neg q,if_pos q2];exact ⟨rfl,h.res (xh.tr x5)⟩
 have q:¬(fH aq wd ht).may=false:=by simpa using q
 have q2:¬qN L<0:=by simpa using q2
 unfold cQ;rw [if_neg q,if_neg q2];rintro e w7 ⟨rfl,x7⟩;have z7:=x7.size;have zd7:=m7 w7;have x07:=xh.tr (x5.tr x7);refine ⟨_,rfl,x7.k,x7.k,Br.mk (λq3=> ?_) (λq3=>(mR (h.ext (x07.drew))).mono ?_)⟩
 ·have q3:pP M (fH aq wd ht)=false:=by simpa using q3
  rw [if_pos q3];exact ⟨rfl,h.res x07⟩
 have q3:¬pP M (fH aq wd ht)=false:=by simpa using q3
 rw [if_neg q3];rintro e w9 ⟨rfl,hw9⟩;subst hw9;have r9:=r2.ext ((x5.tr x7).drew);have h9:=h.ext x07.drew;refine ⟨_,rfl,rfl,rfl,Lo.wv r9,(kY (fH aq wd ht) hw w7.drew).mono ?_⟩;rintro e bw ⟨rfl,bK⟩;have z11:=bK.size;refine ⟨_,_,_,_,_,_,rfl,bK.k,bK.k,(o5 (h9.ext bK).tl rfl (fH aq wd ht).box).mono ?_⟩;rintro e dI ⟨rfl,dc⟩;have z18:=dc.size;have VY:=x07.drew.tr (bK.tr dc);refine ⟨_,rfl,dc.k,dc.k,Br.mk (λq4=> ?_) (λq4=>(mR (h.ext VY.drew)).mono ?_)⟩
 ·rw [if_pos q4];exact ⟨rfl,h.res VY⟩
 rw [if_neg (by rw [q4];decide)];rintro e fx ⟨rfl,azr⟩;subst azr;have r20:=r9.ext ((bK.tr dc).drew);have h20:=h.ext VY.drew;have aHd:=m7 dI;refine ⟨_,rfl,rfl,rfl,Lo.wv r20,(kY (fH aq wd ht) hw dI.drew).mono ?_⟩;rintro e dm ⟨rfl,fN⟩;have z22:=fN.size;refine ⟨_,_,_,_,_,_,rfl,fN.k,fN.k,(nL (h20.ext fN).tl rfl (fH aq wd ht).box).mono ?_⟩;rintro e eG ⟨rfl,jk⟩;have z29:=jk.size;have asP:=VY.drew.tr (fN.tr jk);refine ⟨_,rfl,jk.k,jk.k,λgS e31 qT VZ=> ?_⟩;generalize iC:iI (gz M.T.2) (jB (fH aq wd ht).box) ao=st at*;have lp:Ext w gS.drew:=(asP.ab e31 (by omega)).drew;have z31:gS.drew.heap.size=eG.heap.size:=by show gS.heap.size=_;rw [e31,setRow_size]
 have lr:Ext w qT:=lp.br VZ;have z32:qT.heap.size=eG.heap.size+1:=by rw [VZ];simp [z31]
 have r32:Row qT gS.drew.heap.size (G8 ({fH aq wd ht with fG:=st},(0,0,false))) jF:=Row.nw VZ;obtain ⟨av,hrow0,hel0,hFg,hFa,bf⟩:=h.row;have c9:=hrow0.ext lr;have kq:=hel0.same (w':=qT) λa ha=>lr.heap (hel0.lt ha)
 have hgl:=h.lt hFg;have Jm:=kq.free;obtain ⟨k,hk,hkL,hka⟩:∃k:Nat,qN L=k/\L[k]? =some none/\av[k]? =some none:=by
  rcases eM (λx:Option cM=>x.isNone) L with ⟨e,-⟩|⟨k,x,hx,hq,e,-⟩
  ·exact absurd (show qN L= -1 from e) (by omega)
  ·cases x with
   |some x=>cases hq
   |none=>exact ⟨k,e,hx,(kq.A3 k).2 hx⟩
 have xk:k<16:=by rw [<-kq.m];exact (bZ.1 hkL).1
 rw [hk];have hpb:bk (af (af (some ⟨g,0,none⟩) 1) (((k:Nat):Int).toNat*1))=some g:=by rw [cP,cP];rfl
 obtain ⟨p1,p2⟩:=c9.ic (j:=1+k) (v:=.pointer (some ⟨gS.drew.heap.size,0,none⟩)) (by simp [kq.n];omega) rfl;have hpp:af (af (some ⟨g,0,none⟩) 1) (((k:Nat):Int).toNat*1)=af (some ⟨g,0,none⟩) (1+k):=by rw [dn,dQ,Nat.mul_one]
 have hgn:g<w:=hgl;rw [hpb];refine ⟨aa,aa,⟨rfl,by rw [hpp];exact p1⟩,λq=>by have:=Option.some.inj q;omega,λq=>by have:=Option.some.inj q;omega,λq=>by have:=Option.some.inj q;omega,λfL e33=>⟨rfl,?_⟩⟩;rw [hpp] at e33;obtain ⟨q1,q2⟩:=p2 fL e33;have q1:Row fL g (.pointer (some ⟨s,0,none⟩)::(av.set k (some gS.drew.heap.size)).map pA) rZ:=by
  have e:aP (Value.pointer (some ⟨s,0,none⟩)::av.map pA) (1+k) [.pointer (some ⟨gS.drew.heap.size,0,none⟩)]=.pointer (some ⟨s,0,none⟩)::(av.set k (some gS.drew.heap.size)).map pA:=by show (Value.pointer (some ⟨s,0,none⟩)::av.map pA).set (1+k) _=_;rw [Nat.add_comm,List.set_cons_succ,List.map_set];rfl
  rw [<-e];exact q1
 have halt:∀a,some a ∈ av->a<w.heap.size:=λa ha=>h.lt (hFa a ha)
 have hZ:∀a,some a ∈ av->a≠g:=λa ha q=>by subst q;obtain ⟨i,hi⟩:=pS ha;obtain ⟨x,-,hr⟩:=kq.s i a hi;exact c9.ne hr lA.2.2 rfl
 have ph:∀(i a:Nat),(av.set k (some gS.drew.heap.size))[i]? =some (some a)->(i=k/\a=gS.drew.heap.size)\/(i≠k/\av[i]? =some (some a)):=λi a hi=>by
  by_cases q:i=k
  ·subst q;rw [oM (by rw [kq.n];exact xk)] at hi;exact .inl ⟨rfl,(Option.some.inj (Option.some.inj hi)).symm⟩
  ·rw [List.getElem?_set_ne (Ne.symm q)] at hi;exact .inr ⟨q,hi⟩
 have hE:EL fL (av.set k (some gS.drew.heap.size)) (L.set k (some ({fH aq wd ht with fG:=st},(0,0,false)))):=by
  refine ⟨by rw [iE];exact kq.n,by rw [iE];exact kq.m,λi a hi=> ?_,λi hi=> ?_,λi j a hi hj=> ?_⟩
  ·rcases ph i a hi with ⟨rfl,rfl⟩|⟨q,hi'⟩
   ·refine ⟨_,oM (by rw [kq.m];exact xk),r32.same (q2.same _ (by omega) (by omega))⟩
   ·obtain ⟨x,hx,hr⟩:=kq.s i a hi';exact ⟨x,by rw [List.getElem?_set_ne (Ne.symm q)];exact hx,hr.same (q2.same _ hr.lt (hZ a (aO hi')))⟩
  ·by_cases q:i=k
   ·subst q;rw [oM (by rw [kq.n];exact xk)] at hi
    cases hi
   ·rw [List.getElem?_set_ne (Ne.symm q)] at hi ⊢;exact kq.z i hi
  ·rcases ph i a hi with ⟨rfl,rfl⟩|⟨q,hi'⟩
   ·rcases ph j _ hj with ⟨rfl,-⟩|⟨q',hj'⟩
    ·rfl
    ·have:=halt _ (aO hj');omega
   ·rcases ph j a hj with ⟨rfl,rfl⟩|⟨q',hj'⟩
    ·have:=halt _ (aO hi');omega
    ·exact kq.d i j a hi' hj'
 exact bf ((Mod.aC lr).trans (q2.mono λi _ hi=> .inl hi)) q1 hE λa ha=>by
  obtain ⟨i,hi⟩:=pS ha;rcases ph i a hi with ⟨-,rfl⟩|⟨-,hi'⟩
  ·have:=asP.size;exact .inr (by omega)
  ·exact .inl (aO hi')
end
section
variable {F F':Nat->Prop} {w w':World} {g s o t:Nat} {M M':Sm} {occ:Value} {L:List (Option cM)}
def MX{p:Value}{av:List (Option Nat)}{τ:TypeId}(hr:Row w g (p::av.map pA) τ)(hn:av.length=16)(n:Int):
  ae 50 #[g,n] w λe w'=>∃a:Option Nat,e=(pA a)/\w'=w/\((∃k:Nat,n=k/\k<16/\av[k]? =some a)\/¬(0<=n/\n<16)/\a=none):=by
 apply CX.vc;refine Br.mk (λh=>⟨none,rfl,rfl,.inr ⟨?_,rfl⟩⟩) (λh=>Br.mk (λh2=>⟨none,rfl,rfl,.inr ⟨?_,rfl⟩⟩) (λh2=> ?_))
 ·have h:=cS h;omega
 ·have h2:=cS h2;omega
 ·have h:=cS h;have h2:=cS h2;obtain ⟨k,rfl⟩:∃k:Nat,n=k:=⟨n.toNat,aa⟩;obtain ⟨a,ha⟩:=bq (l:=av) (i:=k) aa;exact ⟨aa,aa,_,MB hr ha,a,rfl,rfl,.inl ⟨k,rfl,aa,ha⟩⟩
def bC(L:List (Option cM))(n:Int):Option cM:=if 0<=n then (L[n.toNat]?).join else none
def qb(L:List (Option cM))(n:Int):Int × List (Option cM):=if (bC L n).isNone then (6,L) else (0,L.set n.toNat none)
def EL.aqp{av:List (Option Nat)}(h:EL w av L){k:Nat}{a:Option Nat}(ha:av[k]? =some a):(bC L k).isNone=a.isNone:=by
 unfold bC;rw [if_pos aa,dQ]
 cases a with
 |none=>rw [h.z k ha];rfl
 |some a=>
  obtain ⟨x,hx,-⟩:=h.s k a ha;rw [hx];rfl
def wG(hL:L.length=16){n:Int}(h:¬(0<=n/\n<16)):bC L n=none:=by
 unfold bC;split
 ·rw [jv aa];rfl
 ·rfl
def ZD(h:EF F w g s o t M occ L)(n:Int):ae 13 #[g,n] w λe w'=>e=Value.int .i64 (qb L n).1/\gJ F w g s o t M occ (qb L n).2 w':=by
 obtain ⟨av,c9,kq,hFg,hFa,bf⟩:=h.row;apply yL.vc;refine (MX c9 kq.n n).mono ?_;rintro e w0 ⟨a,rfl,rfl,hc⟩;refine ⟨_,rfl,?_⟩;unfold qb;rcases hc with ⟨k,rfl,hk,ha⟩|⟨BR,rfl⟩
 ·rw [kq.aqp ha]
  cases a with
  |none=>exact yes rfl ⟨rfl,h.res (Ext.cG _)⟩
  |some a=>
   refine gd rfl ?_;have hpp:af (af (aD g) 1) (((k:Nat):Int).toNat*1)=af (aD g) (1+k):=by rw [dn,dQ,As]
   obtain ⟨p1,p2⟩:=c9.ic (j:=1+k) (v:=.pointer none) (by simp [kq.n];omega) rfl;refine ⟨aa,aa,⟨rfl,by rw [hpp];exact p1⟩,λw2 e2=>⟨rfl,?_⟩⟩;rw [hpp] at e2;obtain ⟨q1,q2⟩:=p2 w2 e2;have q1:Row w2 g (.pointer (aD s)::(av.set k none).map pA) rZ:=by
    have e:aP (Value.pointer (aD s)::av.map pA) (1+k) [.pointer none]=.pointer (aD s)::(av.set k none).map pA:=by show (Value.pointer (aD s)::av.map pA).set (1+k) _=_;rw [u9,WT,jY];rfl
    rw [<-e];exact q1
   have hZ:∀a,some a ∈ av->a≠g:=λa ha q=>by subst q;obtain ⟨i,hi⟩:=pS ha;obtain ⟨x,-,hr⟩:=kq.s i a hi;exact c9.ne hr lA.2.2 rfl
   have ph:∀(i a:Nat),(av.set k none)[i]? =some (some a)->i≠k/\av[i]? =some (some a):=λi a hi=>by
    by_cases q:i=k
    ·subst q;rw [oM (by rw [kq.n];exact hk)] at hi
     cases hi
    ·rw [xK (Ne.symm q)] at hi;exact ⟨q,hi⟩
   show gJ F w0 g s o t M occ (L.set ((k:Nat):Int).toNat none) w2;refine bf (q2.mono λi _ hi=> .inl hi) q1 ⟨by rw [iE];exact kq.n,by rw [iE];exact kq.m,λi a hi=> ?_,λi hi=> ?_,λi j a hi hj=> ?_⟩ λa ha=> ?_
   ·obtain ⟨q,hi'⟩:=ph i a hi;obtain ⟨x,hx,hr⟩:=kq.s i a hi';exact ⟨x,by rw [dQ,xK (Ne.symm q)];exact hx,hr.same (q2.same _ hr.lt (hZ a (aO hi')))⟩
   ·rw [dQ];by_cases q:i=k
    ·subst q;exact oM (by rw [kq.m];exact hk)
    ·rw [xK (Ne.symm q)] at hi ⊢;exact kq.z i hi
   ·exact kq.d i j a (ph i a hi).2 (ph j a hj).2
   ·obtain ⟨i,hi⟩:=pS ha;exact .inl (aO (ph i a hi).2)
 ·rw [wG kq.m BR];exact yes rfl ⟨rfl,h.res (Ext.cG _)⟩
def bn(L:List (Option cM)):List Int:=((List.range 16).filter λi=>(bC L (i:Nat)).isSome).map λi:Nat=>(i:Int)
def WU{α:Type}{l:List α}(h:l.length=16):∃a b c d e f g h i j k m n o p q,l=[a,b,c,d,e,f,g,h,i,j,k,m,n,o,p,q]:=by
 match l,h with
 | [a,b,c,d,e,f,g,h,i,j,k,m,n,o,p,q],_=>exact ⟨a,b,c,d,e,f,g,h,i,j,k,m,n,o,p,q,rfl⟩
def ZE(h:EF F w g s o t M occ L):ae 12 #[g] w λe w'=>∃sl:Sl,e=Value.slice sl.a sl.n sl.c/\ar w 3 1 w' sl ((bn L).map λi=> [.int .i64 i])/\Ext w w':=by
 obtain ⟨av,c9,kq,-⟩:=h.row;apply yM.vc;have ko:ah w (af (aD g) 1) 0 (av.map pA):=by rw [aV];exact c9.bI λj hj=>by rw [show 0+1+j=j+1 from by omega,DS]
 have eI:∀k:Nat,k<16->∃a:Option Nat,(av.map pA)[((k:Nat):Int).toNat*1]? =some (pA a)/\(bC L k).isNone=a.isNone:=λk hk=>by obtain ⟨a,ha⟩:=bq (l:=av) (i:=k) (by rw [kq.n];exact hk);exact ⟨a,by rw [dQ,As,aS,ha];rfl,kq.aqp ha⟩
 obtain ⟨b0,b1,b2,b3,b4,b5,b6,b7,b8,b9,b10,b11,b12,Oi,b14,Te,rfl⟩:=WU kq.n;refine ⟨_,_,_,_,_,_,_,_,_,_,_,_,_,_,_,_,ko,λn x sl wr=>∃k:Nat,x=k/\k+n=16/\ar w 3 1 wr sl ((((List.range k).filter λi=>(bC L (i:Nat)).isSome).map λi:Nat=>(i:Int)).map λi=> [.int .i64 i])/\Ext w wr,⟨16,0,rfl,rfl,ar.nil,Ext.cG _⟩,?_⟩;rintro n us x sl wr ⟨k,rfl,hk,ho,xr⟩;have zr:=xr.size;apply Br.mk<;>intro hb
 ·replace hb:=nh hb;obtain ⟨a,ha,hl⟩:=eI k aa;have wk:=ov (j:=k);have dp:sl.n<=16:=by have h1:=(ho.rd (show 0<1 by decide)).n;have h2:=Au (λi=>(bC L (i:Nat)).isSome) (List.range k);rw [aL,aL] at h1;rw [DT] at h2;omega
  refine ⟨⟨aa,aa⟩,_,ha,Br.mk (λhq=>λgC J5=> ?_) (λhq=> ?_)⟩
  ·subst J5;have hsome:(bC L (k:Nat)).isSome=true:=by
    cases a with
    |none=>exact absurd hq bg
    |some a=>
     cases hL:bC L k with
     |none=>rw [hL] at hl;cases hl
     |some y=>rfl
   obtain ⟨J7,hres8⟩:=ho.j9 (bytes:=8) (news:=[.int .i64 (k:Int)]) (.cells #[.int .i64 (k:Int)] 3) aa rfl (vd _ _) aa aa;refine ⟨J7,λs25 gx az6=> ?_⟩;obtain ⟨f8,FW,hn8,x8,LX,-⟩:=hres8 s25 gx az6;refine ⟨f8,n-1,aa,k+1,wk,aa,?_,(Below.trans xr x8:Below w w gx)⟩;rw [DU,tV,bJ,bJ,Pu (by simpa using hsome)];exact FW
  ·have hnone:(bC L (k:Nat)).isSome=false:=by
    cases a with
    |some a=>exact absurd hq bg
    |none=>
     cases hL:bC L k with
     |none=>rfl
     |some y=>rw [hL] at hl;cases hl
   refine ⟨n-1,aa,k+1,wk,aa,?_,xr⟩;rw [DU,tV,bJ,bJ,Px (by rw [hnone];decide)];simpa using ho
 ·replace hb:=nC hb;have xk:k=16:=by omega
  subst xk;exact ⟨sl,rfl,ho,xr⟩
end
abbrev M0e(ag cap room bud:Int):Sm:=⟨ag,min (max cap 1) 16,(Mh room,[]),[],⟨4096,0,[]⟩,min (max bud 1) 64,0,[]⟩
abbrev Ye:List (Option cM):=List.replicate 16 none
def Ll(ag cap room bud:Int)(w:World):ae 38 #[.agg #[ag,cap,room,bud]] w λe w'=>
  ∃(g s o t:Nat)(F:Nat->Prop),e=Value.pointer (aD g)/\EF F w' g s o t (M0e ag cap room bud) (.func (.func 98) #[] #[]) Ye/\Ext w w'/\∀i,F i->w.heap.size<=i:=by
 apply UQ.vc;intro w0 e0;have x0:Ext w w0.drew:=(aQ e0).drew;have z0:w0.drew.heap.size=w.heap.size+1:=by show w0.heap.size=_;rw [e0];simp
 have r0:∃τ,Row w0.drew w [ag,cap,room,bud] τ:=⟨_,by rw [e0];exact (Row.new w [_,_,_,_] _).ext (Ext.dr _)⟩;obtain ⟨τ,r0⟩:=r0;refine (KD ag cap room w0.drew).mono ?_;rintro e w1 ⟨o,t,Fw,rfl,hW,x1,fW⟩;have z1:=x1.size;refine ⟨_,rfl,x1.heap aa,oP (r0.ext x1) rfl,(D6 hW bud).mono ?_⟩;rintro e w3 ⟨s,F,rfl,hS,x3,fS⟩;have z3:=x3.size;refine ⟨_,rfl,x3.heap aa,λw5 e5=> ?_⟩;have x5:=aQ e5;have r5:Row w5 w3 (.pointer (aD s)::(List.replicate 16 none).map pA) rZ:=Row.nw e5;have l8:∀(i a:Nat),(List.replicate 16 (none:Option Nat))[i]? =some (some a)->False:=λi a hi=>by
  have:=List.eq_of_mem_replicate (aO hi)
  cases this
 have kq:EL w5 (List.replicate 16 none) Ye:=⟨rfl,rfl,λi a hi=>(l8 i a hi).elim,λi hi=>List.getElem?_replicate_of_lt (by
  have IV:=(bZ.1 hi).1;rw [HP] at IV;exact IV),λi j a hi=>(l8 i a hi).elim⟩
 refine ⟨w3.heap.size,s,o,t,_,rfl,⟨F,_,r5,hS.ext x5,kq,rfl⟩,x0.tr (x1.tr (x3.tr x5)),λi hi=> ?_⟩;rcases hi with rfl|hi|hi
 ·omega
 ·rcases fS i hi with q|q
  ·have:=fW i q;omega
  ·omega
 ·cases List.eq_of_mem_replicate hi
def ami(ag limit room:Int){l:List En}(hl:(l.length:Int)<limit){p:Po}(hp:oN p)(hn:∀e ∈ l,e.1≠p):yh ag limit (Mh room) l p=((Mh room,l++ [(p,made ag p,false,0)]),0):=by
 have hr:dC limit (Mh room) l=((Mh room,l),0):=by unfold dC;rw [if_pos hl]
 have hd:(lu (Mh room) (lO p)).1=[]:=by unfold Mh;rw [WW]
 have hf:bU (λe:En=>e.1==p) l= -1:=jE λy hy=>by simpa using hn y hy
 unfold yh;rw [if_neg (by simpa using hp),if_neg (by rw [hf];decide),hr,if_neg bg];simp only [hd,Vs]
def tY:List Po:=[(-1,-1),(-1,0),(-1,1),(0,-1),(0,0),(0,1),(1,-1),(1,0),(1,1)]
def l9(ag:Int)(k:Nat):List En:=(tY.take k).map λp=>(p,made ag p,false,0)
def amj(ag:Int){k:Nat}(hk:k<=9):(l9 ag k).length=k:=by unfold l9;rw [aL,cY];have:tY.length=9:=rfl;omega
def FI{k:Nat}{p:Po}(hp:tY[k]? =some p):oN p/\p ∉ tY.take k:=by
 have hk:k<9:=(bZ.1 hp).1;have:k=0\/k=1\/k=2\/k=3\/k=4\/k=5\/k=6\/k=7\/k=8:=by omega
 rcases this with rfl|rfl|rfl|rfl|rfl|rfl|rfl|rfl|rfl<;>(cases hp;decide)
def ais(ag:Int){k:Nat}{p:Po}(hp:tY[k]? =some p):l9 ag (k+1)=l9 ag k++ [(p,made ag p,false,0)]:=by unfold l9;rw [dy,hp,bJ];rfl
def aqJ(ag cap room:Int)(hc:9<=cap){k:Nat}{p:Po}(hp:tY[k]? =some p):yh ag cap (Mh room) (l9 ag k) p=((Mh room,l9 ag (k+1)),0):=by
 have hk:k<9:=(bZ.1 hp).1;rw [ami ag cap room (by rw [amj ag aa];omega) (FI hp).1 (λe he q=>by obtain ⟨x,hx,rfl⟩:=aU.1 he;exact (FI hp).2 (q▸hx)),ais ag hp]
def ait{i j:Nat}(hi:i<3)(hj:j<3):tY[3*i+j]? =some (-1+(i:Int),-1+(j:Int)):=by
 have h1:i=0\/i=1\/i=2:=by omega
 have h2:j=0\/j=1\/j=2:=by omega
 rcases h1 with rfl|rfl|rfl<;>rcases h2 with rfl|rfl|rfl<;>rfl
def IE{F:Nat->Prop}{w:World}{o t:Nat}{ag cap room:Int}(h:WF F w o t ag cap (Mh room,l9 ag 0) [])(hc:9<=cap):
  ae 42 #[o] w λe w'=>e=true/\Gr F w o t ag cap (Mh room,l9 ag 9) [] w':=by
 apply VI.vc;refine (kU h).mono ?_;rintro e w0 ⟨rfl,rfl⟩;refine ⟨_,rfl,gd rfl ⟨λn x wr=>∃(i:Nat)(F':Nat->Prop),x= -1+i/\i+n=3/\WF F' wr o t ag cap (Mh room,l9 ag (3*i)) []/\aJ F F' w0 wr,⟨3,0,F,rfl,rfl,h,aJ.refl _ _⟩,?_⟩⟩;rintro n us x wr ⟨i,F1,rfl,hi,h1,t1⟩;apply Br.mk<;>intro hb
 ·have hb:=cS hb;refine ⟨λm y wr=>∃(j:Nat)(F':Nat->Prop),y= -1+j/\j+m=3/\WF F' wr o t ag cap (Mh room,l9 ag (3*i+j)) []/\aJ F F' w0 wr,⟨3,0,F1,rfl,rfl,h1,t1⟩,?_⟩;rintro m zF y VN ⟨j,F2,rfl,hj,h2,t2⟩;apply Br.mk<;>intro j8
  ·have j8:=cS j8;have hp:=ait (i:=i) (j:=j) aa aa;have ko:=aqJ ag cap room hc hp;refine (vG h2 (gV _) (-1+(i:Int),-1+(j:Int))).mono ?_;rintro e bH ⟨rfl,hr⟩;rw [ko] at hr;obtain ⟨F3,h3,t3⟩:=hr;refine ⟨_,rfl,?_⟩;have wk:aw (-1+(j:Int)+1)= -1+((j+1:Nat):Int):=by rw [wI];omega
   refine gd (by rw [ko];rfl) ⟨m-1,aa,j+1,F3,wk,aa,h3,t2.trans t3⟩
  ·have j8:=cS j8;have hj3:j=3:=by omega
   subst hj3;have wk:aw (-1+(i:Int)+1)= -1+((i+1:Nat):Int):=by rw [wI];omega
   exact ⟨n-1,aa,i+1,F2,wk,aa,by rw [show 3*(i+1)=3*i+3 from by omega];exact h2,t2⟩
 ·have hb:=cS hb;have hi3:i=3:=by omega
  subst hi3;exact ⟨rfl,F1,h1,t1⟩
abbrev TP(ag cap bud:Int):Sm:=⟨ag,min (max cap 1) 16,(Mh 1000000,l9 ag 9),[],⟨4096,0,[]⟩,min (max bud 1) 64,0,[]⟩
abbrev vk:TypeId:=101
abbrev DD:TypeId:=117
abbrev zl:LV:=[.bool false,.int .i64 0,.int .i64 0,.int .i64 0,.int .i64 0,.int .i64 0,.int .i64 0,.int .i64 0,.int .i64 0,.bool false,.int .i64 0,.int .i64 0,.bool false]
abbrev aaY:Value:=.func (.func 98) #[] #[]
def Mr(ag bud cap:Int)(hc:9<=cap)(w:World):ae 9 #[ag,bud,cap] w λe w'=>
  ∃(g s o t:Nat)(F:Nat->Prop)(m b s' o' t':Nat)(F':Nat->Prop),e=Value.tuple #[g,m]/\EF F w' g s o t (TP ag cap bud) aaY Ye/\
   SF F' w' s' o' t' (TP ag cap bud) aaY/\Row w' m [o',s',.slice (aD b) 16 16] vk/\Row w' b (bh zl 16) DD/\
   (∀i,F i->¬F' i)/\(∀i,F i->w.heap.size<=i)/\(∀i,F' i->w.heap.size<=i)/\w.heap.size<=m/\w.heap.size<=b/\Ext w w':=by
 have aa3:9<=min (max cap 1) 16:=by omega
 apply Sb.vc;refine (Ll ag cap 1000000 bud w).mono ?_;rintro e w0 ⟨g,s,o,t,F,rfl,hE,x0,fF⟩;have z0:=x0.size;refine ⟨_,rfl,(KD ag cap 1000000 w0).mono ?_⟩;rintro e w2 ⟨o',t',Fw,rfl,hW,x2,fW⟩;have z2:=x2.size;refine ⟨_,rfl,gd rfl (gd rfl ((D6 hW bud).mono ?_))⟩;rintro e w4 ⟨s',Fm,rfl,hS,x4,fS⟩;have z4:=x4.size;have El:=x0.tr (x2.tr x4);have hE4:=hE.ext (x2.tr x4);have hdj:∀i,F i->¬Fm i:=λi hi hm=>by
  have:=hE.lt hi;rcases fS i hm with q|q
  ·have:=fW i q;omega
  ·omega
 have fM:∀i,Fm i->w.heap.size<=i:=λi hi=>by
  rcases fS i hi with q|q
  ·have:=fW i q;omega
  ·omega
 refine ⟨_,rfl,gd rfl (iS rfl (iS rfl ?_))⟩;obtain ⟨Fs,hs,ko,-,-⟩:=hE4.xz;obtain ⟨Fv,hV,-,-⟩:=hs.world;refine ⟨_,ko,(gL hs).mono ?_⟩;rintro e w7 ⟨rfl,hw7⟩;subst hw7;refine ⟨_,rfl,gd rfl ((YT hE4).mono ?_)⟩;rintro e w9 ⟨rfl,hw9⟩;subst hw9;obtain ⟨Fu,hU,-,bf⟩:=hS.world;refine ⟨_,rfl,gd rfl ((iH hU).mono ?_)⟩;rintro e bw ⟨rfl,V6⟩;subst V6;refine ⟨_,rfl,?_⟩;rw [QN,D8,rK];refine gd rfl (iS rfl (iS rfl ⟨_,ko,(gL hs).mono ?_⟩));rintro e bH ⟨rfl,aoL⟩;subst aoL;refine ⟨_,rfl,(iH hV).mono ?_⟩;rintro e cD ⟨rfl,aCa⟩;subst aCa;refine ⟨_,rfl,?_⟩;rw [QN,D8,rK];refine gd rfl ((IE (room:=1000000) hU aa3).mono ?_);rintro e dI ⟨rfl,hr⟩;obtain ⟨F2,Wa,t2⟩:=bf hr;have aCb:EF F dI g s o t _ aaY Ye:=hE4.same λi hi=>t2.mod.same i (hE4.lt hi) (hdj i hi)
 have hdj2:∀i,F i->¬F2 i:=λi hi hm=>by
  rcases t2.sub i hm with q|q
  ·exact hdj i hi q
  ·have:=hE4.lt hi;omega
 obtain ⟨aCc,fM2⟩:=t2.fresh El fM;refine ⟨_,rfl,gd rfl (iS rfl (iS rfl ?_))⟩;obtain ⟨Fs,hs,ko,-,hresE⟩:=aCb.xz;obtain ⟨Fv,hV,-,hresS⟩:=hs.world;refine ⟨_,ko,(gL hs).mono ?_⟩;rintro e dU ⟨rfl,aCd⟩;subst aCd;refine ⟨_,rfl,(IE (room:=1000000) hV aa3).mono ?_⟩;rintro e fQ ⟨rfl,hr⟩;obtain ⟨F3,hE3,t3⟩:=hresE (hresS hr);have aCe:SF F2 fQ s' o' t' (TP ag cap bud) aaY:=Wa.same λi hi=>t3.mod.same i (Wa.lt hi) λq=>hdj2 i q hi
 have hdj3:∀i,F3 i->¬F2 i:=λi hi hm=>by
  rcases t3.sub i hi with q|q
  ·exact hdj2 i q hm
  ·have:=Wa.lt hm;omega
 obtain ⟨aum,fF3⟩:=t3.fresh aCc fF;have z23:=aum.size;refine ⟨_,rfl,gd rfl ?_⟩;have last:∀cZ:World,cZ=fQ.drew.alloc (.cells (bh zl (16:Int).toNat).toArray DD)->∀gx:World,gx=cZ.alloc (.cells #[o',s',.slice (aD fQ.drew.heap.size) (16:Int).toNat (16:Int).toNat] vk)->
   ∃(g2 s2 o2 t2:Nat)(F:Nat->Prop)(m b s' o' t':Nat)(F':Nat->Prop),Ending.returned (.tuple #[g,.pointer (aD cZ.heap.size)])=Value.tuple #[g2,m]/\EF F gx g2 s2 o2 t2 (TP ag cap bud) aaY Ye/\
   SF F' gx s' o' t' (TP ag cap bud) aaY/\Row gx m [o',s',.slice (aD b) 16 16] vk/\Row gx b (bh zl 16) DD/\
   (∀i,F i->¬F' i)/\(∀i,F i->w.heap.size<=i)/\(∀i,F' i->w.heap.size<=i)/\w.heap.size<=m/\w.heap.size<=b/\Ext w gx:=by
  intro cZ zk gx BZ;have eZ:Ext fQ cZ:=(Ext.dr fQ).br zk;have jN:=aQ BZ;have z25:=eZ.size;have rb:Row cZ fQ.drew.heap.size (bh zl 16) DD:=by rw [zk];exact Row.new fQ.drew (bh zl 16) _
  have rm:Row gx cZ [o',s',.slice (aD fQ.drew.heap.size) 16 16] vk:=Row.nw BZ;exact ⟨g,s,o,t,F3,_,_,_,_,_,F2,rfl,hE3.ext (eZ.tr jN),aCe.ext (eZ.tr jN),rm,rb.ext jN,hdj3,fF3,fM2,aa,z23,aum.tr (eZ.tr jN)⟩
 exact ⟨⟨aA,λcZ zk=>⟨⟨λgx BZ=>last cZ zk gx BZ,λgx BZ=>last cZ zk gx BZ⟩,λgx BZ=>last cZ zk gx BZ⟩⟩,⟨aA,λcZ zk gx BZ=>last cZ zk gx BZ⟩⟩
def MU(w:World):ae 14 #[] w λe w'=>e=true/\Ext w w':=by
 apply Sc.vc;refine (Ll 0 1 0 0 w).mono ?_;rintro e w0 ⟨g,s,o,t,F,rfl,hE,x0,fF⟩;refine ⟨_,rfl,gd rfl ((HF hE (0,0,0) 100 100 gA).mono ?_)⟩;have hsp:cQ (M0e 0 1 0 0) Ye (fH (0,0,0) 100 100)=(-1,11,Ye):=by unfold cQ;rw [if_neg aA,if_neg aA,if_pos aA]
 rw [hsp];rintro e w2 ⟨rfl,F2,-,t2⟩;exact ⟨_,_,rfl,yes rfl ⟨rfl,(t2.fresh x0 fF).1⟩⟩
end Go.Proofs.YtkkkfkopcfdmaaaGreatDoor
