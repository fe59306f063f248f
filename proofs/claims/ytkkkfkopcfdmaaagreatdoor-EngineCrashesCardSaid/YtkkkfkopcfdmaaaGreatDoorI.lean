import Derived.Test.YtkkkfkopcfdmaaaGreatDoorH
import Derived.Test.YtkkkfkopcfdmaaaGreatDoorD
set_option linter.all false
namespace Go.Proofs.YtkkkfkopcfdmaaaGreatDoor
open Go Go.Vc Go.RowKit Go.Proofs Tryz
set_option maxRecDepth 100000
set_option maxHeartbeats 8000000
variable {R:Ending->World->Prop} {w:World} {a0 a1 a2 a3 aE au aB cw cA cO fO fi eP aH aG aM dW gy gE J8 J9 De dq ef dj:Int}
def Mv.vc{a0:Value}(h:(λA=>
 Aw w A 107 λw0=>
 ae 102 #[a0,.agg A,.func (.func 274) #[] #[]] w0 (Rb λb2 w1=>Kp w w0 w1/\
 R b2 w1)) #[aH,aG,aM,dW,gy,gE]):ae 234 #[a0,.agg #[aH,aG,aM,dW,gy,gE]] w R:=
 cq bG func234 h
def Yh.vc{a0:Value}(h:(λA=>
 Aw w A 107 λw0=>
 ae 102 #[a0,.agg A,.func (.func 202) #[] #[]] w0 (Rb λb2 w1=>Kp w w0 w1/\
 R b2 w1)) #[aH,aG,aM,dW,gy,gE]):ae 235 #[a0,.agg #[aH,aG,aM,dW,gy,gE]] w R:=
 cq bG func235 h
def Mw.vc(h:
 R (uD (a0==4)) w):ae 274 #[a0] w R:=
 cq bG func274 h
def Mx.vc(h:
 Aw w #[aE,au,aB,cw,cA,cO] 107 λw0=>
 Aw w0 #[a1] 3 λw1=>
 Aw w1 #[a2] 3 λw2=>
 R (Value.func (.func 322) #[] #[w,.pointer (aD w0),.pointer (aD w1)]) w2):ae 311 #[.agg #[aE,au,aB,cw,cA,cO],a1,a2] w R:=
 cq bG func311 h
def G1.vc{a0:Value}{c0:Addr}{c1:Addr}{c2:Addr}(h:(λA B C=>
 gM w.drew (af (some c0) 0) λx0 x1 x2=>
 kW w.drew C λx3=>
 gM w.drew B λx4 x5 x6=>
 kW w.drew C λx7=>
 ae 178 #[.agg #[x0,x1,x2],x3] w.drew (λe w8=>∃(x9:Int),e=x9/\
 ah w8 C 0 [x7]/\ah w8 B 0 [x4,x5,x6]/\ae 178 #[.agg #[x4,x5,x6],x7] w8 (λe bo=>∃(bK:Int),e=bK/\
 kW bo A λbW=>
 Br (bW>0)
 (ae 152 #[(aw ((aw (bK+65536))-1))] bo (λe bP=>∃(cB:Int),e=cB/\
 sN (λI15 Tk=>I15 Tk cB bP) λI15 Tk axg dc fK=>
 kW fK.drew A λeO=>
 ae 174 #[dc] fK.drew (λe dm=>∃(fC:Int),e=fC/\
 ah dm A 0 [eO]/\Br (decide (fC<(aw (bK+eO))))
 (ae 174 #[dc] dm (λe gC=>∃(eZ:Int),e=eZ/\
 bB Tryz.prog a0 [dc,(aw (eZ-bK))] gC (λe gx=>∃(Ka:Bool),e=Ka/\
 Br (!Ka)
 (R ya gx)
 (∃n20,n20<Tk/\I15 n20 ((aw (dc+1))) gx))))
 (R ya dm))))
 (ae 152 #[x9] bo (λe iY=>∃(jk:Int),e=jk/\
 sN (λI30 n31=>I30 n31 ((aw (jk-1))) iY) λI30 n31 axh fD lq=>
 kW lq.drew A λoW=>
 ae 174 #[(aw (fD+1))] lq.drew (λe iR=>∃(km:Int),e=km/\
 ah iR A 0 [oW]/\Br (decide (km>(aw (x9+oW))))
 (ae 174 #[(aw (fD+1))] iR (λe kR=>∃(pF:Int),e=pF/\
 bB Tryz.prog a0 [fD,(aw (pF-x9))] kR (λe oF=>∃(b42:Bool),e=b42/\
 Br (!b42)
 (R ya oF)
 (∃n35,n35<n31/\I30 n35 ((aw (fD-1))) oF))))
 (R ya iR))))))) (some c2) (af (some c0) 3) (some c1)):ae 322 #[a0,c0,c1,c2] w R:=
 cq ⟨[(3,⟨[(7,.int .i64)],[],[]⟩),(7,⟨[(8,.int .i64)],[],[]⟩)],[],[]⟩ func322 h
def PC.vc(h:(λA B=>
 Aw w #[aE,au,aB,cw,cA,cO] 107 λw0=>
 Aw w0 #[ai,ai,ai,ai,ai,ai] 107 λw1=>
 ae 174 #[a2] w1.drew (Ri λx3 w2=>K2 w w0 w1.drew w2 (
 ah w2 B 0 A/\ah w2 w 0 [aE,au,aB]/\ae 155 #[.agg #[aE,au,aB],a1,x3] w2 (jl λx5 x6 x7 w4=>K2 w w0 w2 w4 (
 ah w4 B 0 A/\ae 174 #[(aw (a2+1))] w4 (Ri λx9 w8=>K2 w w0 w4 w8 (
 ah w8 B 0 A/\ae 155 #[.agg #[cw,cA,cO],a1,x9] w8 (jl λbK bW cR bo=>K2 w w0 w8 bo (
 Sw bo w0 #[x5,x6,x7,bK,bW,cR] λbH=>
 R (qY #[x5,x6,x7,bK,bW,cR]) bH))))))))) [cw,cA,cO] (fP w 3)):ae 312 #[.agg #[aE,au,aB,cw,cA,cO],a1,a2] w R:=
 cq bG func312 h
def TV.vc{a0:Value}(h:(λA B C D E G=>
 aT (lF a0) (
 Aw w #[a0] 65 λw0=>
 Aw w0 C 107 λw1=>
 Aw w1 #[a2] 3 λw2=>
 Aw w2 #[ai] 3 λw3=>(λAa Ab=>
 Aw w3 G 4 λw4=>
 Br (a2<0)
 (Sw w4 w2 #[ai] λw5=>
 Sw w5 w3 G λw6=>
 R E w6)
 (Br (a2>=3)
 (Sw w4 w2 #[ai] λw7=>
 Sw w7 w3 G λw8=>
 R E w8)
 (ae 311 #[.agg C,a2,.int .i64 A] w4 (Rv λv10 w9=>Ab w4 w9 (
 ∃(aiG:List (LV))(arf F13:Nat->Prop)(I14:Nat->(Nat->Prop)->Int->Bool->World->Prop)(X15:Option Nat->(Nat->Prop)->Int->Bool->World->Prop),
 (∀x ∈ aiG,∃(du dH:Int),x=[.int .i64 du,.int .i64 dH])/\
 (∀(n18:Nat)(F19:Nat->Prop)(dN:Int)(Th:Bool)(dm fQ:World),I14 n18 F19 dN Th dm->Below w9 dm fQ->(∀i,F19 i->fQ.heap[i]? =dm.heap[i]?)->I14 n18 F19 dN Th fQ)/\
 (∀(n24:Option Nat)(F25:Nat->Prop)(jN:Int)(Ka:Bool)(iY eG:World),X15 n24 F25 jN Ka iY->Below w9 iY eG->(∀i,F25 i->eG.heap[i]? =iY.heap[i]?)->X15 n24 F25 jN Ka eG)/\
 (∀(n30:Nat)(F31:Nat->Prop)(lr:Int)(XG:Bool)(lq:World),I14 n30 F31 lr XG lq->∀i,F31 i->i<lq.heap.size/\i≠w9.heap.size/\i≠w9.heap.size+1)/\
 (∀(n35:Option Nat)(F36:Nat->Prop)(lh:Int)(b38:Bool)(kR:World),X15 n35 F36 lh b38 kR->∀i,F36 i->i<kR.heap.size/\i≠w9.heap.size/\i≠w9.heap.size+1)/\
 (∀i,arf i->i<w9.heap.size/\¬F13 i/\i≠w.heap.size/\i≠w0.heap.size/\i≠w1.heap.size/\i≠w2.heap.size/\i≠w3.heap.size/\True)/\
 (∀kz:World,PD w9 w9 kz->Iter Tryz.prog (v10) kz arf aiG/\aN [a0]/\aN D/\aN [a2]/\I14 0 F13 (0) false kz)/\
 (∀(n41:Nat)(F42:Nat->Prop)(axi:Nat->Value)(pk:Int)(b45:Bool)(oH xl:Int)(iw:World),aiG[n41]? =some [.int .i64 oH,.int .i64 xl]->I14 n41 F42 pk b45 iw->
 Below iw iw iw/\∀pG:World,Rec (w9.heap.size+1) iw pG->I14 n41 F42 pk b45 pG->
 ae 312 #[.agg C,a2,oH] pG.drew (yj λrA rq kS qV oG xV qo=>Ab pG.drew qo (
 ah qo w 0 [a0]/\ae 46 #[a0,.agg #[rA,rq,kS,qV,oG,xV]] qo (Rb λb58 nB=>Ab qo nB (
 Br b58
 (Sw nB w2 #[xl] λqE=>
 Sw qE w3 #[true] λoU=>
 true=true/\∃F61:Nat->Prop,(aN [a0]/\aN D/\aN [a2]/\X15 none F61 xl true oU)/\Step (λi=>(F42 i\/i ∈ Aa)\/iw.heap.size<=i) (λi=>F61 i\/i ∈ Aa) pG oU)
 (∃F62:Nat->Prop,(aN [a0]/\aN D/\aN [a2]/\I14 (n41+1) F62 pk b45 nB)/\Step (λi=>(F42 i\/i ∈ Aa)\/iw.heap.size<=i) (λi=>F62 i\/i ∈ Aa) pG nB))))))/\
 (∀(F63:Nat->Prop)(axj:Nat->Value)(sR:Int)(b66:Bool)(oy:World),I14 aiG.length F63 sR b66 oy->oy.heap[w9.heap.size]? =some B->
 Sw oy w2 #[.int .i64 A] λuK=>
 Sw uK w3 G λOn=>
 On.heap[w9.heap.size]? =some B/\∀qD:World,Rec w9 On qD->
 R (dS #[.int .i64 A,false]) qD)/\
 (∀(F71:Nat->Prop)(aw9:Nat->Value)(uW:Int)(b74:Bool)(rC:World),X15 none F71 uW b74 rC->rC.heap[w9.heap.size]? =some B->
 rC.heap[w9.heap.size]? =some B/\∀pH:World,Rec w9 rC pH->
 R (dS #[uW,b74]) pH)))))) ([w.heap.size,w0.heap.size,w1.heap.size,w2.heap.size,w3.heap.size]:List Nat) (K5 w w0 w1 w2 w3))) (if 4194304<(if (-4194304)>a3 then (-4194304) else a3) then 4194304 else (if (-4194304)>a3 then (-4194304) else a3)) (.deferred (some [])) #[aH,aG,aM,dW,gy,gE] [aH,aG,aM,dW,gy,gE] (Value.tuple #[ai,false]) #[false]):ae 299 #[a0,.agg #[aH,aG,aM,dW,gy,gE],a2,a3] w R:=
 cq ⟨[],[],[(7,⟨[],[(3,[.int .i64]),(4,[.bool])],[]⟩,[.sc (.int .i64),.sc (.int .i64)])]⟩ func299 h
def acR.vc(h:(λA=>
 Aw w #[aE,au,aB,cw,cA,cO] 107 λw0=>
 Aw w0 A 28 λw1=>
 Aw w1 #[ai,ai,ai,ai,ai,ai] 107 λw2=>
 ae 145 #[.agg #[aE,au,aB],.agg A] w2.drew (jl λx4 x5 x6 w3=>K3 w w0 w1 w2.drew w3 (
 ah w3 (aD w0) 0 [aH,aG,aM]/\ah w3 (fP w 3) 0 [cw,cA,cO]/\ae 145 #[.agg #[cw,cA,cO],.agg A] w3 (jl λx8 x9 bE w7=>K3 w w0 w1 w3 w7 (
 Sw w7 w1 #[x4,x5,x6,x8,x9,bE] λbw=>
 R (qY #[x4,x5,x6,x8,x9,bE]) bw))))) #[aH,aG,aM]):ae 300 #[.agg #[aE,au,aB,cw,cA,cO],.agg #[aH,aG,aM]] w R:=
 cq bG func300 h
def PE.vc{a0:Value}(h:(λA=>
 Aw w A 107 λw0=>
 Aw w0 #[ai,ai,ai,ai,ai,ai] 107 λw1=>
 ae 299 #[a0,.agg A,a2,a3] w1 (Rx0 λx3 b4 w2=>K2 w w0 w1 w2 (
 ae 155 #[.agg #[ai,ai,ai],a2,x3] w2.drew (jl λx6 x7 x8 w5=>K2 w w0 w2.drew w5 (
 ah w5 w 0 [aH,aG,aM,dW,gy,gE]/\ae 300 #[.agg A,.agg #[x6,x7,x8]] w5 (yj λbE bK bW cR cB cW w9=>K2 w w0 w5 w9 (
 Sw w9 w0 #[bE,bK,bW,cR,cB,cW] λcD=>
 R (dS #[.agg #[bE,bK,bW,cR,cB,cW],b4]) cD))))))) #[aH,aG,aM,dW,gy,gE]):ae 275 #[a0,.agg #[aH,aG,aM,dW,gy,gE],a2,a3] w R:=
 cq bG func275 h
def TD.vc{a0:Value}(h:(λA B=>
 Aw w #[aH,aG,aM,dW,gy,gE] 107 λw0=>
 Aw w0 #[dq,ef,dj] 28 λw1=>
 Aw w1 #[ai,ai,ai,ai,ai,ai] 107 λw2=>
 Aw w2 B 299 λw3=>(λAa=>
 Aw w3 B 299 λw4=>
 ∃I5:Nat->Int->Int->Int->Int->Int->Int->Int->World->Prop,
 (∃n6,aN [dq,ef,dj]/\aN A/\I5 n6 (0) aH aG aM dW gy gE w4)/\
 ∀(n6:Nat)(us7:Nat->Value)(x8 x9 bE bK bW cR cB:Int)(ee:World),I5 n6 x8 x9 bE bK bW cR cB ee->
 Br (x8<3)
 (((0:Int)<=x8/\x8<((3:Nat):Int))/\∃(dH:Int),([(1:Int),ai,(2:Int)]:LV)[(x8:Int).toNat*1]? =some (.int .i64 dH)/\
 ae 178 #[.agg #[dq,ef,dj],dH] ee.drew (Ri λdb dI=>K3 w w0 w1 ee.drew dI (
 ah dI w 0 [x9,bE,bK,bW,cR,cB]/\ae 275 #[a0,.agg #[x9,bE,bK,bW,cR,cB],dH,db] dI (Ch λeO fN fC gW eZ jN Ka fx=>K3 w w0 w1 dI fx (
 Sw fx w #[eO,fN,fC,gW,eZ,jN] λiY=>
 (0:Int)<=dH/\dH<((3:Nat):Int)/\(true=true/\Wr iY (af Aa ((dH:Int).toNat*1)) 1)/\bk (af Aa ((dH:Int).toNat*1))≠some w.heap.size/\bk (af Aa ((dH:Int).toNat*1))≠some w0.heap.size/\bk (af Aa ((dH:Int).toNat*1))≠some w1.heap.size/\(Pw iY (af Aa ((dH:Int).toNat*1)) [.bool Ka] λeG=>
 ∃Tk,Tk<n6/\aN [dq,ef,dj]/\aN A/\I5 Tk ((aw (x8+1))) eO fN fC gW eZ jN eG))))))
 (mD ee.drew Aa λb30 b31 b32=>
 Sw ee.drew w1 #[x9,bE,bK,bW,cR,cB] λfL=>
 ah fL Aa 0 [.bool b30,b31,b32]/\Wt fL ⟨w2,0,none⟩ 3/\Nb w2 w/\Nb w2 w0/\Nb w2 w1/\(Pw fL (aD w2) [.bool b30,b31,b32] λlq=>
 mD lq (aD w2) λb35 b36 b37=>
 R (dS #[.agg #[x9,bE,bK,bW,cR,cB],.agg #[b35,b36,b37]]) lq))) (aD w3)) [ai,ai,ai,ai,ai,ai] #[false,false,false]):ae 240 #[a0,.agg #[aH,aG,aM,dW,gy,gE],.agg #[dq,ef,dj]] w R:=
 cq ⟨[(3,⟨[(12,.int .i64)],[(0,[.int .i64,.int .i64,.int .i64,.int .i64,.int .i64,.int .i64])],[]⟩)],[],[]⟩ func240 h
def TW.vc(h:(λA B=>
 Aw w #[aE,au,aB,cw,cA,cO] 107 λw0=>
 Aw w0 #[aH,aG,aM,dW,gy,gE] 107 λw1=>
 R ((aw ((if (aw (0-A))>A then (aw (0-A)) else A)+(if (aw (0-B))>B then (aw (0-B)) else B)))) w1.drew) (aw (aH-aE)) (aw (aM-aB))):ae 276 #[.agg #[aE,au,aB,cw,cA,cO],.agg #[aH,aG,aM,dW,gy,gE]] w R:=
 cq bG func276 h
def TX.vc{a0:Value}(h:(λ(A:Array Value)(B:Array Value)(C:Array Value) D (E:LV) (G:LV) H L=>
 Aw w A 107 λw0=>
 Aw w0 #[dq,ef,dj] 28 λw1=>
 Aw w1 B 107 λw2=>(λAa=>
 Aw w2 C 299 λw3=>
 ae 240 #[a0,.agg A,.agg #[dq,ef,dj]] w3 (pU λx5 x6 x7 x8 x9 bE b11 b12 Oi w4=>(λ(Ab:Array Value)(Ac:LV) Ad=>K3 w w0 w1 w3 w4 (
 Aw w4 B 107 λbH=>(λAe=>
 Aw bH C 299 λee=>
 Sw ee w4 Ab λcD=>
 Wt cD ⟨bH,0,none⟩ 3/\Nb bH w/\Nb bH w0/\Nb bH w1/\Nb bH w4/\(Pw cD Ae [.bool b11,b12,Oi] λcL=>
 ∃J18:World->Prop,
 ((0:Int)<=0/\(0:Int)<D/\DJ cL (af Ae H) λb19=>
 Br (!b19)
 ((0:Int)<=2/\(2:Int)<D/\DJ cL (af Ae L) λb20=>
 Br (!b20)
 (mD cL.drew Ae λTh b22 b23=>
 Sw cL.drew w1 Ab λgC=>
 ah gC Ae 0 [.bool Th,b22,b23]/\Wt gC ⟨w2,0,none⟩ 3/\Nb w2 w/\Nb w2 w0/\Nb w2 w1/\Nb w2 w4/\(Pw gC Aa [.bool Th,b22,b23] λcZ=>
 mD cZ Aa λKh Ka XH=>
 R (dS #[.agg Ab,.agg #[Kh,Ka,XH]]) cZ))
 (Br (a3<=0)
 (mD cL.drew Ae λb29 b30 b31=>
 Sw cL.drew w1 Ab λqT=>
 ah qT Ae 0 [.bool b29,b30,b31]/\Wt qT ⟨w2,0,none⟩ 3/\Nb w2 w/\Nb w2 w0/\Nb w2 w1/\Nb w2 w4/\(Pw qT Aa [.bool b29,b30,b31] λfL=>
 mD fL Aa λb34 b35 b36=>
 R (dS #[.agg Ab,.agg #[b34,b35,b36]]) fL))
 (ae 49 #[a0,.agg A] cL (Rb λb38 iR=>Ad cL iR (
 Br (!b38)
 (mD iR.drew Ae λb39 b40 b41=>
 Sw iR.drew w1 Ab λlf=>
 ah lf Ae 0 [.bool b39,b40,b41]/\Wt lf ⟨w2,0,none⟩ 3/\Nb w2 w/\Nb w2 w0/\Nb w2 w1/\Nb w2 w4/\(Pw lf Aa [.bool b39,b40,b41] λjW=>
 mD jW Aa λb44 b45 b46=>
 R (dS #[.agg Ab,.agg #[b44,b45,b46]]) jW))
 (aN E/\aN [dq,ef,dj]/\aN G/\aN Ac/\J18 iR))))))
 (Br (a3<=0)
 (mD cL.drew Ae λb47 b48 b49=>
 Sw cL.drew w1 Ab λqo=>
 ah qo Ae 0 [.bool b47,b48,b49]/\Wt qo ⟨w2,0,none⟩ 3/\Nb w2 w/\Nb w2 w0/\Nb w2 w1/\Nb w2 w4/\(Pw qo Aa [.bool b47,b48,b49] λuL=>
 mD uL Aa λb52 b53 b54=>
 R (dS #[.agg Ab,.agg #[b52,b53,b54]]) uL))
 (ae 49 #[a0,.agg A] cL (Rb λb56 xm=>Ad cL xm (
 Br (!b56)
 (mD xm.drew Ae λb57 b58 b59=>
 Sw xm.drew w1 Ab λoU=>
 ah oU Ae 0 [.bool b57,b58,b59]/\Wt oU ⟨w2,0,none⟩ 3/\Nb w2 w/\Nb w2 w0/\Nb w2 w1/\Nb w2 w4/\(Pw oU Aa [.bool b57,b58,b59] λrI=>
 mD rI Aa λb62 b63 b64=>
 R (dS #[.agg Ab,.agg #[b62,b63,b64]]) rI))
 (aN E/\aN [dq,ef,dj]/\aN G/\aN Ac/\J18 xm))))))/\
 ∀axn:Nat->Value,∀(sQ:World),J18 sQ->
 ae 275 #[a0,.agg A,(1:Int),.int .i64 (if 65536<a3 then 65536 else a3)] sQ (Ch λqp wN ur uM wM uW b74 oy=>(λ(Af:Array Value)=>Ad sQ oy (
 Aw oy B 107 λrC=>
 Sw rC oy Af λpH=>(λAg Ah Ai=>
 Aw pH C 299 λuO=>
 Wt uO ⟨pH,0,none⟩ 3/\Nb pH w/\Nb pH w0/\Nb pH w1/\Nb pH w4/\Nb pH oy/\(Pw uO Ai [.bool false,true,false] λrD=>(λAj=>
 Aw rD B 107 λKi=>
 Sw Ki rD Af λxX=>
 ae 275 #[a0,.agg Af,(0:Int),dq] xX (Ch λzK Fl Ke Kf x86 vX b88 xq=>Aj xX xq (
 Sw xq rD #[zK,Fl,Ke,Kf,x86,vX] λqw=>
 (0:Int)<=0/\(0:Int)<D/\(true=true/\Wr qw Ag 1)/\bk Ag≠some w.heap.size/\bk Ag≠some w0.heap.size/\bk Ag≠some w1.heap.size/\bk Ag≠some w4.heap.size/\bk Ag≠some oy.heap.size/\bk Ag≠some rD.heap.size/\(Pw qw Ag [.bool b88] λqq=>
 ae 275 #[a0,.agg #[zK,Fl,Ke,Kf,x86,vX],(2:Int),dj] qq (Ch λLZ Ep x94 Oo Oq IL b98 w91=>Aj qq w91 (
 Sw w91 rD #[LZ,Ep,x94,Oo,Oq,IL] λJh=>
 (0:Int)<=2/\(2:Int)<D/\(true=true/\Wr Jh Ah 1)/\bk Ah≠some w.heap.size/\bk Ah≠some w0.heap.size/\bk Ah≠some w1.heap.size/\bk Ah≠some w4.heap.size/\bk Ah≠some oy.heap.size/\bk Ah≠some rD.heap.size/\(Pw Jh Ah [.bool b98] λpo=>
 ae 275 #[a0,.agg #[LZ,Ep,x94,Oo,Oq,IL],(1:Int),(aw (0-(aw (wN-aG))))] po (Ch λvY zB Kj zC Dg BL amE Kk=>(λ(Ak:Array Value)=>Aj po Kk (
 Sw Kk rD Ak λrE=>
 ae 276 #[.agg A,.agg Ak] rE.drew (Ri λuP IM=>Aj rE.drew IM (
 ah IM (aD w4) 0 Ac/\ah IM w 0 E/\ae 276 #[.agg A,.agg Ab] IM (Ri λKl BM=>Aj IM BM (
 Br (uP<=Kl)
 (mD BM.drew Ae λarn abf Sh=>
 Sw BM.drew w1 Ab λVR=>
 ah VR Ae 0 [.bool arn,abf,Sh]/\Wt VR ⟨w2,0,none⟩ 3/\Nb w2 w/\Nb w2 w0/\Nb w2 w1/\Nb w2 w4/\Nb w2 oy/\Nb w2 rD/\(Pw VR Aa [.bool arn,abf,Sh] λou=>
 mD ou Aa λaxp axq axr=>
 R (dS #[.agg Ab,.agg #[axp,axq,axr]]) ou))
 (mD BM.drew Ai λaro arp arq=>
 Sw BM.drew w1 Ak λpq=>
 ah pq Ai 0 [.bool aro,arp,arq]/\Wt pq ⟨w2,0,none⟩ 3/\Nb w2 w/\Nb w2 w0/\Nb w2 w1/\Nb w2 w4/\Nb w2 oy/\Nb w2 rD/\(Pw pq Aa [.bool aro,arp,arq] λars=>
 mD ars Aa λaxs amF axt=>
 R (dS #[.agg Ak,.agg #[axs,amF,axt]]) ars)))))))) #[vY,zB,Kj,zC,Dg,BL])))))))) (K6 w w0 w1 w4 oy rD))) (af (aD pH) H) (af (aD pH) L) (aD pH))) #[qp,wN,ur,uM,wM,uW]))) (aD bH))) #[x5,x6,x7,x8,x9,bE] [x5,x6,x7,x8,x9,bE] (K4 w w0 w1 w4))) (aD w2)) #[aH,aG,aM,dW,gy,gE] #[ai,ai,ai,ai,ai,ai] #[false,false,false] ((3:Nat):Int) [aH,aG,aM,dW,gy,gE] [ai,ai,ai,ai,ai,ai] ((0:Int).toNat*1) ((2:Int).toNat*1)):ae 236 #[a0,.agg #[aH,aG,aM,dW,gy,gE],.agg #[dq,ef,dj],a3] w R:=
 cq ⟨[],[(4,⟨[],[],[]⟩)],[]⟩ func236 h
def ED.vc{aE:Bool}{au:Bool}{aB:Bool}(h:(λA=>
 Aw w #[aE,au,aB] 299 λw0=>
 Aw w0 #[aH,aG,aM] 28 λw1=>
 Aw w1 #[ai,ai,ai] 28 λw2=>
 mD w2 w λb3 b4 b5=>
 ∃I6:Nat->Int->Int->Int->Int->World->Prop,
 (∃n7,aN A/\I6 n7 (0) aH aG aM w2)/\
 ∀(n7:Nat)(us8:Nat->Value)(x9 bE bK bW:Int)(bP:World),I6 n7 x9 bE bK bW bP->
 Br (x9<3)
 (((0:Int)<=x9/\x9<((3:Nat):Int))/\∃(Te:Bool),([.bool b3,b4,b5]:LV)[(x9:Int).toNat*1]? =some (.bool Te)/\
 Br Te
 (ae 155 #[.agg #[bE,bK,bW],x9,(0:Int)] bP (jl λdH dc db cD=>K2 w0 w1 bP cD (
 Sw cD w0 #[dH,dc,db] λfx=>
 ∃Tm,Tm<n7/\aN A/\I6 Tm ((aw (x9+1))) dH dc db fx)))
 (∃Tm,Tm<n7/\aN A/\I6 Tm ((aw (x9+1))) bE bK bW bP))
 (Sw bP w1 #[bE,bK,bW] λdU=>
 R (qY #[bE,bK,bW]) dU)) [ai,ai,ai]):ae 238 #[.agg #[aE,au,aB],.agg #[aH,aG,aM]] w R:=
 cq ⟨[(2,⟨[(8,.int .i64)],[(0,[.int .i64,.int .i64,.int .i64])],[]⟩)],[],[]⟩ func238 h
def Ju.vc{eP:Bool}(h:(λ(A:LV)=>
 Aw w #[aE,au,aB,cw,cA,cO,fO,fi,eP] 70 λw0=>
 Aw w0 #[aH,aG,aM] 28 λw1=>
 Aw w1 #[ai,ai,ai] 28 λw2=>
 ae 145 #[.agg #[aE,au,aB],.agg #[aH,aG,aM]] w2 (jl λx4 x5 x6 w3=>(λAa=>K3 w w0 w1 w2 w3 (
 Aw w3 #[ai,ai,ai] 28 λw7=>
 Sw w7 w3 #[x4,x5,x6] λw8=>
 ae 277 #[x4] w8.drew (Ri λbE w9=>Aa w8.drew w9 (
 ah w9 w 0 A/\ah w9 (fP w3 2) 0 [x6]/\ah w9 (fP w3 1) 0 [x5]/\ae 277 #[x5] w9 (Ri λbW bw=>Aa w9 bw (
 ah bw w 0 A/\ah bw (fP w3 2) 0 [x6]/\ae 277 #[x6] bw (Ri λcB bP=>Aa bw bP (
 ah bP w 0 A/\ae 154 #[.agg #[bE,bW,cB],.agg #[aE,au,aB]] bP (jl λdu dH dc ee=>Aa bP ee (
 Sw ee w1 #[du,dH,dc] λfK=>
 R (qY #[du,dH,dc]) fK)))))))))) (K4 w w0 w1 w3))) [aE,au,aB]):ae 237 #[.agg #[aE,au,aB,cw,cA,cO,fO,fi,eP],.agg #[aH,aG,aM]] w R:=
 cq bG func237 h
def EE.vc(h:(λA=>
 R (Value.int .i64 (if 70368744177664<A then 70368744177664 else A)) w) (if (-70368744177664)>a0 then (-70368744177664) else a0)):ae 277 #[a0] w R:=
 cq bG func277 h
def TY.vc(h:
 ae 214 #[a0] w (kX λx1 w0=>Br (x1<0)
 (R (dS #[.int .u64 (fR (aw (0-x1))),true]) w0)
 (R (dS #[.int .u64 (fR x1),false]) w0))):ae 260 #[a0] w R:=
 cq bG func260 h
def PF.vc{a1:Bool}{a2:Bool}(h:
 Aw w #[a1] 4 λw0=>
 Aw w0 #[a2] 4 λw1=>
 Br (a0>=140737488355328)
 (Wr w1 w 1/\(Pw w1 w [.bool false] λw2=>
 DJ w2 (aD w0) λb3=>
 Br b3
 (ae 285 #[.int .u64 140737488355328,.pointer (aD w0),w] w2 (λe w4=>∃(x5:Int),e=Value.int .u64 x5/\
 R ((aw (0-(aw x5)))) w4))
 (R ((aw 140737488355328)) w2)))
 (DJ w1 (aD w0) λb6=>
 Br b6
 (ae 285 #[.int .u64 a0,.pointer (aD w0),w] w1 (λe w7=>∃(x8:Int),e=Value.int .u64 x8/\
 R ((aw (0-(aw x8)))) w7))
 (R ((aw a0)) w1))):ae 261 #[.int .u64 a0,a1,a2] w R:=
 cq bG func261 h
def Jw.vc{c0:Addr}{c1:Addr}(h:(λA=>
 DJ w (some c0) λb0=>
 Br b0
 (DJ w (some c1) λb1=>
 Br b1
 (R (Value.int .u64 (fR (a0+1))) w)
 A)
 A) (R (Value.int .u64 a0) w)):ae 285 #[.int .u64 a0,c0,c1] w R:=
 cq bG func285 h
def EG.vc(h:(λA B C D=>
 R (dS #[.int .u64 (fR ((fR ((fR ((D.fdiv A)*((a1:Int).fdiv A)))+(((fR ((fR ((D.fdiv A)*B))+(((fR (C*B)):Int).fdiv A))):Int).fdiv A)))+(((fR ((uy .u64 (fR ((fR ((D.fdiv A)*B))+(((fR (C*B)):Int).fdiv A))) 4294967295)+(fR (C*((a1:Int).fdiv A))))):Int).fdiv A))),.int .u64 (fR (a0*a1))]) w) (2 ^(min (32:Int).toNat 64)) (uy .u64 a1 4294967295) (uy .u64 a0 4294967295) (a0:Int)):ae 273 #[.int .u64 a0,.int .u64 a1] w R:=
 cq bG func273 h
def Yi.vc(h:
 ae 260 #[a0] w (ag7 λx1 b2 w0=>ae 260 #[a1] w0 (ag7 λx4 b5 w3=>ae 273 #[.int .u64 x1,.int .u64 x4] w3 (λe w6=>∃(x7 x8:Int),e=Value.tuple #[.int .u64 x7,.int .u64 x8]/\
 Br (x7>0)
 (ae 261 #[.int .u64 140737488355328,.bool (((Int.tmod x8 65536):Int) !=0),.bool (!(b2==b5))] w6 (kX λbE w9=>R bE w9))
 (ae 261 #[.int .u64 ((x8:Int).fdiv (2 ^(min (16:Int).toNat 64))),.bool (((Int.tmod x8 65536):Int) !=0),.bool (!(b2==b5))] w6 (kX λbW bw=>R bW bw)))))):ae 232 #[a0,a1] w R:=
 cq bG func232 h
def AB.vc(h:(λA=>
 ae 232 #[.int .i64 (if 65536<A then 65536 else A),(16384:Int)] w (kX λx1 w0=>R x1 w0)) (if (-65536)>a0 then (-65536) else a0)):ae 231 #[a0] w R:=
 cq bG func231 h
def EH.vc{eP:Bool}{a1:Value}{dj:Bool}(h:
 Aw w #[aE,au,aB,cw,cA,cO,fO,fi,eP] 70 λw0=>
 Aw w0 #[dq,ef,dj] 109 λw1=>
 Aw w1 #[ai,ai,ai,ai,ai,ai,ai,ai,false] 70 λw2=>
 ae 231 #[dq] w2.drew (Ri λx4 w3=>K3 w w0 w1 w2.drew w3 (
 ah w3 (fP w0 1) 0 [ef]/\ae 231 #[ef] w3 (Ri λx6 w5=>(λAa=>K3 w w0 w1 w3 w5 (
 Sw w5 w #[aE,au,aB,x4,cA,cO,fO,fi,eP] λw7=>
 Sw w7 w Aa λw8=>
 Sw w8 w1 Aa λw9=>
 R (Value.agg Aa) w9)) #[aE,au,aB,x4,cA,x6,fO,fi,eP])))):ae 166 #[.agg #[aE,au,aB,cw,cA,cO,fO,fi,eP],a1,.agg #[dq,ef,dj]] w R:=
 cq bG func166 h
def AD.vc{c0:Addr}{c1:Addr}(h:(λA=>
 gZ w.drew A λp0=>
 gZ w.drew A λp1=>
 aT (fq p1) (kW w.drew p1 λx2=>
 aT (fq p0) (((p0).isSome=true/\Wr w.drew p0 1)/\(Pw w.drew p0 [.int .i64 (if (aw (0-a2))>(aw (x2-a1)) then (aw (0-a2)) else (aw (x2-a1)))] λw3=>
 DJ w3 (af (some c1) 2) λb4=>
 Br b4
 (gZ w3 A λp5=>
 aT (fq p5) (((p5).isSome=true/\Wr w3 p5 1)/\(Pw w3 p5 [a0] λw6=>
 R ya w6)))
 (R ya w3))))) (some c0)):ae 233 #[a0,a1,a2,c0,c1] w R:=
 cq bG func233 h
def EI.vc{eP:Bool}{a1:Value}{dj:Bool}(h:(λ(A:Array Value) B=>
 Aw w A 70 λw0=>(λAa Ab=>
 Aw w0 #[dq,ef,dj] 109 λw1=>
 Aw w1 #[ai,ai,ai,ai,ai,ai,ai,ai,false] 70 λw2=>
 ae 48 #[.agg A] w2 (yj λx4 x5 x6 x7 x8 x9 w3=>(λ(Ac:Array Value) Ad=>K3 w w0 w1 w2 w3 (
 Aw w3 #[ai,ai,ai,ai,ai,ai] 107 λbo=>(λ(Ae:Array Value)=>
 Aw bo #[.pointer none] 296 λbw=>
 Sw bw w3 #[x4,x5,x6,x7,x8,x9] λcC=>
 Sw cC bo #[.pointer (fP w 4)] λbP=>
 ae 234 Ac bP (Rb λTe bH=>Ad bP bH (
 Br Te
 (ae 233 #[B,(4096:Int),B,.pointer (aD bo),.pointer Ab] bH (Rt λcD=>Ad bH cD (
 ij cD w λdH dc db dN eO fN fC gW b25=>(λ(Af:Array Value)=>
 Sw cD w1 Af λgx=>
 R (Value.agg Af) gx) #[dH,dc,db,dN,eO,fN,fC,gW,b25])))
 (ae 235 Ac bH (Rb λXH fy=>Ad bH fy (
 Br XH
 (ae 233 #[(6144:Int),(1024:Int),B,.pointer (aD bo),.pointer Ab] fy (Rt λeG=>Ad fy eG (
 ij eG w λnu lp lr fD jO oV oW lh b38=>(λ(Ag:Array Value)=>
 Sw eG w1 Ag λkR=>
 R (Value.agg Ag) kR) #[nu,lp,lr,fD,jO,oV,oW,lh,b38])))
 (DJ fy Aa λb40=>
 Br b40
 (ae 49 Ac fy (Rb λb42 oF=>Ad fy oF (
 Wr oF Aa 1/\Nq Aa w1/\Nq Aa w3/\(Pw oF Aa [.bool b42] λjW=>
 ae 233 Ae jW (Rt λme=>Ad jW me (
 ij me w λuN oH xl Dd Ot sS rA rq b53=>(λ(Ah:Array Value)=>
 Sw me w1 Ah λJi=>
 R (Value.agg Ah) Ji) #[uN,oH,xl,Dd,Ot,sS,rA,rq,b53]))))))
 (Wr fy Aa 1/\Nq Aa w1/\Nq Aa w3/\(Pw fy Aa [.bool false] λxm=>
 ae 233 Ae xm (Rt λsJ=>Ad xm sJ (
 ij sJ w λrJ zw uo oo zI ox uQ BN b65=>(λ(Ai:Array Value)=>
 Sw sJ w1 Ai λsQ=>
 R (Value.agg Ai) sQ) #[rJ,zw,uo,oo,zI,ox,uQ,BN,b65]))))))))))) #[(28672:Int),(4096:Int),(262144:Int),.pointer (aD bo),.pointer Ab])) #[a1,.agg #[x4,x5,x6,x7,x8,x9]] (K2 w1 w3))) (fP w0 2) (aD w0)) #[aE,au,aB,cw,cA,cO,fO,fi,eP] (8192:Int)):ae 167 #[.agg #[aE,au,aB,cw,cA,cO,fO,fi,eP],a1,.agg #[dq,ef,dj]] w R:=
 cq bG func167 h
def G3.vc{eP:Bool}{a1:Value}{dj:Bool}(h:(λA B C D E G H L=>
 Aw w L 70 λw0=>
 Aw w0 #[dq,ef,dj] 109 λw1=>
 Aw w1 #[ai,ai,ai,ai,ai,ai,ai,ai,false] 70 λw2=>
 ae 48 #[.agg L] w2 (yj λx4 x5 x6 x7 x8 x9 w3=>(λAa Ab Ac Ad=>K3 w w0 w1 w2 w3 (
 Aw w3 C 107 λbo=>
 Sw bo w3 Ab λbw=>(λAe=>
 ∃Dh:Option Addr->Option Addr->World->Prop,
 ((ae 237 D bw.drew (jl λcB cW du bP=>(λAf Ag Ah=>Ac bw.drew bP (
 ah bP Ad 0 Aa/\(ae 236 Af bP (pU λdc db dN eO fN fC b24 b25 Kh cL=>Ac bP cL (
 (Aw cL C 107 λfy=>
 Aw fy E 299 λiY=>
 Sw iY cL #[dc,db,dN,eO,fN,fC] λeG=>
 Wt eG ⟨fy,0,none⟩ 3/\Nb fy w/\Nb fy w0/\Nb fy w1/\Nb fy w3/\Nb fy cL/\(Pw eG (aD fy) [.bool b24,b25,Kh] λgR=>
 aN B/\aN G/\aN A/\aN Aa/\Dh (aD cL) (aD fy) gR))/\(Aw cL E 299 λgS=>
 Aw gS C 107 λqT=>
 Sw qT gS #[dc,db,dN,eO,fN,fC] λfL=>
 Wt fL ⟨cL,0,none⟩ 3/\Nb cL w/\Nb cL w0/\Nb cL w1/\Nb cL w3/\Nb cL gS/\(Pw fL (aD cL) [.bool b24,b25,Kh] λlq=>
 aN B/\aN G/\aN A/\aN Aa/\Dh (aD gS) (aD cL) lq)))))/\(Aw bP C 107 λgT=>
 (ae 236 Af gT (pU λlh km qv pF om qU VQ b44 b45 kH=>Ah gT kH (
 Aw kH E 299 λsI=>
 Sw sI bP #[lh,km,qv,pF,om,qU] λnA=>
 Wt nA ⟨kH,0,none⟩ 3/\Nb kH w/\Nb kH w0/\Nb kH w1/\Nb kH w3/\Nb kH bP/\(Pw nA (aD kH) [.bool VQ,b44,b45] λiw=>
 aN B/\aN G/\aN A/\aN Aa/\Dh Ag (aD kH) iw))))/\(Aw gT E 299 λpG=>
 ae 236 Af pG (pU λrA rq kS qV oG xV b57 b58 b59 qo=>Ah pG qo (
 Sw qo bP #[rA,rq,kS,qV,oG,xV] λoU=>
 Wt oU ⟨gT,0,none⟩ 3/\Nb gT w/\Nb gT w0/\Nb gT w1/\Nb gT w3/\Nb gT bP/\(Pw oU (aD gT) [.bool b57,b58,b59] λrI=>
 aN B/\aN G/\aN A/\aN Aa/\Dh Ag (aD gT) rI)))))/\(Aw bP E 299 λjX=>
 (ae 236 Af jX (pU λBN sR oI oT qp wN b70 b71 b72 Kb=>Ac jX Kb (
 Aw Kb C 107 λIN=>
 Sw IN Kb #[BN,sR,oI,oT,qp,wN] λoq=>
 Wt oq ⟨bP,0,none⟩ 3/\Nb bP w/\Nb bP w0/\Nb bP w1/\Nb bP w3/\Nb bP Kb/\(Pw oq Ag [.bool b70,b71,b72] λrC=>
 aN B/\aN G/\aN A/\aN Aa/\Dh (aD Kb) Ag rC))))/\(Aw jX C 107 λpH=>
 ae 236 Af pH (pU λOj Kc FX zJ zK Fl b84 b85 b86 uO=>K5 w w0 w1 w3 jX pH uO (
 Sw uO jX #[Oj,Kc,FX,zJ,zK,Fl] λEo=>
 Wt Eo ⟨bP,0,none⟩ 3/\Nb bP w/\Nb bP w0/\Nb bP w1/\Nb bP w3/\Nb bP jX/\(Pw Eo Ag [.bool b84,b85,b86] λNI=>
 aN B/\aN G/\aN A/\aN Aa/\Dh (aD jX) Ag NI))))))) #[a1,.agg Ab,.agg #[cB,cW,du],H] (aD bP) (K5 w w0 w1 w3 bP)))/\(Aw bw.drew C 107 λqw=>
 (ae 237 D qw (jl λFZ LZ Ep qq=>(λAi Aj=>Ac qw qq (
 qq.heap[bw.drew.heap.size]? =qw.heap[bw.drew.heap.size]?/\
 ah qq Ad 0 Aa/\(ae 236 Ai qq (pU λOo Oq IL x98 Ol BO amG amH afc Jj=>Ac qq Jj (
 Jj.heap[bw.drew.heap.size]? =qq.heap[bw.drew.heap.size]?/\
 Aw Jj E 299 λabh=>
 Sw abh bw.drew.heap.size #[Oo,Oq,IL,x98,Ol,BO] λBP=>
 Wt BP ⟨Jj,0,none⟩ 3/\Nb Jj w/\Nb Jj w0/\Nb Jj w1/\Nb Jj w3/\bk (aD Jj)≠some bw.drew.heap.size/\(Pw BP (aD Jj) [.bool amG,amH,afc] λzD=>
 aN B/\aN G/\aN A/\aN Aa/\Dh Ae (aD Jj) zD))))/\(Aw qq E 299 λIP=>
 ae 236 Ai IP (pU λsK mz uP kT Kl Si abf Sh amI NJ=>Ac IP NJ (
 NJ.heap[bw.drew.heap.size]? =IP.heap[bw.drew.heap.size]?/\
 Sw NJ bw.drew.heap.size #[sK,mz,uP,kT,Kl,Si] λou=>
 Wt ou ⟨qq,0,none⟩ 3/\Nb qq w/\Nb qq w0/\Nb qq w1/\Nb qq w3/\bk Aj≠some bw.drew.heap.size/\(Pw ou Aj [.bool abf,Sh,amI] λDi=>
 aN B/\aN G/\aN A/\aN Aa/\Dh Ae Aj Di)))))) #[a1,.agg Ab,.agg #[FZ,LZ,Ep],H] (aD qq)))/\(Aw qw E 299 λxt=>
 ae 237 D xt (jl λafd N0 VS Dj=>Ac xt Dj (
 Dj.heap[bw.drew.heap.size]? =xt.heap[bw.drew.heap.size]?/\
 ah Dj Ad 0 Aa/\ae 236 #[a1,.agg Ab,.agg #[afd,N0,VS],H] Dj (pU λIQ VT afe aff afg afh amJ amK amL pq=>Ac Dj pq (
 pq.heap[bw.drew.heap.size]? =Dj.heap[bw.drew.heap.size]?/\
 Sw pq bw.drew.heap.size #[IQ,VT,afe,aff,afg,afh] λafi=>
 Wt afi ⟨qw,0,none⟩ 3/\Nb qw w/\Nb qw w0/\Nb qw w1/\Nb qw w3/\bk (aD qw)≠some bw.drew.heap.size/\(Pw afi (aD qw) [.bool amJ,amK,amL] λamM=>
 aN B/\aN G/\aN A/\aN Aa/\Dh Ae (aD qw) amM)))))))/\(Aw bw.drew E 299 λvZ=>
 (ae 237 D vZ (jl λVU afj amN tO=>(λAk=>Ac vZ tO (
 ah tO Ad 0 Aa/\(ae 236 Ak tO (pU λamO afk afl afm Sj afn amP amQ amR sL=>Ac tO sL (
 Aw sL C 107 λamS=>
 Sw amS sL #[amO,afk,afl,afm,Sj,afn] λafo=>
 Wt afo ⟨bw.drew.heap.size,0,none⟩ 3/\Nq Ae w/\Nq Ae w0/\Nq Ae w1/\Nq Ae w3/\Nq Ae sL/\(Pw afo Ae [.bool amP,amQ,amR] λamT=>
 aN B/\aN G/\aN A/\aN Aa/\Dh (aD sL) Ae amT))))/\(Aw tO C 107 λafp=>
 ae 236 Ak afp (pU λamU amV amW amX amY amZ am0 am1 am2 afq=>K5 w w0 w1 w3 tO afp afq (
 Sw afq tO #[amU,amV,amW,amX,amY,amZ] λafr=>
 Wt afr ⟨bw.drew.heap.size,0,none⟩ 3/\Nq Ae w/\Nq Ae w0/\Nq Ae w1/\Nq Ae w3/\Nq Ae tO/\(Pw afr Ae [.bool am0,am1,am2] λam3=>
 aN B/\aN G/\aN A/\aN Aa/\Dh (aD tO) Ae am3)))))) #[a1,.agg Ab,.agg #[VU,afj,amN],H]))/\(Aw vZ C 107 λafs=>
 ae 237 D afs (jl λaft afu afv N1=>K5 w w0 w1 w3 vZ afs N1 (
 ah N1 Ad 0 Aa/\ae 236 #[a1,.agg Ab,.agg #[aft,afu,afv],H] N1 (pU λafw Dl am4 am5 am6 am7 am8 am9 ana afx=>K5 w w0 w1 w3 vZ N1 afx (
 Sw afx vZ #[afw,Dl,am4,am5,am6,am7] λafy=>
 Wt afy ⟨bw.drew.heap.size,0,none⟩ 3/\Nq Ae w/\Nq Ae w0/\Nq Ae w1/\Nq Ae w3/\Nq Ae vZ/\(Pw afy Ae [.bool am8,am9,ana] λanb=>
 aN B/\aN G/\aN A/\aN Aa/\Dh (aD vZ) Ae anb))))))))/\
 ∀aru:Nat->Value,∀(Km anc:Option Addr)(Sk:World),Dh Km anc Sk->
 aT (fq Km) (gM Sk.drew (af Km 0) λabi ane Fo=>
 ae 154 #[.agg #[abi,ane,Fo],.agg #[x4,x5,x6]] Sk.drew (jl λanf Fp Kn Ko=>Ac Sk.drew Ko (
 ah Ko w 0 [aE,au,aB]/\ae 145 #[.agg #[aE,au,aB],.agg #[anf,Fp,Kn]] Ko (jl λVV afz VW Sn=>Ac Ko Sn (
 Sw Sn w #[VV,afz,VW,cw,cA,cO,fO,fi,eP] λzE=>
 mD zE anc λaxx axy axz=>
 ae 238 #[.agg #[axx,axy,axz],.agg #[cw,cA,cO]] zE (jl λN2 afA afB ang=>Ac zE ang (
 Sw ang w #[VV,afz,VW,N2,afA,afB,fO,fi,eP] λabj=>
 DM abj Km λaxA axB axC axD axE axF=>
 ae 49 #[a1,.agg #[axA,axB,axC,axD,axE,axF]] abj (Rb λaxG anh=>(λAl=>Ac abj anh (
 Sw anh w Al λarv=>
 Sw arv w1 Al λarw=>
 R (Value.agg Al) arw)) #[VV,afz,VW,N2,afA,afB,fO,fi,axG]))))))))) (aD bw.drew.heap.size))) [x4,x5,x6,x7,x8,x9] #[x4,x5,x6,x7,x8,x9] (K4 w w0 w1 w3) (aD w3))) [ai,ai,ai,ai,ai,ai,ai,ai,false] [aE,au,aB,cw,cA,cO,fO,fi,eP] #[ai,ai,ai,ai,ai,ai] #[.agg #[aE,au,aB,cw,cA,cO,fO,fi,eP],.agg #[cw,cA,cO]] #[false,false,false] [dq,ef,dj] (32768:Int) #[aE,au,aB,cw,cA,cO,fO,fi,eP]):ae 168 #[.agg #[aE,au,aB,cw,cA,cO,fO,fi,eP],a1,.agg #[dq,ef,dj]] w R:=
 cq ⟨[],[(3,⟨[(8,.ptr),(9,.ptr)],[],[]⟩)],[]⟩ func168 h
def G4.vc{eP:Bool}{a1:Value}{dj:Bool}(h:(λA=>
 Aw w #[aE,au,aB,cw,cA,cO,fO,fi,eP] 70 λw0=>
 Aw w0 #[dq,ef,dj] 109 λw1=>
 Aw w1 #[ai,ai,ai,ai,ai,ai,ai,ai,false] 70 λw2=>
 ∃I3:Nat->Int->Int->Int->Int->Int->Int->Int->Int->Int->Bool->World->Prop,
 (∃n4,aN [dq,ef,dj]/\aN A/\I3 n4 (0) aE au aB cw cA cO fO fi eP w2)/\
 ∀(n4:Nat)(us5:Nat->Value)(x6 x7 x8 x9 bE bK bW cR cB:Int)(Te:Bool)(cD:World),I3 n4 x6 x7 x8 x9 bE bK bW cR cB Te cD->
 Br (x6<3)
 (((0:Int)<=x6/\x6<((3:Nat):Int))/\∃(v18:Value),([.func (.func 166) #[] #[],.func (.func 167) #[] #[],.func (.func 168) #[] #[]]:LV)[(x6:Int).toNat*1]? =some (v18)/\
 bB Tryz.prog v18 [.agg #[x7,x8,x9,bE,bK,bW,cR,cB,Te],a1,.agg #[dq,ef,dj]] cD (acI λdN eO fN fC gW eZ jN jm XH fK=>K3 w w0 w1 cD fK (
 Sw fK w #[dN,eO,fN,fC,gW,eZ,jN,jm,XH] λeG=>
 ∃N3,N3<n4/\aN [dq,ef,dj]/\aN A/\I3 N3 ((aw (x6+1))) dN eO fN fC gW eZ jN jm XH eG)))
 (Sw cD w1 #[x7,x8,x9,bE,bK,bW,cR,cB,Te] λgR=>
 R (qY #[x7,x8,x9,bE,bK,bW,cR,cB,Te]) gR)) [ai,ai,ai,ai,ai,ai,ai,ai,false]):ae 116 #[.agg #[aE,au,aB,cw,cA,cO,fO,fi,eP],a1,.agg #[dq,ef,dj]] w R:=
 cq ⟨[(2,⟨[(10,.int .i64)],[(0,[.int .i64,.int .i64,.int .i64,.int .i64,.int .i64,.int .i64,.int .i64,.int .i64,.bool])],[]⟩)],[],[]⟩ func116 h
def EJ.vc{eP:Bool}{a1:Value}(h:(λA B C D E G H=>
 Aw w H 70 λw0=>
 Aw w0 #[dq,ef,dj] 28 λw1=>
 Aw w1 #[ai,ai,ai,ai,ai,ai,ai,ai,false] 70 λw2=>
 ae 48 #[.agg H] w2 (yj λx4 x5 x6 x7 x8 x9 w3=>(λAa Ab Ac Ad=>K3 w w0 w1 w2 w3 (
 Aw w3 C 107 λbo=>
 Sw bo w3 Ab λbw=>(λAe=>
 ∃Dh:Option Addr->World->Prop,
 ((ae 237 D bw.drew (jl λcB cW du bP=>(λAf Ag Ah=>Ac bw.drew bP (
 ah bP Ad 0 Aa/\(ae 240 Af bP (pU λdc db dN eO fN fC b24 b25 Kh cL=>Ac bP cL (
 (Aw cL C 107 λfy=>
 Aw fy E 299 λiY=>
 Sw iY cL #[dc,db,dN,eO,fN,fC] λeG=>
 Wt eG ⟨fy,0,none⟩ 3/\Nb fy w/\Nb fy w0/\Nb fy w1/\Nb fy w3/\Nb fy cL/\(Pw eG (aD fy) [.bool b24,b25,Kh] λgR=>
 aN B/\aN G/\aN A/\aN Aa/\Dh (aD cL) gR))/\(Aw cL E 299 λgS=>
 Aw gS C 107 λqT=>
 Sw qT gS #[dc,db,dN,eO,fN,fC] λfL=>
 Wt fL ⟨cL,0,none⟩ 3/\Nb cL w/\Nb cL w0/\Nb cL w1/\Nb cL w3/\Nb cL gS/\(Pw fL (aD cL) [.bool b24,b25,Kh] λlq=>
 aN B/\aN G/\aN A/\aN Aa/\Dh (aD gS) lq)))))/\(Aw bP C 107 λgT=>
 (ae 240 Af gT (pU λlh km qv pF om qU VQ b44 b45 kH=>Ah gT kH (
 Aw kH E 299 λsI=>
 Sw sI bP #[lh,km,qv,pF,om,qU] λnA=>
 Wt nA ⟨kH,0,none⟩ 3/\Nb kH w/\Nb kH w0/\Nb kH w1/\Nb kH w3/\Nb kH bP/\(Pw nA (aD kH) [.bool VQ,b44,b45] λiw=>
 aN B/\aN G/\aN A/\aN Aa/\Dh Ag iw))))/\(Aw gT E 299 λpG=>
 ae 240 Af pG (pU λrA rq kS qV oG xV b57 b58 b59 qo=>Ah pG qo (
 Sw qo bP #[rA,rq,kS,qV,oG,xV] λoU=>
 Wt oU ⟨gT,0,none⟩ 3/\Nb gT w/\Nb gT w0/\Nb gT w1/\Nb gT w3/\Nb gT bP/\(Pw oU (aD gT) [.bool b57,b58,b59] λrI=>
 aN B/\aN G/\aN A/\aN Aa/\Dh Ag rI)))))/\(Aw bP E 299 λjX=>
 (ae 240 Af jX (pU λBN sR oI oT qp wN b70 b71 b72 Kb=>Ac jX Kb (
 Aw Kb C 107 λIN=>
 Sw IN Kb #[BN,sR,oI,oT,qp,wN] λoq=>
 Wt oq ⟨bP,0,none⟩ 3/\Nb bP w/\Nb bP w0/\Nb bP w1/\Nb bP w3/\Nb bP Kb/\(Pw oq Ag [.bool b70,b71,b72] λrC=>
 aN B/\aN G/\aN A/\aN Aa/\Dh (aD Kb) rC))))/\(Aw jX C 107 λpH=>
 ae 240 Af pH (pU λOj Kc FX zJ zK Fl b84 b85 b86 uO=>K5 w w0 w1 w3 jX pH uO (
 Sw uO jX #[Oj,Kc,FX,zJ,zK,Fl] λEo=>
 Wt Eo ⟨bP,0,none⟩ 3/\Nb bP w/\Nb bP w0/\Nb bP w1/\Nb bP w3/\Nb bP jX/\(Pw Eo Ag [.bool b84,b85,b86] λNI=>
 aN B/\aN G/\aN A/\aN Aa/\Dh (aD jX) NI))))))) #[a1,.agg Ab,.agg #[cB,cW,du]] (aD bP) (K5 w w0 w1 w3 bP)))/\(Aw bw.drew C 107 λqw=>
 (ae 237 D qw (jl λFZ LZ Ep qq=>(λAi=>Ac qw qq (
 qq.heap[bw.drew.heap.size]? =qw.heap[bw.drew.heap.size]?/\
 ah qq Ad 0 Aa/\(ae 240 Ai qq (pU λOo Oq IL x98 Ol BO amG amH afc Jj=>Ac qq Jj (
 Jj.heap[bw.drew.heap.size]? =qq.heap[bw.drew.heap.size]?/\
 Aw Jj E 299 λabh=>
 Sw abh bw.drew.heap.size #[Oo,Oq,IL,x98,Ol,BO] λBP=>
 Wt BP ⟨Jj,0,none⟩ 3/\Nb Jj w/\Nb Jj w0/\Nb Jj w1/\Nb Jj w3/\bk (aD Jj)≠some bw.drew.heap.size/\(Pw BP (aD Jj) [.bool amG,amH,afc] λzD=>
 aN B/\aN G/\aN A/\aN Aa/\Dh Ae zD))))/\(Aw qq E 299 λIP=>
 ae 240 Ai IP (pU λsK mz uP kT Kl Si abf Sh amI NJ=>Ac IP NJ (
 NJ.heap[bw.drew.heap.size]? =IP.heap[bw.drew.heap.size]?/\
 Sw NJ bw.drew.heap.size #[sK,mz,uP,kT,Kl,Si] λou=>
 Wt ou ⟨qq,0,none⟩ 3/\Nb qq w/\Nb qq w0/\Nb qq w1/\Nb qq w3/\bk (aD qq)≠some bw.drew.heap.size/\(Pw ou (aD qq) [.bool abf,Sh,amI] λDi=>
 aN B/\aN G/\aN A/\aN Aa/\Dh Ae Di)))))) #[a1,.agg Ab,.agg #[FZ,LZ,Ep]]))/\(Aw qw E 299 λxt=>
 ae 237 D xt (jl λafd N0 VS Dj=>Ac xt Dj (
 Dj.heap[bw.drew.heap.size]? =xt.heap[bw.drew.heap.size]?/\
 ah Dj Ad 0 Aa/\ae 240 #[a1,.agg Ab,.agg #[afd,N0,VS]] Dj (pU λIQ VT afe aff afg afh amJ amK amL pq=>Ac Dj pq (
 pq.heap[bw.drew.heap.size]? =Dj.heap[bw.drew.heap.size]?/\
 Sw pq bw.drew.heap.size #[IQ,VT,afe,aff,afg,afh] λafi=>
 Wt afi ⟨qw,0,none⟩ 3/\Nb qw w/\Nb qw w0/\Nb qw w1/\Nb qw w3/\bk (aD qw)≠some bw.drew.heap.size/\(Pw afi (aD qw) [.bool amJ,amK,amL] λamM=>
 aN B/\aN G/\aN A/\aN Aa/\Dh Ae amM)))))))/\(Aw bw.drew E 299 λvZ=>
 (ae 237 D vZ (jl λVU afj amN tO=>(λAj=>Ac vZ tO (
 ah tO Ad 0 Aa/\(ae 240 Aj tO (pU λamO afk afl afm Sj afn amP amQ amR sL=>Ac tO sL (
 Aw sL C 107 λamS=>
 Sw amS sL #[amO,afk,afl,afm,Sj,afn] λafo=>
 Wt afo ⟨bw.drew.heap.size,0,none⟩ 3/\Nq Ae w/\Nq Ae w0/\Nq Ae w1/\Nq Ae w3/\Nq Ae sL/\(Pw afo Ae [.bool amP,amQ,amR] λamT=>
 aN B/\aN G/\aN A/\aN Aa/\Dh (aD sL) amT))))/\(Aw tO C 107 λafp=>
 ae 240 Aj afp (pU λamU amV amW amX amY amZ am0 am1 am2 afq=>K5 w w0 w1 w3 tO afp afq (
 Sw afq tO #[amU,amV,amW,amX,amY,amZ] λafr=>
 Wt afr ⟨bw.drew.heap.size,0,none⟩ 3/\Nq Ae w/\Nq Ae w0/\Nq Ae w1/\Nq Ae w3/\Nq Ae tO/\(Pw afr Ae [.bool am0,am1,am2] λam3=>
 aN B/\aN G/\aN A/\aN Aa/\Dh (aD tO) am3)))))) #[a1,.agg Ab,.agg #[VU,afj,amN]]))/\(Aw vZ C 107 λafs=>
 ae 237 D afs (jl λaft afu afv N1=>K5 w w0 w1 w3 vZ afs N1 (
 ah N1 Ad 0 Aa/\ae 240 #[a1,.agg Ab,.agg #[aft,afu,afv]] N1 (pU λafw Dl am4 am5 am6 am7 am8 am9 ana afx=>K5 w w0 w1 w3 vZ N1 afx (
 Sw afx vZ #[afw,Dl,am4,am5,am6,am7] λafy=>
 Wt afy ⟨bw.drew.heap.size,0,none⟩ 3/\Nq Ae w/\Nq Ae w0/\Nq Ae w1/\Nq Ae w3/\Nq Ae vZ/\(Pw afy Ae [.bool am8,am9,ana] λanb=>
 aN B/\aN G/\aN A/\aN Aa/\Dh (aD vZ) anb))))))))/\
 ∀aru:Nat->Value,∀(Km:Option Addr)(aiL:World),Dh Km aiL->
 aT (fq Km) (gM aiL.drew (af Km 0) λSo abi ane=>
 ae 154 #[.agg #[So,abi,ane],.agg #[x4,x5,x6]] aiL.drew (jl λFq anf Fp abk=>Ac aiL.drew abk (
 ah abk w 0 [aE,au,aB]/\ae 145 #[.agg #[aE,au,aB],.agg #[Fq,anf,Fp]] abk (jl λqF VV afz ani=>(λAk=>Ac abk ani (
 Sw ani w Ak λarx=>
 Sw arx w1 Ak λzE=>
 R (Value.agg Ak) zE)) #[qF,VV,afz,cw,cA,cO,fO,fi,eP]))))) (aD bw.drew.heap.size))) [x4,x5,x6,x7,x8,x9] #[x4,x5,x6,x7,x8,x9] (K4 w w0 w1 w3) (aD w3))) [ai,ai,ai,ai,ai,ai,ai,ai,false] [aE,au,aB,cw,cA,cO,fO,fi,eP] #[ai,ai,ai,ai,ai,ai] #[.agg #[aE,au,aB,cw,cA,cO,fO,fi,eP],.agg #[dq,ef,dj]] #[false,false,false] [dq,ef,dj] #[aE,au,aB,cw,cA,cO,fO,fi,eP]):ae 171 #[.agg #[aE,au,aB,cw,cA,cO,fO,fi,eP],a1,.agg #[dq,ef,dj]] w R:=
 cq ⟨[],[(3,⟨[(8,.ptr)],[],[]⟩)],[]⟩ func171 h
def ag8.vc{a0:Value}(h:
 sN (λI0 n1=>I0 n1 (0) w) λI0 n1 zF x3 w4=>
 Br (x3<3)
 (bB Tryz.prog a0 [x3] w4 (EK λb7 w6=>Br (!b7)
 (R false w6)
 (∃n5,n5<n1/\I0 n5 ((aw (x3+1))) w6)))
 (R true w4)):ae 176 #[a0] w R:=
 cq (Of 2 4) func176 h
def Jy.vc{c0:Addr}{c1:Addr}(h:(λA B=>
 gM w.drew (af (some c0) 0) λx0 x1 x2=>
 gM w.drew A λx3 x4 x5=>
 ae 178 #[.agg #[x0,x1,x2],a0] w.drew (kX λx7 w6=>ah w6 A 0 [x3,x4,x5]/\ae 178 #[.agg #[x3,x4,x5],a0] w6 (kX λx9 w8=>Br (x7<x9)
 (gM w8 (af (some c1) 0) λbE bK bW=>
 gM w8 B λcR cB cW=>
 ae 178 #[.agg #[bE,bK,bW],a0] w8 (kX λdH cD=>ah cD B 0 [cR,cB,cW]/\ae 178 #[.agg #[cR,cB,cW],a0] cD (kX λdb dI=>R (uD (decide (dH<db))) dI)))
 (R false w8)))) (af (some c1) 3) (af (some c0) 3)):ae 177 #[a0,c0,c1] w R:=
 cq bG func177 h
def PG.vc(h:
 Aw w #[aE,au,aB,cw,cA,cO] 107 λw0=>
 Aw w0 #[aH,aG,aM,dW,gy,gE] 107 λw1=>
 ae 176 #[.func (.func 177) #[] #[w,.pointer (aD w0)]] w1 (EK λb3 w2=>R b3 w2)):ae 124 #[.agg #[aE,au,aB,cw,cA,cO],.agg #[aH,aG,aM,dW,gy,gE]] w R:=
 cq bG func124 h
def PH.vc{c0:Addr}{c1:Addr}(h:(λA B C=>
 gM w.drew (af (some c0) 3) λx0 x1 x2=>
 gM w.drew C λx3 x4 x5=>
 gM w.drew B λx6 x7 x8=>
 gM w.drew A λx9 bE bK=>
 ae 178 #[.agg #[x0,x1,x2],a0] w.drew (kX λcR cC=>ah cC A 0 [x9,bE,bK]/\ah cC B 0 [x6,x7,x8]/\ah cC C 0 [x3,x4,x5]/\ae 178 #[.agg #[x3,x4,x5],a0] cC (kX λcW bH=>ah bH A 0 [x9,bE,bK]/\ah bH B 0 [x6,x7,x8]/\ae 178 #[.agg #[x6,x7,x8],a0] bH (kX λdH cD=>ah cD A 0 [x9,bE,bK]/\ae 178 #[.agg #[x9,bE,bK],a0] cD (kX λdb dI=>R ((aw ((if cW<cR then cW else cR)-(if db>dH then db else dH)))) dI))))) (af (some c1) 0) (af (some c0) 0) (af (some c1) 3)):ae 239 #[a0,c0,c1] w R:=
 cq bG func239 h
def Yj.vc{eP:Bool}{De:Bool}(h:(λ(A:LV)(B:LV)(C:Array Value)(D:LV)(E:Array Value)(G:Array Value)(H:Array Value)=>
 Aw w #[aE,au,aB,cw,cA,cO,fO,fi,eP] 70 λw0=>(λAa=>
 Aw w0 #[aH,aG,aM,dW,gy,gE,J8,J9,De] 70 λw1=>
 Aw w1 H 28 λw2=>(λAb=>
 Aw w2 H 28 λw3=>(λAc=>
 ∃J4:Option Addr->Option Addr->World->Prop,
 ((ae 48 G w3.drew (yj λx6 x7 x8 x9 bE bK w5=>(λ(Ad:Array Value) Ae Af=>Ab w3.drew w5 (
 ah w5 Aa 0 A/\(ae 48 E w5 (yj λcR cB cW du dH dc cC=>Ab w5 cC (
 (Aw cC C 107 λfK=>
 Aw fK C 107 λfx=>
 Sw fx cC Ad λdU=>
 Sw dU fK #[cR,cB,cW,du,dH,dc] λdm=>
 aN B/\aN A/\aN D/\aN D/\J4 (aD cC) (aD fK) dm)/\(Aw cC C 107 λfQ=>
 Aw fQ C 107 λgC=>
 Sw gC fQ Ad λcZ=>
 Sw cZ cC #[cR,cB,cW,du,dH,dc] λgx=>
 aN B/\aN A/\aN D/\aN D/\J4 (aD fQ) (aD cC) gx))))/\(Aw w5 C 107 λfy=>
 (ae 48 E fy (yj λjk nu lp lr fD jO iY=>Af fy iY (
 Aw iY C 107 λgT=>
 Sw gT w5 Ad λkH=>
 Sw kH iY #[jk,nu,lp,lr,fD,jO] λiR=>
 aN B/\aN A/\aN D/\aN D/\J4 Ae (aD iY) iR)))/\(Aw fy C 107 λoE=>
 ae 48 E oE (yj λpF om qU zp pk uN kR=>K6 w w0 w1 w2 w5 fy oE kR (
 Sw kR w5 Ad λsI=>
 Sw sI fy #[pF,om,qU,zp,pk,uN] λnA=>
 aN B/\aN A/\aN D/\aN D/\J4 Ae (aD fy) nA))))/\(Aw w5 C 107 λiw=>
 (ae 48 E iw (yj λsS rA rq kS qV oG pG=>Af iw pG (
 Aw pG C 107 λsJ=>
 Sw sJ pG Ad λnB=>
 Sw nB w5 #[sS,rA,rq,kS,qV,oG] λEr=>
 aN B/\aN A/\aN D/\aN D/\J4 (aD pG) Ae Er)))/\(Aw iw C 107 λqE=>
 ae 48 E qE (yj λzI ox uQ BN sR oI oU=>K6 w w0 w1 w2 w5 iw qE oU (
 Sw oU iw Ad λoy=>
 Sw oy w5 #[zI,ox,uQ,BN,sR,oI] λuK=>
 aN B/\aN A/\aN D/\aN D/\J4 (aD iw) Ae uK)))))) #[x6,x7,x8,x9,bE,bK] (aD w5) (K5 w w0 w1 w2 w5)))/\(Aw w3.drew C 107 λOn=>
 (ae 48 G On (yj λuM wM uW BY Fk II qD=>Ab On qD (
 qD.heap[w3.drew.heap.size]? =On.heap[w3.drew.heap.size]?/\
 ah qD Aa 0 A/\(ae 48 E qD (yj λOj Kc FX zJ zK Fl uO=>Ab qD uO (
 uO.heap[w3.drew.heap.size]? =qD.heap[w3.drew.heap.size]?/\
 Aw uO C 107 λJg=>
 Sw Jg w3.drew.heap.size #[uM,wM,uW,BY,Fk,II] λw85=>
 Sw w85 uO #[Oj,Kc,FX,zJ,zK,Fl] λw86=>
 aN B/\aN A/\aN D/\aN D/\J4 Ac (aD uO) w86)))/\(Aw qD C 107 λEo=>
 ae 48 E Eo (yj λx89 x90 FZ LZ Ep x94 NI=>Ab Eo NI (
 NI.heap[w3.drew.heap.size]? =Eo.heap[w3.drew.heap.size]?/\Kp qD Eo NI/\
 Sw NI w3.drew.heap.size #[uM,wM,uW,BY,Fk,II] λw95=>
 Sw w95 qD #[x89,x90,FZ,LZ,Ep,x94] λEs=>
 aN B/\aN A/\aN D/\aN D/\J4 Ac (aD qD) Es))))))/\(Aw On C 107 λw97=>
 ae 48 G w97 (yj λOl BO oJ vY zB Kj Tj=>Ab w97 Tj (
 Tj.heap[w3.drew.heap.size]? =w97.heap[w3.drew.heap.size]?/\Kp On w97 Tj/\
 ah Tj Aa 0 A/\ae 48 E Tj (yj λDg BL Sp sK mz uP BP=>Ab Tj BP (
 BP.heap[w3.drew.heap.size]? =Tj.heap[w3.drew.heap.size]?/\Kp On Tj BP/\
 Sw BP w3.drew.heap.size #[Ol,BO,oJ,vY,zB,Kj] λBM=>
 Sw BM On #[Dg,BL,Sp,sK,mz,uP] λVX=>
 aN B/\aN A/\aN D/\aN D/\J4 Ac (aD On) VX))))))/\(Aw w3.drew C 107 λKq=>
 (ae 48 G Kq (yj λafC aiM ary afD abn abo Fx=>Ab Kq Fx (
 Fx.heap[w3.drew.heap.size]? =Kq.heap[w3.drew.heap.size]?/\
 ah Fx Aa 0 A/\(ae 48 E Fx (yj λN0 VS anj IQ VT afe uR=>Ab Fx uR (
 uR.heap[w3.drew.heap.size]? =Fx.heap[w3.drew.heap.size]?/\
 Aw uR C 107 λaxI=>
 Sw axI uR #[afC,aiM,ary,afD,abn,abo] λaxJ=>
 Sw axJ w3.drew.heap.size #[N0,VS,anj,IQ,VT,afe] λaxL=>
 aN B/\aN A/\aN D/\aN D/\J4 (aD uR) Ac axL)))/\(Aw Fx C 107 λSq=>
 ae 48 E Sq (yj λank anl anm ann ano VU aiN=>Ab Sq aiN (
 aiN.heap[w3.drew.heap.size]? =Sq.heap[w3.drew.heap.size]?/\Kp Fx Sq aiN/\
 Sw aiN Fx #[afC,aiM,ary,afD,abn,abo] λaxM=>
 Sw axM w3.drew.heap.size #[ank,anl,anm,ann,ano,VU] λaxN=>
 aN B/\aN A/\aN D/\aN D/\J4 (aD Fx) Ac axN))))))/\(Aw Kq C 107 λsL=>
 ae 48 G sL (yj λafk afl afm Sj afn axO Sr=>Ab sL Sr (
 Sr.heap[w3.drew.heap.size]? =sL.heap[w3.drew.heap.size]?/\Kp Kq sL Sr/\
 ah Sr Aa 0 A/\ae 48 E Sr (yj λaxQ axR axS axT axU axW aiO=>Ab Sr aiO (
 aiO.heap[w3.drew.heap.size]? =Sr.heap[w3.drew.heap.size]?/\Kp Kq Sr aiO/\
 Sw aiO Kq #[afk,afl,afm,Sj,afn,axO] λaxX=>
 Sw axX w3.drew.heap.size #[axQ,axR,axS,axT,axU,axW] λaxY=>
 aN B/\aN A/\aN D/\aN D/\J4 (aD Kq) Ac axY)))))))/\
 ∀aCM:Nat->Value,∀(Ss Su:Option Addr)(afE:World),J4 Ss Su afE->
 DM afE Ss λaxZ ax3 ax4 aiP ax5 ax6=>
 DM afE Su λax7 aft afu afv ax8 afw=>
 ae 124 #[.agg #[axZ,ax3,ax4,aiP,ax5,ax6],.agg #[ax7,aft,afu,afv,ax8,afw]] afE (Rb λax9 Sv=>Ab afE Sv (
 Br (!ax9)
 (Sw Sv w1 H λarz=>
 Sw arz w2 H λarA=>
 R (dS #[.agg H,.agg H]) arA)
 (∃anp:Int->World->Prop,
 (ae 239 #[ai,Ss,Su] Sv (Ri λaya aiQ=>Ab Sv aiQ (
 ae 239 #[(2:Int),Ss,Su] aiQ (Ri λayb aiR=>Ab aiQ aiR (
 Br (aya>ayb)
 (aN B/\aN A/\aN D/\aN D/\anp (2) aiR)
 (aN B/\aN A/\aN D/\aN D/\anp (0) aiR))))))/\
 ∀aCN:Nat->Value,∀(abp:Int)(anq:World),anp abp anq->
 ∃arB:Int->World->Prop,
 (ae 239 #[abp,Ss,Su] anq (Ri λabi Sk=>Ab anq Sk (
 aN B/\aN A/\aN D/\aN D/\arB ((if 4096<abi then 4096 else abi)) Sk)))/\
 ∀aCO:Nat->Value,∀(Fo:Int)(Ko:World),arB Fo Ko->
 ∃anr:Int->World->Prop,
 (ae 178 #[.agg #[aE,au,aB],abp] Ko.drew (Ri λKn abq=>Ab Ko.drew abq (
 ah abq Aa 0 [aH,aG,aM]/\ae 178 #[.agg #[aH,aG,aM],abp] abq (Ri λVV Sn=>Ab abq Sn (
 Br (Kn<=VV)
 (aN B/\aN A/\aN D/\aN D/\anr ((aw (0-Fo))) Sn)
 (aN B/\aN A/\aN D/\aN D/\anr Fo Sn))))))/\
 ∀aCP:Nat->Value,∀(VW:Int)(zE:World),anr VW zE->
 ae 155 #[.agg H,abp,VW] zE (jl λarC arD Kr afF=>Ab zE afF (
 ae 155 #[.agg H,abp,(aw (0-VW))] afF (jl λafA afB afG ans=>Ab afF ans (
 Sw ans w1 #[arC,arD,Kr] λarE=>
 Sw arE w2 #[afA,afB,afG] λarF=>
 R (dS #[.agg #[arC,arD,Kr],.agg #[afA,afB,afG]]) arF)))))))) (aD w3.drew.heap.size)) (K4 w w0 w1 w2)) (aD w0)) [aH,aG,aM,dW,gy,gE,J8,J9,De] [aE,au,aB,cw,cA,cO,fO,fi,eP] #[ai,ai,ai,ai,ai,ai] [ai,ai,ai] #[.agg #[aH,aG,aM,dW,gy,gE,J8,J9,De]] #[.agg #[aE,au,aB,cw,cA,cO,fO,fi,eP]] #[ai,ai,ai]):ae 170 #[.agg #[aE,au,aB,cw,cA,cO,fO,fi,eP],.agg #[aH,aG,aM,dW,gy,gE,J8,J9,De]] w R:=
 cq ⟨[],[(11,⟨[(10,.int .i64)],[],[]⟩),(9,⟨[(10,.int .i64)],[],[]⟩),(8,⟨[(9,.int .i64)],[],[]⟩),(2,⟨[(6,.ptr),(7,.ptr)],[],[]⟩)],[]⟩ func170 h
def AE.vc{a0:Sl}(h:
 Br (a0.a).isNone
 (R (Value.slice none 0 0) w)
 (Aw w #[] 70 λw0=>
 ∃l1:LV,Rd w0 a0.a l1/\ba 72 9 w0 ⟨(aD w),0,0⟩ a0.n l1/\∀(s2:Sl)(w3:World),aX 70 9 w0 ⟨(aD w),0,0⟩ a0.n l1 s2 w3->Kp w w0 w3/\
 R s2 w3)):ae 169 #[a0] w R:=
 cq bG func169 h
def TZ.vc{a0:Value}{a1:Sl}(h:(λA=>
 ae 169 #[a1] w (ua λs1 w0=>sN (λI2 n3=>I2 n3 (0) w0) λI2 n3 us4 x5 w6=>(λAa Ab=>
 Br (decide (x5<((s1.n:Nat):Int)))
 (sN (λI8 n9=>I8 n9 Ab w6) λI8 n9 abr bK cC=>(λAc Ad=>
 Br (decide (bK<((s1.n:Nat):Int)))
 (∃J14:Option Addr->Option Addr->World->Prop,
 (eL s1.a x5 s1.n/\ij cC.drew Aa λcW du dH dc db dN eO fN b23=>(λAe=>
 eL s1.a bK s1.n/\ij cC.drew Ac λgW eZ jN jm nv jk nu lp b32=>(λAf=>
 (ae 170 Af cC.drew (acS λjO oV oW lh km qv fL=>(Aw fL A 28 λkz=>
 Aw kz A 28 λoF=>
 Sw oF fL #[jO,oV,oW] λlf=>
 Sw lf kz #[lh,km,qv] λjW=>
 J14 (aD fL) (aD kz) jW)/\(Aw fL A 28 λme=>
 Aw me A 28 λzL=>
 Sw zL me #[jO,oV,oW] λsI=>
 Sw sI fL #[lh,km,qv] λnA=>
 J14 (aD me) (aD fL) nA)))/\(Aw cC.drew A 28 λiw=>
 (ae 170 Af iw (acS λsS rA rq kS qV oG pG=>pG.heap[cC.drew.heap.size]? =iw.heap[cC.drew.heap.size]?/\
 Aw pG A 28 λsJ=>
 Sw sJ cC.drew.heap.size #[sS,rA,rq] λnB=>
 Sw nB pG #[kS,qV,oG] λEr=>
 J14 Ad (aD pG) Er))/\(Aw iw A 28 λqE=>
 ae 170 Af qE (acS λzI ox uQ BN sR oI oU=>oU.heap[cC.drew.heap.size]? =qE.heap[cC.drew.heap.size]?/\Kp iw qE oU/\
 Sw oU cC.drew.heap.size #[zI,ox,uQ] λoy=>
 Sw oy iw #[BN,sR,oI] λuK=>
 J14 Ad (aD iw) uK)))/\(Aw cC.drew A 28 λOn=>
 (ae 170 Af On (acS λuM wM uW BY Fk II qD=>qD.heap[cC.drew.heap.size]? =On.heap[cC.drew.heap.size]?/\
 Aw qD A 28 λuO=>
 Sw uO qD #[uM,wM,uW] λrD=>
 Sw rD cC.drew.heap.size #[BY,Fk,II] λKi=>
 J14 (aD qD) Ad Ki))/\(Aw On A 28 λxX=>
 ae 170 Af xX (acS λzK Fl Ke Kf x86 vX xq=>xq.heap[cC.drew.heap.size]? =xX.heap[cC.drew.heap.size]?/\Kp On xX xq/\
 Sw xq On #[zK,Fl,Ke] λNI=>
 Sw NI cC.drew.heap.size #[Kf,x86,vX] λqw=>
 J14 (aD On) Ad qw)))) #[.agg Ae,.agg #[gW,eZ,jN,jm,nv,jk,nu,lp,b32]]) #[cW,du,dH,dc,db,dN,eO,fN,b23])/\
 ∀ayc:Nat->Value,∀(p91 p92:Option Addr)(L3:World),J14 p91 p92 L3->
 ∃J94:World->Prop,
 (eL s1.a x5 s1.n/\ij L3.drew Aa λOo Oq IL x98 Ol BO oJ vY afc=>
 gM L3.drew p91 λKj zC Dg=>
 ae 171 #[.agg #[Oo,Oq,IL,x98,Ol,BO,oJ,vY,afc],a0,.agg #[Kj,zC,Dg]] L3.drew (acI λSp sK mz uP kT Kl Si aiS Sh IP=>eL s1.a x5 s1.n/\((Aa).isSome=true/\Wr IP Aa 9)/\(Pw IP Aa [Sp,sK,mz,uP,kT,Kl,Si,aiS,Sh] λVR=>
 J94 VR)))/\
 ∀aCS:Nat->Value,∀(Di:World),J94 Di->
 eL s1.a bK s1.n/\ij Di.drew Ac λabn abo afd N0 VS anj IQ VT amF=>
 gM Di.drew p92 λaff afg afh=>
 ae 171 #[.agg #[abn,abo,afd,N0,VS,anj,IQ,VT,amF],a0,.agg #[aff,afg,afh]] Di.drew (acI λayd ank anl anm ann ano VU afj aye Sq=>eL s1.a bK s1.n/\((Ac).isSome=true/\Wr Sq Ac 9)/\(Pw Sq Ac [ayd,ank,anl,anm,ann,ano,VU,afj,aye] λsL=>
 ∃n13,n13<n9/\I8 n13 ((aw (bK+1))) sL)))
 (∃n7,n7<n3/\I2 n7 Ab cC)) (af s1.a ((bK:Int).toNat*9)) (aD cC.drew.heap.size))
 (R s1 w6)) (af s1.a ((x5:Int).toNat*9)) ((aw (x5+1))))) #[ai,ai,ai]):ae 117 #[a0,a1] w R:=
 cq ⟨[(6,⟨[(7,.int .i64)],[],[]⟩),(3,⟨[(14,.int .i64)],[],[]⟩)],[(10,⟨[],[],[]⟩),(9,⟨[(8,.ptr),(9,.ptr)],[],[]⟩)],[]⟩ func117 h
open Go.cg Go.aR Go.Code Go.ej Go.dR Go.gF
def zA{w v:World}{o:Obj}(e:v=w.alloc o):v.heap.size=w.heap.size+1:=by rw [e];simp
def zR{w v:World}{g:Nat}{c:Array Value}(e:v=w.setRow g c):v.heap.size=w.heap.size:=by rw [e];simp
def PU{v:Value}{V:Ce->Int}{w:World}(hV:Tl v V w)(hv:lF v=[])(b:Bx):ae 234 #[v,td b] w λe w'=>e=Value.bool (iI V b λx=>x==4)/\Ext w w':=by apply Mv.vc;intro w0 e0;have x0:=aQ e0;have z0:=zA e0;refine (He (hV.ext x0) hv b (.func (.func 274) #[] #[]) rfl (λx=>x==4) λx w'=>cH (by kernel_rfl) rfl (Mw.vc ⟨rfl,Ext.cG _⟩)).mono ?_;rintro e w1 ⟨rfl,x1⟩;exact ⟨_,rfl,x1.heap aa,rfl,x0.tr x1⟩
def Ys{v:Value}{V:Ce->Int}{w:World}(hV:Tl v V w)(hv:lF v=[])(b:Bx):ae 235 #[v,td b] w λe w'=>e=Value.bool (iI V b sb)/\Ext w w':=by
 apply Yh.vc;intro w0 e0;have x0:=aQ e0;have z0:=zA e0;refine (He (hV.ext x0) hv b (.func (.func 202) #[] #[]) rfl sb λx w'=>cH (by kernel_rfl) rfl ((pR x w').mono ?_)).mono ?_
 ·rintro e w'' ⟨rfl,rfl⟩;exact ⟨rfl,Ext.cG _⟩
 rintro e w1 ⟨rfl,x1⟩;exact ⟨_,rfl,x1.heap aa,rfl,x0.tr x1⟩
def wy(n:Int)(w:World):ae 260 #[n] w λe w'=>e=Value.tuple #[.int .u64 (max (cU n) (-(cU n))),.bool (decide (cU n<0))]/\w'=w:=by
 apply TY.vc;refine (iq n w).mono ?_;rintro e w0 ⟨rfl,rfl⟩;have hc:=kC n;refine ⟨_,rfl,Br.mk (λh=> ?_) (λh=> ?_)⟩
 ·have h':cU n<0:=by simpa using h
  rw [wI,yp aa,h];exact ⟨by rw [show max (cU n) (-(cU n))=0-cU n from by omega],rfl⟩
 ·have h':¬cU n<0:=by simpa using h
  rw [yp aa,h];exact ⟨by rw [show max (cU n) (-(cU n))=cU n from by omega],rfl⟩
def WR{x:Int}(h:0<=x/\x<4294967296):uy .u64 x 4294967295=x:=by
 unfold uy;have e:(BitVec.ofInt IntKind.u64.bits x &&& BitVec.ofInt IntKind.u64.bits 4294967295).toNat=x.toNat:=by
  show (BitVec.ofInt 64 x &&& BitVec.ofInt 64 4294967295).toNat=_;rw [AH];have h1:(BitVec.ofInt 64 4294967295).toNat=2 ^ 32-1:=by decide
  rw [h1,Nat.and_two_pow_sub_one_eq_mod,zV];omega
 rw [e,Int.toNat_of_nonneg h.1];exact yp aa
def p32:(2 ^(min (32:Int).toNat 64):Int)=4294967296:=by decide
def Ud(x:Int)(h:0<=x/\x<=65536)(w:World):ae 273 #[.int .u64 x,.int .u64 16384] w λe w'=>e=Value.tuple #[.int .u64 0,.int .u64 (x*16384)]/\w'=w:=by
 apply EG.vc;have f:∀y:Int,y.fdiv 4294967296=y / 4294967296:=λy=>ud _ aA
 have q1:x / 4294967296=0:=by omega
 have q3:x*16384 / 4294967296=0:=by omega
 rw [p32,WR (x:=x) aa,WR (x:=16384) aa];simp only [f];rw [q1,show (16384:Int) / 4294967296=0 from by decide,yp (n:=x*16384) aa,q3,Int.zero_mul,Int.zero_mul,Int.mul_zero];exact ⟨congrArg (λn=>Ending.returned (.tuple #[.int .u64 n,.int .u64 (x*16384)])) aA,trivial⟩
def ahg(q:Int)(hq:0<=q/\q<=100000000000000)(below rest:Bool){c0 c1:Nat}{w:World}{τ τ':TypeId}(h0:Row w c0 [.bool below] τ)(h1:Row w c1 [.bool rest] τ'):
  ae 285 #[.int .u64 q,c0,c1] w λe w'=>e=Value.int .u64 (if below=true/\rest=true then q+1 else q)/\w'=w:=by
 apply Jw.vc;refine ⟨below,h0.at 0 rfl,?_⟩
 cases below with
 |false=>exact ⟨rfl,rfl⟩
 |true=>
  refine ⟨rest,h1.at 0 rfl,?_⟩
  cases rest with
  |false=>exact ⟨rfl,rfl⟩
  |true=>exact ⟨by rw [yp aa];rfl,rfl⟩
def Hf(q:Int)(hq:0<=q/\q<=100000000000000)(rest below:Bool)(w:World):ae 261 #[.int .u64 q,rest,below] w λe w'=>e=Value.int .i64 (if below=true then -(if rest=true then q+1 else q) else q)/\Ext w w':=by
 apply PF.vc;intro w0 e0 w1 e1;have x0:=aQ e0;have z0:=zA e0;have r0:Row w0 w [.bool rest] 4:=Row.nw e0;have x1:=aQ e1;have r1:Row w1 w0 [.bool below] 4:=Row.nw e1;refine gd tP ⟨below,r1.at 0 rfl,?_⟩
 cases below with
 |false=>exact ⟨by rw [wI];rfl,x0.tr x1⟩
 |true=>
  refine (ahg q hq true rest r1 (r0.ext x1)).mono ?_;rintro e w7 ⟨rfl,rfl⟩;refine ⟨_,rfl,?_⟩;have e:(if (true=true/\rest=true) then q+1 else q)=if rest=true then q+1 else q:=by simp
  rw [e];have hb:0<=(if rest=true then q+1 else q)/\(if rest=true then q+1 else q)<=100000000000001:=by split<;>omega
  generalize (if rest=true then q+1 else q)=y at*;rw [aK (n:=y) gA,wI];exact ⟨by rw [if_pos rfl,Int.zero_sub],x0.tr x1⟩
def ac4(n:Int)(h: -65536<=n/\n<=65536)(w:World):ae 232 #[n,(16384:Int)] w λe w'=>e=Value.int .i64 (n / 4)/\Ext w w':=by
 apply Yi.vc;refine (wy n w).mono ?_;rintro e w0 ⟨rfl,rfl⟩;have hc:cU n=n:=g9 aa;have hd:cU 16384=16384:=by decide
 rw [hc];refine ⟨_,_,rfl,(wy 16384 w0).mono ?_⟩;rintro e w3 ⟨rfl,rfl⟩;rw [hd];refine ⟨_,_,rfl,(Ud (max n (-n)) aa w3).mono ?_⟩;rintro e w6 ⟨rfl,rfl⟩;refine ⟨_,_,rfl,gd rfl ?_⟩;have hf:(max n (-n)*16384).fdiv (2 ^(min (16:Int).toNat 64))=max n (-n) / 4:=by rw [p16,ud _ aA];omega
 have hr:Int.tmod (max n (-n)*16384) 65536=max n (-n) % 4*16384:=by rw [DH aa];omega
 rw [hf,hr];refine (Hf (max n (-n) / 4) aa _ _ w6).mono ?_;rintro e bw ⟨rfl,bK⟩;refine ⟨_,rfl,?_,bK⟩;have hs:(!(decide (n<0)==decide ((16384:Int)<0)))=decide (n<0):=by
  by_cases q:n<0
  ·rw [decide_eq_true q];rfl
  ·rw [decide_eq_false q];rfl
 rw [hs];congr 2;by_cases q:n<0
 ·rw [decide_eq_true q,if_pos rfl];by_cases q2:max n (-n) % 4=0
  ·rw [q2];show -(max n (-n) / 4)=n / 4;omega
  ·have:(max n (-n) % 4*16384 !=0)=true:=by simp;omega
   rw [this,if_pos rfl];omega
 ·rw [decide_eq_false q];show max n (-n) / 4=n / 4;omega
def DN(n:Int)(w:World):ae 231 #[n] w λe w'=>e=Value.int .i64 (AI n)/\Ext w w':=by
 apply AB.vc;have e:(if 65536<(if (-65536)>n then (-65536) else n) then 65536 else (if (-65536)>n then (-65536) else n))=min (max n (-65536)) 65536:=by
  repeat' split
  all_goals omega
 rw [e];refine (ac4 _ aa w).mono ?_;rintro e w1 ⟨rfl,x1⟩;exact ⟨_,rfl,rfl,x1⟩
def Ue(b:Bx)(v:Ce)(w:World):ae 300 #[td b,eg v] w λe w'=>e=(td (WS b v))/\Ext w w':=by apply acR.vc;intro w0 e0 w1 e1 w2 e2;have x0:=aQ e0;have z0:=zA e0;have r0:Row w0 w (qA b) gu:=Row.nw e0;have x1:=aQ e1;have z1:=zA e1;have r1:Row w1 w0 (dZ v) iM:=Row.nw e1;have x2:Ext w1 w2.drew:=(aQ e2).drew;have z2:w2.drew.heap.size=w1.heap.size+1:=(zA e2:w2.heap.size=_);refine (jS b.1 v w2.drew).mono ?_;rintro e w3 ⟨rfl,x3⟩;have z3:=x3.size;refine ⟨_,_,_,rfl,x3.heap aa,x3.heap aa,x3.heap aa,Lo.wv (r1.ext (x2.tr x3)),ti (r0.ext (x1.tr (x2.tr x3))) rfl rfl rfl,(jS b.2 v w3).mono ?_⟩;rintro e w7 ⟨rfl,x7⟩;have z7:=x7.size;exact ⟨_,_,_,rfl,x7.heap aa,x7.heap aa,x7.heap aa,λbw BG=>⟨rfl,(x0.tr (x1.tr (x2.tr (x3.tr x7)))).ab BG aa⟩⟩
def Uf(b:Bx)(ax k:Int)(hk:dJ (k+1))(w:World):ae 312 #[td b,ax,k] w λe w'=>e=(td (lS b ax k))/\Ext w w':=by apply PC.vc;rw [aK hk];intro w0 e0 w1 e1;have x0:=aQ e0;have z0:=zA e0;have r0:Row w0 w (qA b) gu:=Row.nw e0;have x1:Ext w0 w1.drew:=(aQ e1).drew;have z1:w1.drew.heap.size=w0.heap.size+1:=(zA e1:w1.heap.size=_);have r1:=r0.ext x1;refine (tn k w1.drew).mono ?_;rintro e w2 ⟨rfl,rfl⟩;refine ⟨_,rfl,rfl,rfl,ti r1 rfl rfl rfl,ti r1 rfl rfl rfl,(jG b.1 ax (nO k) w1.drew).mono ?_⟩;rintro e w4 ⟨rfl,x4⟩;have z4:=x4.size;refine ⟨_,_,_,rfl,x4.heap aa,x4.heap aa,ti (r1.ext x4) rfl rfl rfl,(tn (k+1) w4).mono ?_⟩;rintro e w8 ⟨rfl,rfl⟩;refine ⟨_,rfl,rfl,rfl,ti (r1.ext x4) rfl rfl rfl,(jG b.2 ax (nO (k+1)) _).mono ?_⟩;rintro e bo ⟨rfl,bE⟩;have XB:=bE.size;exact ⟨_,_,_,rfl,bE.heap aa,bE.heap aa,λbH uU=>⟨rfl,(x0.tr (x1.tr (x4.tr bE))).ab uU aa⟩⟩
abbrev tq(b:Bx)(ax d:Int):List (LV):=(cm b ax d).map λx=> [.int .i64 x.1,.int .i64 x.2]
abbrev ajS(g:Nat):Value:=.func (.func 322) #[] #[g,.pointer (some ⟨g+1,0,none⟩),.pointer (some ⟨g+2,0,none⟩)]
def Qg(b:Bx)(ax d:Int)(w:World):ae 311 #[td b,ax,d] w λe w'=>e=(ajS w)/\Row w' w (qA b) gu/\Row w' (w.heap.size+1) [ax] 3/\Row w' (w.heap.size+2) [d] 3/\Ext w w':=by apply Mx.vc;intro w0 e0 w1 e1 w2 e2;have z0:=zA e0;have z1:=zA e1;have r0:Row w0 w (qA b) gu:=Row.nw e0;have r1:Row w1 w0 [ax] 3:=Row.nw e1;have r2:Row w2 w1 [d] 3:=Row.nw e2;have x1:=aQ e1;have x2:=aQ e2;rw [z0] at r1;rw [z1,z0] at r2;exact ⟨by rw [z1,z0],r0.ext (x1.tr x2),r1.ext x2,r2,(aQ e0).tr (x1.tr x2)⟩
def MZ{k:Int}(h: -2147483648<=k/\k<=2147483648):nO k=k*65536:=by unfold nO;omega
def Qh(b:Bx)(ax d:Int)(hb:bN b 100000000000000)(hd: -4194304<=d/\d<=4194304)(g:Nat)(W0:World)(h0:Row W0 g (qA b) gu)(h1:Row W0 (g+1) [ax] 3)(h2:Row W0 (g+2) [d] 3):
  Iter Tryz.prog (ajS g) W0 (λi=>i=g\/i=g+1\/i=g+2) (tq b ax d):=by
 refine ⟨⟨_,_,_,rfl,by kernel_rfl⟩,?_⟩;intro y B J Jx F0 W hB hsJ hsX zo hRd hround hJ0;refine cH (by kernel_rfl) (by rfl) ?_;apply G1.vc;have rows:∀{wr:World},(∀i,(i=g\/i=g+1\/i=g+2)->wr.heap[i]? =W0.heap[i]?)->Row wr g (qA b) gu/\Row wr (g+1) [ax] 3/\Row wr (g+2) [d] 3:=λh=>⟨h0.same (h _ (.inl rfl)),h1.same (h _ (.inr (.inl rfl))),h2.same (h _ (.inr (.inr rfl)))⟩
 obtain ⟨q0,q1,q2⟩:=rows λi hi=>(hRd i hi).2.2
 have xd:=Ext.dr W;have FA:=hb.ax aA ax;refine ⟨_,_,_,ti (o:=0) (q0.ext xd) rfl rfl rfl,_,(q1.ext xd).at 0 rfl,_,_,_,ti (o:=3) (q0.ext xd) rfl rfl rfl,_,(q1.ext xd).at 0 rfl,(da b.1 ax W.drew).mono ?_⟩;rintro e w8 ⟨rfl,x8⟩;refine ⟨_,rfl,Lo.wv (q1.ext (xd.tr x8)),ti (o:=3) (q0.ext (xd.tr x8)) rfl rfl rfl,(da b.2 ax w8).mono ?_⟩;rintro e bo ⟨rfl,bE⟩;have xW:=xd.tr (x8.tr bE);refine ⟨_,rfl,_,(q2.ext xW).at 0 rfl,?_⟩;obtain ⟨Q,hQ⟩:∃Q:Nat->World->Prop,Q=λk wr=>∃F,J k F wr/\∀i,(i=g\/i=g+1\/i=g+2)->¬F i/\i<wr.heap.size/\wr.heap[i]? =W0.heap[i]? :=⟨_,rfl⟩
 have ext:∀{k:Nat} {wr wr':World},Q k wr->Ext wr wr'->W.heap.size<=wr->Q k wr':=λ{k wr wr'} h x hz=>by rw [hQ] at h ⊢;obtain ⟨F,hJ,hk⟩:=h;exact ⟨F,hsJ _ _ _ _ hJ (Below.mono x aa) λi hi=>x.heap (zo _ _ _ hJ i hi),λi hi=>⟨(hk i hi).1,kr (hk i hi).2.1 x.size,(x.heap (hk i hi).2.1).trans (hk i hi).2.2⟩⟩
 have init:Q 0 bo:=by refine ext (wr:=W) ?_ xW (ak _);rw [hQ];exact ⟨F0,hJ0,hRd⟩
 have qrow:∀{k:Nat} {wr:World},Q k wr->Row wr (g+2) [d] 3:=λh=>by rw [hQ] at h;obtain ⟨F,-,hk⟩:=h;exact h2.same (hk _ (.inr (.inr rfl))).2.2
 have round:∀{k:Nat} {wr:World} {x:LV},W.heap.size<=wr->(tq b ax d)[k]? =some x->Q k wr->bB Tryz.prog y x wr λe w'=>W.heap.size<=w'.heap.size/\((e=true/\Q (k+1) w')\/(e=false/\∃F',Jx () F' w')):=λ{k wr x} hz hx h=>by
  rw [hQ] at h ⊢;obtain ⟨F,hJ,hk⟩:=h;refine bV (hround _ _ _ _ hx hJ) ?_;rintro e w' (⟨rfl,F2,Wb,iC⟩|⟨rfl,F2,Wb,iC⟩)
  ·refine ⟨by have:=iC.size;omega,.inl ⟨rfl,F2,Wb,λi hi=> ?_⟩⟩;obtain ⟨p1,p2,p3⟩:=hk i hi;refine ⟨λhf=> ?_,kr p2 iC.size,(iC.same i p2 p1).trans p3⟩;rcases iC.sub i hf with hf|hf
   ·exact p1 hf
   ·omega
  ·exact ⟨by have:=iC.size;omega,.inr ⟨rfl,F2,Wb⟩⟩
 have fin:∀{wr:World},Q (tq b ax d).length wr->∃F',J (tq b ax d).length F' wr:=λh=>by rw [hQ] at h;obtain ⟨F,hJ,-⟩:=h;exact ⟨F,hJ⟩
 have zW:=xW.size;apply Br.mk<;>intro Dc
 ·have Dc:=cS Dc;have hL:cm b ax d=(List.range (UW (cN b.2 ax) d (bO (cN b.2 ax+65535)))).map λi:Nat=>(bO (cN b.2 ax+65535)+i,(bO (cN b.2 ax+65535)+i)*65536-cN b.2 ax):=by unfold cm;rw [if_pos Dc]
  have Jc:∀{k:Nat},k<UW (cN b.2 ax) d (bO (cN b.2 ax+65535))->(tq b ax d)[k]? =some [.int .i64 (bO (cN b.2 ax+65535)+k),.int .i64 ((bO (cN b.2 ax+65535)+k)*65536-cN b.2 ax)]:=λ{k} hk=>by unfold tq;rw [hL,aS,aS,Gl hk];rfl
  have dp:(tq b ax d).length=UW (cN b.2 ax) d (bO (cN b.2 ax+65535)):=by unfold tq;rw [hL];simp
  have IH:bO (cN b.2 ax+65535)=(cN b.2 ax+65535) / 65536:=by unfold bO;rw [g9 aa]
  generalize tq b ax d=xs at*;generalize cN b.2 ax=top at*;generalize cN b.1 ax=low at*;rw [aK (n:=top+65536) gA,aK (n:=top+65536-1) gA,show top+65536-1=top+65535 from by omega];refine (pV (top+65535) bo).mono ?_;rintro e bP ⟨rfl,az7⟩;subst az7;rw [IH] at Jc dp ⊢;have af5:∀i:Nat,((top+65535) / 65536+(i:Int))*65536<top+d ↔ i<UW top d ((top+65535) / 65536):=λi=>W9 aa
  have hn:UW top d ((top+65535) / 65536)<=100:=by unfold UW;omega
  generalize UW top d ((top+65535) / 65536)=N at*;refine ⟨_,rfl,λn x wr=>∃k:Nat,x=(top+65535) / 65536+k/\k+n=N/\Q k wr/\W.heap.size<=wr,⟨N,0,aa,aa,init,zW⟩,?_⟩;rintro n us x wr ⟨k,rfl,hk,hq,zr⟩;have xr:=Ext.dr wr;have hqd:=ext hq xr zr;have zrd:W.heap.size<=wr.drew.heap.size:=zr;refine ⟨_,(qrow hqd).at 0 rfl,(tn _ wr.drew).mono ?_⟩;rw [MZ aa];rintro e dm ⟨rfl,az8⟩;subst az8;refine ⟨_,rfl,Lo.wv (qrow hqd),?_⟩;rw [aK (n:=top+d) gA];refine Br.mk (λhc=>(tn _ wr.drew).mono ?_) (λhc=> ?_)
  ·have hc:=(af5 k).1 (by simpa using hc);rw [MZ aa];rintro e gC ⟨rfl,az9⟩;subst az9;have wq:aw (((top+65535) / 65536+(k:Int))*65536-top)=((top+65535) / 65536+(k:Int))*65536-top:=wI;have wk:aw ((top+65535) / 65536+(k:Int)+1)=(top+65535) / 65536+((k+1:Nat):Int):=by rw [wI];omega
   refine ⟨_,rfl,?_⟩;rw [wq];refine bV (round zrd (Jc hc) hqd) ?_;rintro e gx ⟨z26,⟨rfl,XC⟩|⟨rfl,Wc⟩⟩
   ·exact ⟨true,rfl,Br.mk (λh=>by cases h) (λ_=>⟨n-1,aa,k+1,wk,aa,XC,z26⟩)⟩
   ·exact ⟨false,rfl,Br.mk (λ_=>⟨⟨_,rfl⟩,.inr Wc⟩) (λh=>by cases h)⟩
  ·have hc:¬k<N:=λq=>absurd ((af5 k).2 q) (by simpa using hc)
   have e:k=N:=by omega
   subst e;rw [<-dp] at hqd;exact ⟨⟨_,rfl⟩,.inl (fin hqd)⟩
 ·have Dc:=cS Dc;have hL:cm b ax d=(List.range (qg (cN b.1 ax) d (bO (cN b.1 ax)-1))).map λi:Nat=>(bO (cN b.1 ax)-1-i,(bO (cN b.1 ax)-1-i+1)*65536-cN b.1 ax):=by unfold cm;rw [if_neg Dc]
  have Jc:∀{k:Nat},k<qg (cN b.1 ax) d (bO (cN b.1 ax)-1)->(tq b ax d)[k]? =some [.int .i64 (bO (cN b.1 ax)-1-k),.int .i64 ((bO (cN b.1 ax)-1-k+1)*65536-cN b.1 ax)]:=λ{k} hk=>by unfold tq;rw [hL,aS,aS,Gl hk];rfl
  have dp:(tq b ax d).length=qg (cN b.1 ax) d (bO (cN b.1 ax)-1):=by unfold tq;rw [hL];simp
  have IH:bO (cN b.1 ax)=cN b.1 ax / 65536:=by unfold bO;rw [g9 aa]
  generalize tq b ax d=xs at*;generalize cN b.2 ax=top at*;generalize cN b.1 ax=low at*;refine (pV low bo).mono ?_;rintro e iY ⟨rfl,aAa⟩;subst aAa;rw [IH] at Jc dp ⊢;have af5:∀i:Nat,low+d<(low / 65536-1-(i:Int)+1)*65536 ↔ i<qg low d (low / 65536-1):=λi=>Lp
  have hn:qg low d (low / 65536-1)<=100:=by unfold qg;omega
  generalize qg low d (low / 65536-1)=N at*;have ws:aw (low / 65536-1)=low / 65536-1:=wI;refine ⟨_,rfl,?_⟩;rw [ws];refine ⟨λn x wr=>∃k:Nat,x=low / 65536-1-k/\k+n=N/\Q k wr/\W.heap.size<=wr,⟨N,0,aa,aa,init,zW⟩,?_⟩;rintro n us x wr ⟨k,rfl,hk,hq,zr⟩;have xr:=Ext.dr wr;have hqd:=ext hq xr zr;have zrd:W.heap.size<=wr.drew.heap.size:=zr;have w1:aw (low / 65536-1-(k:Int)+1)=low / 65536-1-(k:Int)+1:=wI;rw [w1];refine ⟨_,(qrow hqd).at 0 rfl,(tn _ wr.drew).mono ?_⟩;rw [MZ aa];rintro e iR ⟨rfl,aAb⟩;subst aAb;refine ⟨_,rfl,Lo.wv (qrow hqd),?_⟩;rw [aK (n:=low+d) gA];refine Br.mk (λhc=>(tn _ wr.drew).mono ?_) (λhc=> ?_)
  ·have hc:=(af5 k).1 (by simpa using hc);rw [MZ aa];rintro e kR ⟨rfl,aoj⟩;subst aoj;have wq:aw ((low / 65536-1-(k:Int)+1)*65536-low)=(low / 65536-1-(k:Int)+1)*65536-low:=wI;have wk:aw (low / 65536-1-(k:Int)-1)=low / 65536-1-((k+1:Nat):Int):=by rw [wI];omega
   refine ⟨_,rfl,?_⟩;rw [wq];refine bV (round zrd (Jc hc) hqd) ?_;rintro e oF ⟨z41,⟨rfl,XC⟩|⟨rfl,Wc⟩⟩
   ·exact ⟨true,rfl,Br.mk (λh=>by cases h) (λ_=>⟨n-1,aa,k+1,wk,aa,XC,z41⟩)⟩
   ·exact ⟨false,rfl,Br.mk (λ_=>⟨⟨_,rfl⟩,.inr Wc⟩) (λh=>by cases h)⟩
  ·have hc:¬k<N:=λq=>absurd ((af5 k).2 q) (by simpa using hc)
   have e:k=N:=by omega
   subst e;rw [<-dp] at hqd;exact ⟨⟨_,rfl⟩,.inl (fin hqd)⟩
def adk{b:Bx}{ax d:Int}{n:Nat}{x y:Int}(h:(tq b ax d)[n]? =some [.int .i64 x,.int .i64 y]):(cm b ax d)[n]? =some (x,y):=by
 unfold tq at h;rw [aS] at h
 cases hc:(cm b ax d)[n]? with
 |none=>rw [hc] at h;cases h
 |some c=>
  rw [hc] at h;simp only [oK] at h;injection h with h;injection h with h1 h;injection h with h2 _;injection h1 with _ h1;injection h2 with _ h2;exact congrArg some (Prod.ext h1 h2)
def awh(d:Int):(if 4194304<(if (-4194304)>d then (-4194304) else d) then 4194304 else (if (-4194304)>d then (-4194304) else d))=ln d:=by
 unfold ln
 repeat' split
 all_goals omega
def Us{v:Value}{V:Ce->Int}{w:World}(hV:Tl v V w)(hv:lF v=[])(b:Bx)(hb:bN b 100000000000000)(ax d:Int)(V7:0<=ax/\ax<3):
  ae 299 #[v,td b,ax,d] w λe w'=>e=Value.tuple #[.int .i64 (eE V ao b ax d).1,.bool (eE V ao b ax d).2]/\Ext w w':=by
 apply TV.vc;rw [hv,rK,awh];have hd:=AS d;intro w0 e0 w1 e1 w2 e2 w3 e3 w4 e4;have x0:=aQ e0;have z0:=zA e0;have r0:∃τ,Row w0 w [v] τ:=⟨_,by rw [e0];exact Row.new w [_] _⟩;have x1:=aQ e1;have z1:=zA e1;have x2:=aQ e2;have z2:=zA e2;have x3:=aQ e3;have z3:=zA e3;have x4:=aQ e4;have z4:=zA e4;have El:=x0.tr (x1.tr (x2.tr (x3.tr x4)));obtain ⟨τ0,r0⟩:=r0;refine gd tP (gd tP ((Qg b ax (ln d) w4).mono ?_));rintro e w9 ⟨rfl,hb9,ha9,hd9,x9⟩;have z9:=x9.size;have l9:=hd9.lt;have Sx:=El.tr x9;have r9:=r0.ext (x1.tr (x2.tr (x3.tr (x4.tr x9))));refine ⟨_,rfl,x9.heap aa,x9.heap aa,x9.heap aa,x9.heap aa,x9.heap aa,tq b ax (ln d),λi=>i=w4.heap.size\/i=w4.heap.size+1\/i=w4.heap.size+2,λ_=>False,
  λn F y bb w'=>(∀i,¬F i)/\(∀x ∈(cm b ax (ln d)).take n,iI V (lS b ax x.1) ao=false)/\Mod (λi=>w9.heap.size<=i) w9 w',
  λo F y bb w'=>(∀i,¬F i)/\(y,bb)=eE V ao b ax d/\Mod (λi=>i=w2.heap.size\/i=w3.heap.size\/w9.heap.size<=i) w9 w',?_,?_,?_,λn F y bb w' h i hi=>(h.1 i hi).elim,λo F y bb w' h i hi=>(h.1 i hi).elim,λi hi=> ?_,λzL zy=> ?_,?_,?_,?_⟩
 ·intro x hx;obtain ⟨c,-,rfl⟩:=aU.1 hx;exact ⟨_,_,rfl⟩
 ·rintro n F y bb dU dm ⟨h1,h2,h3⟩ lj -;exact ⟨h1,h2,h3.tr ⟨lj.os,lj.tape,lj.output,lj.size,λi hi hn=>lj.block i (KR hn)⟩ λi hi=> .inl hi⟩
 ·rintro o F y bb dU dm ⟨h1,h2,h3⟩ lj -;exact ⟨h1,h2,h3.tr ⟨lj.os,lj.tape,lj.output,lj.size,λi hi hn=>lj.block i (KR hn)⟩ λi hi=> .inl (.inr (.inr hi))⟩
 ·rcases hi with rfl|rfl|rfl<;>exact ⟨aa,id,aa,aa,aa,aa,aa,trivial⟩
 ·exact ⟨Qh b ax (ln d) hb hd _ zL (hb9.same (zy.ext.block _ aa)) (ha9.same (zy.ext.block _ aa)) (hd9.same (zy.ext.block _ aa)),rfl,rfl,rfl,λi h=>h,λc hc=>by simp at hc,Mod.aC zy.ext⟩
 ·rintro n F us y50 b51 rq kS sJ hx hI;have z56:=hI.2.2.size;refine ⟨Below.refl _ _,λnB g8 afJ=> ?_⟩;obtain ⟨hF,l8,hM⟩:=afJ;have zr:=g8.size;have hc:=adk hx;have fw:=aO hc;have oh:=Qi hb hd _ fw;have z57:=hM.size;have ht:(cm b ax (ln d)).take (n+1)=(cm b ax (ln d)).take n++ [(rq,kS)]:=by rw [dy,hc];rfl
  have zd:=m7 nB;have ayS:Tl v V nB.drew:=by obtain ⟨D,hD1,hD2⟩:=hV;refine ⟨D,λi hi=>by have:=hD1 i hi;have:=Sx.size;omega,λw' hk=>hD2 w' λi hi=>(hk i hi).trans ?_⟩;have:=hD1 i hi;have:=Sx.size;exact (hM.same i aa aa).trans (Sx.heap aa)
  refine (Uf b ax rq (by simp only at oh;unfold dJ;omega) nB.drew).mono ?_;rintro e oU ⟨rfl,oo⟩;have z60:=oo.size;have afK:=hM.trans (Mod.aC ((Ext.dr nB).tr oo));refine ⟨_,_,_,_,_,_,rfl,oo.heap aa,oo.heap aa,oo.heap aa,oo.heap aa,oo.heap aa,Lo.wv (afK.row r9 aa),(o5 (ayS.ext oo) hv (lS b ax rq)).mono ?_⟩;rintro e jX ⟨rfl,ox⟩;have z62:=ox.size;have Sz:=afK.trans (Mod.aC ox);refine ⟨_,rfl,ox.heap aa,ox.heap aa,ox.heap aa,ox.heap aa,ox.heap aa,Br.mk (λhq=>λuV e64 LY e65=> ?_) (λhq=> ?_)⟩
  ·have hax2:eE V ao b ax d=(kS,true):=by
    unfold eE;have hf:(cm b ax (ln d)).find? (λx=>iI V (lS b ax x.1) ao)=some (rq,kS):=by
     have hsplit:cm b ax (ln d)=(cm b ax (ln d)).take n++(rq,kS)::(cm b ax (ln d)).drop (n+1):=by
      have h1:=qM n (cm b ax (ln d));have h2:(cm b ax (ln d)).drop n=(rq,kS)::(cm b ax (ln d)).drop (n+1):=by have hl:=(bZ.1 hc);rw [ue hl.1,hl.2]
      rw [h2] at h1;exact h1.symm
     rw [hsplit,List.find?_append,DV.2 λx hx=>by rw [l8 x hx];decide];simp [hq]
    rw [hf]
   have ayx:LY.heap.size=jX.heap.size:=by rw [e65,setRow_size,e64,setRow_size]
   have anz:∀i,i≠w2.heap.size->i≠w3.heap.size->LY.heap[i]? =jX.heap[i]? :=λi h1 h2=>by rw [e65,setRow_other _ _ _ _ h2,e64,setRow_other _ _ _ _ h1]
   have afL:Mod (λi=>i=w2.heap.size\/i=w3.heap.size) jX LY:=⟨by rw [e65,e64];rfl,by rw [e65,e64];rfl,by rw [e65,e64];rfl,aa,λi _ hn=>anz i (λq=>hn (.inl q)) (λq=>hn (.inr q))⟩;refine ⟨rfl,λ_=>False,⟨rfl,rfl,rfl,λi h=>h,hax2.symm,(Sz.mono λi _ h=> .inr (.inr h)).trans (afL.mono λi _ h=>h.elim .inl λh=> .inr (.inl h))⟩,?_⟩;have IT:=((Mod.aC (F:=λi=>i=w2.heap.size\/i=w3.heap.size) (((Ext.dr nB).tr oo).tr ox))).trans afL;refine Step.late ⟨λi hi=> ?_,IT.size,λi hi hn=>IT.same i hi λq=>hn (.inr ?_)⟩
   ·rcases hi with h|h
    ·exact h.elim
    ·exact .inl (.inr h)
   ·rcases q with rfl|rfl<;>simp
  ·have SR:=((Ext.dr nB).tr oo).tr ox;refine ⟨λ_=>False,⟨rfl,rfl,rfl,λi h=>h,λc hc=> ?_,Sz⟩,Step.late ⟨λi hi=> ?_,SR.size,λi hi _=>SR.block i hi⟩⟩
   ·rw [ht,bX] at hc;rcases hc with hc|hc
    ·exact l8 c hc
    ·rw [fT.1 hc];exact hq
   ·rcases hi with h|h
    ·exact h.elim
    ·exact .inl (.inr h)
 ·rintro F us y70 b73 oq ⟨hF,l8,hM⟩ V3 rC e75 pH e76;have z74:=hM.size;have dp:(tq b ax (ln d)).length=(cm b ax (ln d)).length:=by unfold tq;simp
  rw [dp,jg] at l8;have hax2:eE V ao b ax d=(ln d,false):=by unfold eE;rw [DV.2 λx hx=>by rw [l8 x hx];decide]
  rw [hax2];refine ⟨by rw [e76,setRow_other _ _ _ _ aa,e75,setRow_other _ _ _ _ aa];exact V3,λuO g8=>⟨rfl,?_⟩⟩;have BY:Ext w oq:=hM.ext Sx λi hi=>by have:=Sx.size;omega
  have II:Ext w pH:=(BY.ab e75 aa).ab e76 aa;exact (Mod.q9 g8).ext II λi hi=>by have:=Sx.size;omega
 ·rintro F us y80 b83 Jg ⟨hF,hax2,hM⟩ V3;rw [<-hax2];refine ⟨V3,λw85 g8=>⟨rfl,?_⟩⟩;have Ke:Ext w Jg:=hM.ext Sx λi hi=>by have:=Sx.size;omega
  exact (Mod.q9 g8).ext Ke λi hi=>by have:=Sx.size;omega
def pQ{v:Value}{V:Ce->Int}{w:World}(hV:Tl v V w)(hv:lF v=[])(b:Bx)(hb:bN b 100000000000000)(ax d:Int)(V7:0<=ax/\ax<3):
  ae 275 #[v,td b,ax,d] w λe w'=>e=Value.tuple #[td (bY V ao b ax d).1,.bool (bY V ao b ax d).2]/\Ext w w':=by
 apply PE.vc;intro w0 e0 w1 e1;have x0:=aQ e0;have z0:=zA e0;have r0:Row w0 w (qA b) gu:=Row.nw e0;have x1:=aQ e1;have z1:=zA e1;refine (Us (hV.ext (x0.tr x1)) hv b hb ax d V7).mono ?_;rintro e w2 ⟨rfl,x2⟩;have z2:=x2.size;have zd:=m7 w2;refine ⟨_,_,rfl,x2.heap aa,x2.heap aa,(jG (0,0,0) ax (eE V ao b ax d).1 w2.drew).mono ?_⟩;rintro e w5 ⟨rfl,x5⟩;have z5:=x5.size;refine ⟨_,_,_,rfl,x5.heap aa,x5.heap aa,Lo.wv (r0.ext (x1.tr (x2.tr ((Ext.dr w2).tr x5)))),(Ue b (im (0,0,0) ax (eE V ao b ax d).1) w5).mono ?_⟩;rintro e w9 ⟨rfl,x9⟩;have z9:=x9.size;exact ⟨_,_,_,_,_,_,rfl,x9.heap aa,x9.heap aa,λcD FY=>⟨rfl,(x0.tr (x1.tr (x2.tr ((Ext.dr w2).tr (x5.tr x9))))).ab FY aa⟩⟩
abbrev Ht:=Bool × Bool × Bool
abbrev hL(h:Ht):LV:=[.bool h.1,.bool h.2.1,.bool h.2.2]
abbrev kJ:TypeId:=299
def Pp(h:Ht):One (hL h):=by intro v hv;simp at hv;rcases hv with rfl|rfl|rfl<;>rfl
def qx{g h o:Nat}(hn:g≠h):bk (fP g o)≠some h:=λq=>hn (Option.some.inj q)
def qX{g h o n:Nat}(hn:g≠h):bk (af (fP g o) n)≠some h:=by rw [cP];exact qx hn
def FG{wr:World}{gh go gb:Nat}{h:Ht}{cs:LV}(rh:Row wr gh (hL h) kJ)(ro:Row wr go cs kJ)(hc:cs.length=3)(hZ:gh≠go)(h1:gb≠gh)(h2:gb≠go)(c:Array Value):
  ah wr.drew (aD gh) 0 (hL h)/\∀gC:World,gC=wr.drew.setRow gb c->ah gC (aD gh) 0 (hL h)/\Wr gC (aD go) 3/\∀cZ:World,cZ=Vc.bF gC (aD go) (hL h)->ah cZ (aD go) 0 (hL h)/\Mod (λi=>i=gb\/i=go) wr cZ:=by
 have xd:=Ext.dr wr;refine ⟨Lo.wv (rh.ext xd),λgC J5=> ?_⟩;have rh2:Row gC gh (hL h) kJ:=(rh.ext xd).same (by rw [J5];exact setRow_other _ _ _ _ h1.symm);have ro2:Row gC go cs kJ:=(ro.ext xd).same (by rw [J5];exact setRow_other _ _ _ _ h2.symm);have m24:Mod (λi=>i=gb\/i=go) wr gC:=by refine (Mod.aC xd).trans ⟨by rw [J5];rfl,by rw [J5];rfl,by rw [J5];rfl,by rw [J5,setRow_size];exact ak _,λi _ hn=>by rw [J5];exact setRow_other _ _ _ _ λq=>hn (.inl q)⟩
 refine ⟨Lo.wv rh2,ro2.wr aa,λcZ zk=> ?_⟩;rw [ro2.bF (vs:=hL h) (by rw [hc];exact ak _) (Pp h),dE (by rw [hc];rfl)] at zk;have r25:Row cZ go (hL h) kJ:=ro2.st zk;exact ⟨Lo.wv r25,m24.trans ⟨by rw [zk];rfl,by rw [zk];rfl,by rw [zk];rfl,by rw [zk,setRow_size];exact ak _,λi _ hn=>by rw [zk];exact setRow_other _ _ _ _ λq=>hn (.inr q)⟩⟩
def Pq(V:Ce->Int)(p:Int->Bool)(b:Bx)(d:Ce):Nat->Bx × Ht
 |0=>(b,(false,false,false))
 |1=>((bY V p b 1 d.2.1).1,(false,(bY V p b 1 d.2.1).2,false))
 |2=>((bY V p (bY V p b 1 d.2.1).1 0 d.1).1,((bY V p (bY V p b 1 d.2.1).1 0 d.1).2,(bY V p b 1 d.2.1).2,false))
 |_=>kV V p b d
def ag0{V:Ce->Int}{p:Int->Bool}{b:Bx}{d:Ce}{m:Int}(hb:bN b m)(hm:m<=99990000000000){k:Nat}(hk:k<3):bN (Pq V p b d k).1 100000000000000:=by
 have up:∀{c:Bx} {a:Int},bN c a->a<=100000000000000->bN c 100000000000000:=λh1 h2=>by unfold bN at h1 ⊢;omega
 have h1:=dK (V:=V) (p:=p) (ax:=1) (d:=d.2.1) hb aa;have h2:=dK (V:=V) (p:=p) (ax:=0) (d:=d.1) h1 aa;have:k=0\/k=1\/k=2:=by omega
 rcases this with rfl|rfl|rfl
 ·exact up hb aa
 ·exact up h1 aa
 ·exact up h2 aa
def GJ{v:Value}{V:Ce->Int}{w:World}(hV:Tl v V w)(hv:lF v=[])(b:Bx){m:Int}(hb:bN b m)(hm:m<=99990000000000)(d:Ce):
  ae 240 #[v,td b,eg d] w λe w'=>e=Value.tuple #[td (kV V ao b d).1,.agg (hL (kV V ao b d).2).toArray]/\Ext w w':=by
 apply TD.vc;intro w0 e0 w1 e1 w2 e2 w3 e3 w4 e4;have x0:=aQ e0;have z0:=zA e0;have r0:Row w0 w (qA b) gu:=Row.nw e0;have x1:=aQ e1;have z1:=zA e1;have x2:=aQ e2;have z2:=zA e2;have x3:=aQ e3;have z3:=zA e3;have r3:Row w3 w2 (hL (false,false,false)) kJ:=Row.nw e3;have x4:=aQ e4;have z4:=zA e4;have r4:Row w4 w3 (hL (false,false,false)) kJ:=Row.nw e4;have El:=x0.tr (x1.tr (x2.tr (x3.tr x4)));refine ⟨λn x a1 a2 a3 a4 a5 a6 wr=>∃k:Nat,x=k/\k+n=3/\a1=(Pq V ao b d k).1.1.1/\a2=(Pq V ao b d k).1.1.2.1/\a3=(Pq V ao b d k).1.1.2.2/\a4=(Pq V ao b d k).1.2.1/\a5=(Pq V ao b d k).1.2.2.1/\a6=(Pq V ao b d k).1.2.2.2/\Row wr w (qA (Pq V ao b d k).1) gu/\Row wr w3 (hL (Pq V ao b d k).2) kJ/\Row wr w2 (hL (false,false,false)) kJ/\Ext w wr,
  ⟨3,rfl,rfl,0,rfl,rfl,rfl,rfl,rfl,rfl,rfl,rfl,r0.ext (x1.tr (x2.tr (x3.tr x4))),r4,r3.ext x4,El⟩,?_⟩
 rintro n us x a1 a2 a3 a4 a5 a6 wr ⟨k,rfl,hk,rfl,rfl,rfl,rfl,rfl,rfl,hb',hh,ho,xr⟩;have l3:=hh.lt;apply Br.mk<;>intro hc
 ·have hc:=cS hc;have BH:k=0\/k=1\/k=2:=by omega
  have Em:=ag0 (V:=V) (p:=ao) (d:=d) hb hm (k:=k) aa;obtain ⟨a,ha,ha1,ha2,ha3⟩:∃a:Nat,a<3/\([(1:Int),ai,(2:Int)]:LV)[((k:Nat):Int).toNat*1]? =some (.int .i64 (a:Int))/\(Pq V ao b d (k+1)).1=(bY V ao (Pq V ao b d k).1 a (cN d a)).1/\aP (hL (Pq V ao b d k).2) a [.bool (bY V ao (Pq V ao b d k).1 a (cN d a)).2]=hL (Pq V ao b d (k+1)).2:=by
   rcases BH with rfl|rfl|rfl
   ·exact ⟨1,aA,rfl,rfl,rfl⟩
   ·exact ⟨0,aA,rfl,rfl,rfl⟩
   ·exact ⟨2,aA,rfl,rfl,rfl⟩
  have zd:=m7 wr;refine ⟨⟨aa,aa⟩,_,ha1,(da d a wr.drew).mono ?_⟩;rintro e dI ⟨rfl,dc⟩;have z18:=dc.size;have aq3:=xr.tr ((Ext.dr wr).tr dc);refine ⟨_,rfl,dc.heap aa,dc.heap aa,dc.heap aa,Lo.wv (hb'.ext ((Ext.dr wr).tr dc)),(pQ (hV.ext aq3) hv (Pq V ao b d k).1 Em a (cN d a) aa).mono ?_⟩;rintro e fx ⟨rfl,dN⟩;have z20:=dN.size;have ae3:=(Ext.dr wr).tr (dc.tr dN);refine ⟨_,_,_,_,_,_,_,rfl,dN.heap aa,dN.heap aa,dN.heap aa,λiY e28=> ?_⟩;generalize hy:bY V ao (Pq V ao b d k).1 a (cN d a)=y at*;have rb:Row iY w (qA y.1) gu:=by rw [e28];exact Row.set (hb'.ext ae3) [_,_,_,_,_,_]
  have rh:Row iY w3 (hL (Pq V ao b d k).2) kJ:=(hh.ext ae3).same (by rw [e28];exact setRow_other _ _ _ _ aa);have ro:Row iY w2 (hL (false,false,false)) kJ:=(ho.ext ae3).same (by rw [e28];exact setRow_other _ _ _ _ aa);have nv:Ext w iY:=(aq3.tr dN).ab e28 (ak _);have hpp:af (aD w3.heap.size) (((a:Nat):Int).toNat*1)=af (aD w3.heap.size) a:=by rw [dQ,As]
  obtain ⟨p1,p2⟩:=rh.ic (j:=a) (v:=.bool y.2) ha rfl;have wk:=ov (j:=k);rw [hpp];refine ⟨aa,aa,⟨rfl,p1⟩,qX aa,qX aa,qX aa,λeG Se=> ?_⟩;obtain ⟨q1,q2⟩:=p2 eG Se;exact ⟨n-1,aa,rfl,rfl,k+1,wk,aa,by rw [ha2],by rw [ha2],by rw [ha2],by rw [ha2],by rw [ha2],by rw [ha2],by rw [ha2];exact rb.same (q2.same _ rb.lt aa),by rw [<-ha3];exact q1,ro.same (q2.same _ ro.lt aa),q2.ext nv λi hi=>by omega⟩
 ·have hc:=cS hc;have BH:k=3:=by omega
  subst BH;obtain ⟨q1,q2⟩:=FG (gb:=w1.heap.size) hh ho rfl aa aa aa _;refine ⟨_,_,_,q1,λfL e33=> ?_⟩;obtain ⟨q3,q4,q5⟩:=q2 fL e33;refine ⟨q3,⟨rfl,q4⟩,qx aa,qx aa,qx aa,λlq e34=> ?_⟩;obtain ⟨q6,q7⟩:=q5 lq e34;exact ⟨_,_,_,q6,rfl,q7.ext xr λi hi=>by omega⟩
def Lk(a b:Bx)(ha:bN a 100000000000000)(hb:bN b 100000000000000)(w:World):ae 276 #[td a,td b] w λe w'=>e=Value.int .i64 (QO a b)/\Ext w w':=by
 apply TW.vc;intro w0 e0 w1 e1;have x1:Ext w w1.drew:=((aQ e0).br e1).drew;unfold bN at ha hb;rw [aK (n:=b.1.1-a.1.1) gA,aK (n:=b.1.2.2-a.1.2.2) gA,aK (n:=0-(b.1.1-a.1.1)) gA,aK (n:=0-(b.1.2.2-a.1.2.2)) gA];have e1:∀y:Int,(if 0-y>y then 0-y else y)=max y (-y):=λy=>by split<;>omega
 rw [e1,e1,wI];exact ⟨rfl,x1⟩
def stK(h:Ht)(v:Ce):Nat->Ce
 |0=>v
 |1=>if h.1 then im v 0 0 else v
 |2=>(λv=>if h.2.1 then im v 1 0 else v) (if h.1 then im v 0 0 else v)
 |_=>gN h v
def Zx(h:Ht)(v:Ce)(w:World):ae 238 #[.agg (hL h).toArray,eg v] w λe w'=>e=(eg (gN h v))/\Ext w w':=by
 apply ED.vc;intro w0 e0 w1 e1 w2 e2;have x0:=aQ e0;have z0:=zA e0;have r0:Row w0 w (hL h) kJ:=Row.nw e0;have x1:=aQ e1;have z1:=zA e1;have x2:=aQ e2;have z2:=zA e2;have xh:=x0.tr (x1.tr x2);refine ⟨_,_,_,Lo.wv (r0.ext (x1.tr x2)),λn x a1 a2 a3 wr=>∃k:Nat,x=k/\k+n=3/\(a1,a2,a3)=stK h v k/\Ext w wr/\w2.heap.size<=wr,⟨3,rfl,0,rfl,rfl,rfl,xh,ak _⟩,?_⟩;rintro n us x a1 a2 a3 wr ⟨k,rfl,hk,hs,xr,zr⟩;apply Br.mk<;>intro hc
 ·have hc:=cS hc;have BH:k=0\/k=1\/k=2:=by omega
  obtain ⟨r,hr1,oS⟩:∃r:Bool,([.bool h.1,.bool h.2.1,.bool h.2.2]:LV)[((k:Nat):Int).toNat*1]? =some (.bool r)/\stK h v (k+1)=if r then im (stK h v k) k 0 else stK h v k:=by
   rcases BH with rfl|rfl|rfl
   ·exact ⟨h.1,rfl,rfl⟩
   ·exact ⟨h.2.1,rfl,rfl⟩
   ·exact ⟨h.2.2,rfl,rfl⟩
  have wk:=ov (j:=k);refine ⟨⟨aa,aa⟩,r,hr1,Br.mk (λhq=>(jG (a1,a2,a3) k 0 wr).mono ?_) (λhq=> ?_)⟩
  ·rintro e cD ⟨rfl,du⟩;have z16:=du.size;refine ⟨_,_,_,rfl,du.heap aa,du.heap aa,λfx Nz=>⟨n-1,aa,rfl,k+1,wk,aa,?_,(xr.tr du).ab Nz aa,by rw [zR Nz];omega⟩⟩;rw [oS,hq,if_pos rfl,<-hs]
  ·exact ⟨n-1,aa,rfl,k+1,wk,aa,by rw [oS,hq,if_neg aA,<-hs],xr,zr⟩
 ·have hc:=cS hc;have BH:k=3:=by omega
  subst BH;intro dU zh;have hs:(a1,a2,a3)=gN h v:=hs;refine ⟨by rw [<-hs],xr.ab zh aa⟩
def qO{b:Bx}{m n:Int}(h:bN b m)(hmn:m<=n):bN b n:=by unfold bN at h ⊢;omega
def UN{v:Value}{V:Ce->Int}{w:World}(hV:Tl v V w)(hv:lF v=[])(b:Bx){m:Int}(hb:bN b m)(hm:m<=99980000000000)(d:Ce)(up:Int):
  ae 236 #[v,td b,eg d,up] w λe w'=>e=Value.tuple #[td (ik V ao b d up).1,.agg (hL (ik V ao b d up).2).toArray]/\Ext w w':=by
 apply TX.vc;have hup:(if 65536<up then 65536 else up)=min up 65536:=by split<;>omega
 rw [hup];intro w0 e0 w1 e1 w2 e2 w3 e3;have x0:=aQ e0;have z0:=zA e0;have r0:Row w0 w (qA b) gu:=Row.nw e0;have x1:=aQ e1;have z1:=zA e1;have r1:Row w1 w0 (dZ d) iM:=Row.nw e1;have x2:=aQ e2;have z2:=zA e2;have x3:=aQ e3;have z3:=zA e3;have r3:Row w3 w2 (hL (false,false,false)) kJ:=Row.nw e3;have Da:=x0.tr (x1.tr (x2.tr x3));refine (GJ (hV.ext Da) hv b hb aa d).mono ?_;rintro e w4 ⟨rfl,x4⟩;have z4:=x4.size;have hpn:=Mu (V:=V) (p:=ao) (d:=d) hb aa;have hstep:ik V ao b d up=(if ((!(kV V ao b d).2.1 && !(kV V ao b d).2.2.2)||decide (up<=0)|| !iI V (jB b) ao)=true then kV V ao b d else if QO b (bY V ao (bY V ao (bY V ao (bY V ao b 1 (min up 65536)).1 0 d.1).1 2 d.2.2).1 1 (-((bY V ao b 1 (min up 65536)).1.1.2.1-b.1.2.1))).1<=QO b (kV V ao b d).1 then kV V ao b d else ((bY V ao (bY V ao (bY V ao (bY V ao b 1 (min up 65536)).1 0 d.1).1 2 d.2.2).1 1 (-((bY V ao b 1 (min up 65536)).1.1.2.1-b.1.2.1))).1,((bY V ao (bY V ao b 1 (min up 65536)).1 0 d.1).2,true,(bY V ao (bY V ao (bY V ao b 1 (min up 65536)).1 0 d.1).1 2 d.2.2).2))):=rfl;generalize kV V ao b d=mv at*;refine ⟨_,_,_,_,_,_,_,_,_,rfl,x4.heap aa,x4.heap aa,x4.heap aa,λbH uU ee qu cD FY=> ?_⟩;have cB:=aQ uU;have z14:=zA uU;have cW:=aQ qu;have z15:=zA qu;have r15:Row ee bH (hL (false,false,false)) kJ:=Row.nw qu;have z16:=zR FY;have r16:Row cD bH (hL (false,false,false)) kJ:=r15.same (by rw [FY];exact setRow_other _ _ _ _ aa);have azP:Row cD w4 (qA mv.1) gu:=by rw [FY];exact Row.set ((by rw [uU];exact Row.new w4 [_,_,_,_,_,_] _:Row bH w4 _ gu).ext cW) [_,_,_,_,_,_]
 have du:Ext w4 cD:=(cB.tr cW).ab FY (ak _);refine ⟨⟨rfl,r16.wr bg⟩,qx aa,qx aa,qx aa,qx aa,λcL BX=> ?_⟩;rw [r16.bF (vs:=hL mv.2) bg (Pp _),dE bg] at BX;have rh:Row cL bH (hL mv.2) kJ:=r16.st BX;have z17:=zR BX;have dH:Ext w4 cL:=du.ab BX aa;have rp:Row cL w4 (qA mv.1) gu:=azP.same (by rw [BX];exact setRow_other _ _ _ _ aa);have ajl:=Da.tr (x4.tr dH);have as1:=x1.tr (x2.tr (x3.tr (x4.tr dH)));have ro:Row cL w2 (hL (false,false,false)) kJ:=r3.ext (x4.tr dH);have rb:=r0.ext as1;have rd:=r1.ext (x2.tr (x3.tr (x4.tr dH)));have plain:∀wr:World,Ext cL wr->ik V ao b d up=mv->∃(Th:Bool)(b22:Bool)(b23:Bool),ah wr.drew (aD bH.heap.size) 0 [.bool Th,b22,b23]/\
   ∀gC:World,gC=wr.drew.setRow w1 #[mv.1.1.1,mv.1.1.2.1,mv.1.1.2.2,mv.1.2.1,mv.1.2.2.1,mv.1.2.2.2]->
   ah gC (aD bH.heap.size) 0 [.bool Th,b22,b23]/\(true=true/\Wr gC (aD w2.heap.size) 3)/\bk (aD w2.heap.size)≠some w.heap.size/\bk (aD w2.heap.size)≠some w0.heap.size/\bk (aD w2.heap.size)≠some w1.heap.size/\bk (aD w2.heap.size)≠some w4.heap.size/\(∀cZ:World,cZ=Vc.bF gC (aD w2.heap.size) [.bool Th,b22,b23]->
   ∃(Kh:Bool)(Ka:Bool)(XH:Bool),ah cZ (aD w2.heap.size) 0 [.bool Kh,Ka,XH]/\
   (Ending.returned (.tuple #[.agg #[mv.1.1.1,mv.1.1.2.1,mv.1.1.2.2,mv.1.2.1,mv.1.2.2.1,mv.1.2.2.2],.agg #[Kh,Ka,XH]])=Value.tuple #[td (ik V ao b d up).1,.agg (hL (ik V ao b d up).2).toArray]/\Ext w cZ)):=λwr x iC=>by
  have zx:=x.size;obtain ⟨q1,q2⟩:=FG (gb:=w1.heap.size) (rh.ext x) (ro.ext x) rfl aa aa aa #[mv.1.1.1,mv.1.1.2.1,mv.1.1.2.2,mv.1.2.1,mv.1.2.2.1,mv.1.2.2.2];refine ⟨_,_,_,q1,λgC J5=> ?_⟩;obtain ⟨q3,q4,q5⟩:=q2 gC J5;refine ⟨q3,⟨rfl,q4⟩,qx aa,qx aa,qx aa,qx aa,λcZ zk=> ?_⟩;obtain ⟨q6,q7⟩:=q5 cZ zk;exact ⟨_,_,_,q6,by rw [iC],q7.ext (ajl.tr x) λi hi=>by omega⟩
 have iC:∀wr:World,Ext cL wr->Tl v V wr:=λwr x=>hV.ext (ajl.tr x)
 refine ⟨λwj=>Ext cL wj/\¬((!mv.2.1 && !mv.2.2.2)||decide (up<=0)|| !iI V (jB b) ao)=true,?_,?_⟩
 ·refine ⟨aA,aA,mv.2.1,rh.at 0 rfl,Br.mk (λq1=>⟨aA,aA,mv.2.2.2,rh.at 2 rfl,Br.mk (λq2=>plain cL (Ext.cG _) (by rw [hstep,if_pos (by rw [q1,q2];rfl)])) (λq2=> ?_)⟩) (λq1=> ?_)⟩
  all_goals
   have hcf:(!mv.2.1 && !mv.2.2.2)=false:=by first|rw [q2,Bool.and_false]|rw [q1,DR]
   refine Br.mk (λq3=>plain cL (Ext.cG _) (by rw [hstep,if_pos (by rw [hcf,q3];rfl)])) (λq3=>(nL (iC cL (Ext.cG _)) hv b).mono ?_)
   rintro e iR ⟨rfl,lh⟩
   exact ⟨_,rfl,lh.heap aa,lh.heap aa,lh.heap aa,lh.heap aa,Br.mk (λq4=>plain iR lh (by rw [hstep,if_pos (by rw [hcf,q3,q4];rfl)])) (λq4=>⟨rfl,rfl,rfl,rfl,lh,by rw [hcf,q3,q4];decide⟩)⟩
 ·rintro us sQ ⟨oI,hn⟩;rw [if_neg hn] at hstep;have z66:=oI.size;have n1:=dK (V:=V) (p:=ao) (ax:=1) (d:=min up 65536) hb aa;refine (pQ (iC sQ oI) hv b (qO hb aa) 1 (min up 65536) aA).mono ?_;rintro e oy ⟨rfl,oT⟩;have z67:=oT.size;have n2:=dK (V:=V) (p:=ao) (ax:=0) (d:=d.1) n1 aa;have n3:=dK (V:=V) (p:=ao) (ax:=2) (d:=d.2.2) n2 aa;have n4:=dK (V:=V) (p:=ao) (ax:=1) (d:= -((bY V ao b 1 (min up 65536)).1.1.2.1-b.1.2.1)) n3 aa;refine ⟨_,_,_,_,_,_,_,rfl,oT.heap aa,oT.heap aa,oT.heap aa,oT.heap aa,λrC e75 pH e76 uO e77=> ?_⟩;generalize bY V ao b 1 (min up 65536)=hi at*;have z75:=zA e75;have z76:=zR e76;have z77:=zA e77;have rhi:Row pH oy (qA hi.1) gu:=by rw [e76];exact Row.set (by rw [e75];exact Row.new oy [_,_,_,_,_,_] _) [_,_,_,_,_,_]
  have aof:Row uO pH (hL (false,false,false)) kJ:=Row.nw e77;have x77:Ext oy uO:=((aQ e75).ab e76 (ak _)).br e77;have rhi:=rhi.ext (aQ e77);refine ⟨⟨rfl,aof.wr bg⟩,qx aa,qx aa,qx aa,qx aa,qx aa,λrD e78 Ki e79 xX e80=> ?_⟩;rw [aof.bF (vs:=hL (false,true,false)) bg (Pp (false,true,false)),dE bg] at e78;have z78:=zR e78;have azS:Row rD pH (hL (false,true,false)) kJ:=aof.st e78;have rhi:=rhi.so e78;have Oj:Ext oy rD:=x77.ab e78 aa;have z79:=zA e79;have z80:=zR e80;have af2:Ext rD xX:=(aQ e79).ab e80 (ak _);have azT:Row xX rD (qA hi.1) gu:=by rw [e80];exact Row.set (by rw [e79];exact Row.new rD [_,_,_,_,_,_] _) [_,_,_,_,_,_]
  have azU:=azS.ext af2;have as3:=oI.tr (oT.tr (Oj.tr af2));refine (pQ (iC xX as3) hv hi.1 (qO n1 aa) 0 d.1 aA).mono ?_;rintro e xq ⟨rfl,zJ⟩;have z81:=zJ.size;refine ⟨_,_,_,_,_,_,_,rfl,zJ.heap aa,zJ.heap aa,zJ.heap aa,zJ.heap aa,zJ.heap aa,zJ.heap aa,λqw e89=> ?_⟩;generalize bY V ao hi.1 0 d.1=ax at*;have z89:=zR e89;have as4:Row qw rD (qA ax.1) gu:=by rw [e89];exact Row.set (azT.ext zJ) [_,_,_,_,_,_]
  have azV:Row qw pH (hL (false,true,false)) kJ:=(azU.ext zJ).same (by rw [e89];exact setRow_other _ _ _ _ aa);have x89:Ext rD qw:=(af2.tr zJ).ab e89 (ak _);obtain ⟨p1,p2⟩:=azV.ic (j:=0) (v:=.bool ax.2) aA rfl;refine ⟨aA,aA,⟨rfl,p1⟩,qX aa,qX aa,qX aa,qX aa,qX aa,qX aa,λqq e90=> ?_⟩;obtain ⟨q1,q2⟩:=p2 qq e90;have azW:Row qq pH (hL (ax.2,true,false)) kJ:=q1;have azX:=as4.same (q2.same _ as4.lt aa);have z90:=q2.size;have x90:Ext oy qq:=q2.ext (Oj.tr x89) λi hi=>by omega
  refine (pQ (iC qq (oI.tr (oT.tr x90))) hv ax.1 (qO n2 aa) 2 d.2.2 aA).mono ?_;rintro e w91 ⟨rfl,FZ⟩;have z91:=FZ.size;refine ⟨_,_,_,_,_,_,_,rfl,FZ.heap aa,FZ.heap aa,FZ.heap aa,FZ.heap aa,FZ.heap aa,FZ.heap aa,λJh e99=> ?_⟩;generalize bY V ao ax.1 2 d.2.2=az at*;have z99:=zR e99;have as6:Row Jh rD (qA az.1) gu:=by rw [e99];exact Row.set (azX.ext FZ) [_,_,_,_,_,_]
  have azY:Row Jh pH (hL (ax.2,true,false)) kJ:=(azW.ext FZ).same (by rw [e99];exact setRow_other _ _ _ _ aa);have Ol:Ext oy Jh:=(x90.tr FZ).ab e99 aa;obtain ⟨p1,p3⟩:=azY.ic (j:=2) (v:=.bool az.2) (show 2<3 by decide) rfl;refine ⟨aA,aA,⟨rfl,p1⟩,qX aa,qX aa,qX aa,qX aa,qX aa,qX aa,λpo ajm=> ?_⟩;obtain ⟨q1,q3⟩:=p3 po ajm;have as7:Row po pH (hL (ax.2,true,az.2)) kJ:=q1;have aDU:=as6.same (q3.same _ as6.lt aa);have ayY:=q3.size;have BO:Ext oy po:=q3.ext Ol λi hi=>by omega
  have hhi:=n1;have hbb:=hb;unfold bN at hhi hbb;have wr1:aw (hi.1.1.2.1-b.1.2.1)=hi.1.1.2.1-b.1.2.1:=wI;have VN:aw (0-(hi.1.1.2.1-b.1.2.1))= -(hi.1.1.2.1-b.1.2.1):=by rw [wI];omega
  rw [wr1,VN];refine (pQ (iC po (oI.tr (oT.tr BO))) hv az.1 (qO n3 aa) 1 (-(hi.1.1.2.1-b.1.2.1)) aA).mono ?_;rintro e Kk ⟨rfl,oJ⟩;have aHu:=oJ.size;refine ⟨_,_,_,_,_,_,_,rfl,oJ.heap aa,oJ.heap aa,oJ.heap aa,oJ.heap aa,oJ.heap aa,oJ.heap aa,λrE aoh=> ?_⟩;generalize bY V ao az.1 1 (-(hi.1.1.2.1-b.1.2.1))=ay at*;have ay4:=zR aoh;have as8:Row rE pH (hL (ax.2,true,az.2)) kJ:=(as7.ext oJ).same (by rw [aoh];exact setRow_other _ _ _ _ aa);have sK:Ext oy rE:=(BO.tr oJ).ab aoh aa;have xd:=Ext.dr rE;have zd:=m7 rE;have x17d:=oI.tr (oT.tr (sK.tr xd));refine (Lk b ay.1 (qO hb aa) (qO n4 aa) rE.drew).mono ?_;rintro e IM ⟨rfl,mz⟩;have aHv:=mz.size;refine ⟨_,rfl,mz.heap aa,mz.heap aa,mz.heap aa,mz.heap aa,mz.heap aa,mz.heap aa,Lo.wv (rp.ext (x17d.tr mz)),Lo.wv (rb.ext (x17d.tr mz)),(Lk b mv.1 (qO hb aa) (qO hpn aa) IM).mono ?_⟩;rintro e BM ⟨rfl,kT⟩;have aHw:=kT.size;have IY:=x17d.tr (mz.tr kT);refine ⟨_,rfl,kT.heap aa,kT.heap aa,kT.heap aa,kT.heap aa,kT.heap aa,kT.heap aa,Br.mk (λq=> ?_) (λq=> ?_)⟩
  ·have q:=cS q;rw [if_pos q] at hstep;rw [hstep];obtain ⟨q1,q2⟩:=FG (gb:=w1.heap.size) (rh.ext IY) (ro.ext IY) rfl aa aa aa #[mv.1.1.1,mv.1.1.2.1,mv.1.1.2.2,mv.1.2.1,mv.1.2.2.1,mv.1.2.2.2];refine ⟨_,_,_,q1,λgC J5=> ?_⟩;obtain ⟨q3,q4,q5⟩:=q2 gC J5;refine ⟨q3,⟨rfl,q4⟩,qx aa,qx aa,qx aa,qx aa,qx aa,qx aa,λcZ zk=> ?_⟩;obtain ⟨q6,q7⟩:=q5 cZ zk;exact ⟨_,_,_,q6,rfl,q7.ext (ajl.tr IY) λi hi=>by omega⟩
  ·have q:=cS q;rw [if_neg q] at hstep;rw [hstep];obtain ⟨q1,q2⟩:=FG (gb:=w1.heap.size) (as8.ext (xd.tr (mz.tr kT))) (ro.ext IY) rfl aa aa aa #[ay.1.1.1,ay.1.1.2.1,ay.1.1.2.2,ay.1.2.1,ay.1.2.2.1,ay.1.2.2.2];refine ⟨_,_,_,q1,λgC J5=> ?_⟩;obtain ⟨q3,q4,q5⟩:=q2 gC J5;refine ⟨q3,⟨rfl,q4⟩,qx aa,qx aa,qx aa,qx aa,qx aa,qx aa,λcZ zk=> ?_⟩;obtain ⟨q6,q7⟩:=q5 cZ zk;exact ⟨_,_,_,q6,rfl,q7.ext (ajl.tr IY) λi hi=>by omega⟩
def al2(n:Int):(if 70368744177664<(if (-70368744177664)>n then (-70368744177664) else n) then 70368744177664 else (if (-70368744177664)>n then (-70368744177664) else n))=Bp n:=by
 unfold Bp
 repeat' split
 all_goals omega
def C4(n:Int)(w:World):ae 277 #[n] w λe w'=>e=Value.int .i64 (Bp n)/\w'=w:=by apply EE.vc;exact ⟨by rw [al2],rfl⟩
def Lz(b:dw)(d:Ce)(w:World):ae 237 #[FJ b,eg d] w λe w'=>e=(eg (kN b.aq d))/\Ext w w':=by
 apply Ju.vc;intro w0 e0 w1 e1 w2 e2;have x0:=aQ e0;have z0:=zA e0;have r0:Row w0 w (kc b) BV:=Row.nw e0;have x1:=aQ e1;have z1:=zA e1;have x2:=aQ e2;have z2:=zA e2;refine (jS b.aq d w2).mono ?_;rintro e w3 ⟨rfl,x3⟩;have z3:=x3.size;refine ⟨_,_,_,rfl,x3.heap aa,x3.heap aa,x3.heap aa,λw7 e7 w8 e8=> ?_⟩;have x8:Ext w3 w8.drew:=((aQ e7).ab e8 (ak _)).drew;have z8:w8.drew.heap.size=w3.heap.size+1:=by show w8.heap.size=_;rw [zR e8,zA e7]
 have r8:Row w8.drew w3 (dZ (kf b.aq d)) iM:=(by rw [e8];exact Row.set (by rw [e7];exact Row.new w3 [_,_,_] _) [_,_,_]:Row w8 w3 _ iM).ext (Ext.dr w8);have rb:=r0.ext (x1.tr (x2.tr (x3.tr x8)));refine (C4 (kf b.aq d).1 w8.drew).mono ?_;rintro e w9 ⟨rfl,rfl⟩;refine ⟨_,rfl,rfl,rfl,rfl,rfl,ti rb rfl rfl rfl,oP r8 rfl,oP r8 rfl,(C4 (kf b.aq d).2.1 w8.drew).mono ?_⟩;rintro e bw ⟨rfl,rfl⟩;refine ⟨_,rfl,rfl,rfl,rfl,rfl,ti rb rfl rfl rfl,oP r8 rfl,(C4 (kf b.aq d).2.2 w8.drew).mono ?_⟩;rintro e bP ⟨rfl,rfl⟩;refine ⟨_,rfl,rfl,rfl,rfl,rfl,ti rb rfl rfl rfl,(wu (Bp (kf b.aq d).1,Bp (kf b.aq d).2.1,Bp (kf b.aq d).2.2) b.aq w8.drew).mono ?_⟩;rintro e ee ⟨rfl,cW⟩;have z15:=cW.size;exact ⟨_,_,_,rfl,cW.heap aa,cW.heap aa,cW.heap aa,cW.heap aa,λfK e19=>⟨rfl,(x0.tr (x1.tr (x2.tr (x3.tr (x8.tr cW))))).ab e19 aa⟩⟩
abbrev FE:=Int × Int × Bool
abbrev inV(i:FE):Value:=.agg #[i.1,i.2.1,.bool i.2.2]
abbrev inL(i:FE):LV:=[.int .i64 i.1,.int .i64 i.2.1,.bool i.2.2]
abbrev ahZ:TypeId:=109
def qc(b:dw)(i:FE):dw:={b with speed:=(AI i.1,b.speed.2.1,AI i.2.1)}
def Vg(b:dw)(v:Value)(i:FE)(w:World):ae 166 #[FJ b,v,inV i] w λe w'=>e=(FJ (qc b i))/\Ext w w':=by apply EH.vc;intro w0 e0 w1 e1 w2 e2;have x0:=aQ e0;have z0:=zA e0;have x1:=aQ e1;have z1:=zA e1;have r1:Row w1 w0 (inL i) ahZ:=Row.nw e1;have x2:Ext w1 w2.drew:=(aQ e2).drew;have z2:w2.drew.heap.size=w1.heap.size+1:=(zA e2:w2.heap.size=_);refine (DN i.1 w2.drew).mono ?_;rintro e w3 ⟨rfl,x3⟩;have z3:=x3.size;refine ⟨_,rfl,x3.heap aa,x3.heap aa,x3.heap aa,oP (r1.ext (x2.tr x3)) rfl,(DN i.2.1 w3).mono ?_⟩;rintro e w5 ⟨rfl,x5⟩;have z5:=x5.size;exact ⟨_,rfl,x5.heap aa,x5.heap aa,x5.heap aa,λw7 e7 w8 e8 w9 e9=>⟨rfl,((((x0.tr (x1.tr (x2.tr (x3.tr x5)))).ab e7 aa).ab e8 aa).ab e9 aa)⟩⟩
def xL(n jump less least:Int)(j:Bool):Int:=if j then jump else max (n-less) (-least)
def mG(V:Ce->Int)(b:dw)(i:FE):dw:=
 if iI V b.box (λx=>x==4)=true then {b with speed:=(b.speed.1,xL b.speed.2.1 8192 4096 8192 i.2.2,b.speed.2.2)}
 else if iI V b.box sb=true then {b with speed:=(b.speed.1,xL b.speed.2.1 6144 1024 8192 i.2.2,b.speed.2.2)}
 else {b with speed:=(b.speed.1,xL b.speed.2.1 28672 4096 262144 (i.2.2 && iI V (jB b.box) ao),b.speed.2.2)}
def wH(b:dw)(jump less least:Int)(j:Bool){gb gp gi:Nat}{w:World}{τ:TypeId}{i:FE}(hb:Row w gb (kc b) BV)(hp:Row w gp [.pointer (fP gb 4)] τ)(hi:Row w gi [i.1,i.2.1,j] ahZ)(hs:dJ (b.speed.2.1-less))(hl:0<=least/\least<=1000000)(hn:gb≠gp/\gb≠gi):
  ae 233 #[jump,less,least,gp,gi] w λe w'=>e=ya/\Row w' gb (kc {b with speed:=(b.speed.1,xL b.speed.2.1 jump less least j,b.speed.2.2)}) BV/\Mod (λk=>k=gb) w w':=by
 apply AD.vc;have xd:=Ext.dr w;have hb':=hb.ext xd;have hp':=hp.ext xd;have e1:aw (b.speed.2.1-less)=b.speed.2.1-less:=aK hs;have e2:aw (0-least)= -least:=by rw [wI];omega
 have e3:(if -least>b.speed.2.1-less then -least else b.speed.2.1-less)=max (b.speed.2.1-less) (-least):=by split<;>omega
 refine ⟨_,hp'.at 0 rfl,_,hp'.at 0 rfl,iS rfl ⟨_,hb'.at 4 rfl,iS rfl ?_⟩⟩;rw [e1,e2,e3];obtain ⟨p1,p2⟩:=hb'.ic (j:=4) (v:=.int .i64 (max (b.speed.2.1-less) (-least))) (show 4<9 by decide) rfl;refine ⟨⟨rfl,p1⟩,λw3 e3=> ?_⟩;obtain ⟨q1,q2⟩:=p2 w3 e3;have hm:=(Mod.aC (F:=λk=>k=gb) xd).trans q2;have hi3:=(hi.ext xd).same (q2.same _ (hi.ext xd).lt (Ne.symm hn.2));have hp3:=hp'.same (q2.same _ hp'.lt (Ne.symm hn.1));refine ⟨j,hi3.at 2 rfl,?_⟩
 cases j with
 |false=>exact ⟨rfl,q1,hm⟩
 |true=>
  obtain ⟨p3,p4⟩:=q1.ic (j:=4) (v:=.int .i64 jump) (show 4<9 by decide) rfl;refine ⟨_,hp3.at 0 rfl,iS rfl ⟨⟨rfl,p3⟩,λw6 e6=> ?_⟩⟩;obtain ⟨q3,q4⟩:=p4 w6 e6;exact ⟨rfl,q3,hm.trans q4⟩
def Vh{v:Value}{V:Ce->Int}{w:World}(hV:Tl v V w)(hv:lF v=[])(b:dw)(hw:dJ b.wd)(hs: -1000000<=b.speed.2.1/\b.speed.2.1<=1000000)(i:FE):
  ae 167 #[FJ b,v,inV i] w λe w'=>e=(FJ (mG V b i))/\Ext w w':=by
 apply EI.vc;intro w0 e0 w1 e1 w2 e2;have x0:=aQ e0;have z0:=zA e0;have r0:Row w0 w (kc b) BV:=Row.nw e0;have x1:=aQ e1;have z1:=zA e1;have r1:Row w1 w0 (inL i) ahZ:=Row.nw e1;have x2:=aQ e2;have z2:=zA e2;refine (kY b hw w2).mono ?_;rintro e w3 ⟨rfl,x3⟩;have z3:=x3.size;refine ⟨_,_,_,_,_,_,rfl,x3.heap aa,x3.heap aa,x3.heap aa,λbo wO bw BG cC Fy bP Fj=> ?_⟩;have XB:=zA wO;have z11:=zA BG;have z12:=zR Fy;have z13:=zR Fj;have cR:Ext w3 bP:=(((aQ wO).br BG).ab Fy (ak _)).ab Fj aa;have rp:∃τ,Row bP bo [.pointer (fP w.heap.size 4)] τ:=⟨_,by
  rw [Fj];exact Row.set ((by rw [BG];exact Row.new bo [_] _:Row bw bo _ _).same (by rw [Fy];exact setRow_other _ _ _ _ aa)) [_]⟩
 obtain ⟨τ,rp⟩:=rp;have rb:=r0.ext (x1.tr (x2.tr (x3.tr cR)));have ri:=r1.ext (x2.tr (x3.tr cR));have xw:=x0.tr (x1.tr (x2.tr (x3.tr cR)));have fin:∀{cD:World} {b':dw},Row cD w (kc b') BV->Ext w cD->∃(dH:Int)(dc:Int)(db:Int)(dN:Int)(eO:Int)(fN:Int)(fC:Int)(gW:Int)(b25:Bool),ah cD (aD w.heap.size) 0 [dH,dc,db,dN,eO,fN,fC,gW,b25]/\
   ∀gx:World,gx=cD.setRow w1 #[dH,dc,db,dN,eO,fN,fC,gW,b25]->(Ending.returned (.agg #[dH,dc,db,dN,eO,fN,fC,gW,b25])=(FJ b')/\Ext w gx):=λhr x=>⟨_,_,_,_,_,_,_,_,_,Lo.wv hr,λgx BZ=>⟨rfl,x.ab BZ aa⟩⟩
 unfold mG;refine (PU (hV.ext xw) hv b.box).mono ?_;rintro e bH ⟨rfl,cB⟩;have z14:=cB.size;refine ⟨_,rfl,cB.heap aa,cB.heap aa,Br.mk (λhc=> ?_) (λhc=> ?_)⟩
 ·rw [if_pos hc];refine (wH b 8192 4096 8192 i.2.2 (rb.ext cB) (rp.ext cB) (ri.ext cB) gA aA ⟨aa,aa⟩).mono ?_;rintro e cD ⟨rfl,hr,hm⟩;exact ⟨rfl,hm.same _ aa aa,hm.same _ aa aa,fin hr (hm.ext (xw.tr cB) λk hk=>by omega)⟩
 rw [if_neg (by rw [hc];decide)];refine (Ys (hV.ext (xw.tr cB)) hv b.box).mono ?_;rintro e fy ⟨rfl,jm⟩;have z27:=jm.size;have ajr:=xw.tr (cB.tr jm);have aot:=rb.ext (cB.tr jm);have aou:=rp.ext (cB.tr jm);have aov:=ri.ext (cB.tr jm);refine ⟨_,rfl,jm.heap aa,jm.heap aa,Br.mk (λky=> ?_) (λky=>⟨_,aov.at 2 rfl,?_⟩)⟩
 ·rw [if_pos ky];refine (wH b 6144 1024 8192 i.2.2 aot aou aov gA aA ⟨aa,aa⟩).mono ?_;rintro e cD ⟨rfl,hr,hm⟩;exact ⟨rfl,hm.same _ aa aa,hm.same _ aa aa,fin hr (hm.ext ajr λk hk=>by omega)⟩
 rw [if_neg (by rw [ky];decide)];have last:∀(j:Bool)(oF:World),Ext fy oF->Wr oF (fP w0.heap.size 2) 1/\∀jW:World,jW=Vc.bF oF (fP w0.heap.size 2) [.bool j]->Row jW w0 [i.1,i.2.1,.bool j] ahZ/\Mod (λk=>k=w0.heap.size) oF jW:=λj oF om=>(aov.ext om).ic (j:=2) (v:=.bool j) (show 2<3 by decide) rfl
 refine Br.mk (λhj=>(nL (hV.ext ajr) hv b.box).mono ?_) (λhj=> ?_)
 ·rintro e oF ⟨rfl,om⟩;have z41:=om.size;rw [hj,qI];generalize iI V (jB b.box) ao=st;obtain ⟨p1,p2⟩:=last st oF om;refine ⟨_,rfl,om.heap aa,om.heap aa,p1,qx aa,qx aa,λjW e43=> ?_⟩;obtain ⟨q1,q2⟩:=p2 jW e43;have z43:=q2.size;refine (wH (i:=i) b 28672 4096 262144 st ((aot.ext om).same (q2.same _ aa aa)) ((aou.ext om).same (q2.same _ aa aa)) q1 gA aA ⟨aa,aa⟩).mono ?_;rintro e cD ⟨rfl,hr,hm⟩;exact ⟨rfl,hm.same _ aa aa,hm.same _ aa aa,fin hr (hm.ext (q2.ext (ajr.tr om) λk hk=>by omega) λk hk=>by omega)⟩
 ·rw [hj,DR];obtain ⟨p1,p2⟩:=last false fy (Ext.cG _);refine ⟨p1,qx aa,qx aa,λjW e43=> ?_⟩;obtain ⟨q1,q2⟩:=p2 jW e43;have z43:=q2.size;refine (wH (i:=i) b 28672 4096 262144 false (aot.same (q2.same _ aa aa)) (aou.same (q2.same _ aa aa)) q1 gA aA ⟨aa,aa⟩).mono ?_;rintro e cD ⟨rfl,hr,hm⟩;exact ⟨rfl,hm.same _ aa aa,hm.same _ aa aa,fin hr (hm.ext (q2.ext ajr λk hk=>by omega) λk hk=>by omega)⟩
def rN{w w':World}{l:LV}{t:TypeId}(e:w'=w.alloc (.cells l.toArray t)):Row w' w l t:=by rw [e];exact Row.new _ _ _
def rS{w w':World}{g:Nat}{l cs:LV}{t:TypeId}(h:Row w g cs t)(e:w'=w.setRow g l.toArray):Row w' g l t:=h.st e
def D5(V:Ce->Int)(b:dw):dw:=
 let y:=ik V ao b.box (kN b.aq b.speed) 32768
 {b with aq:=kf b.aq (ym y.1.1 b.box.1),speed:=gN y.2 b.speed,fG:=iI V (jB y.1) ao}
def jJ(V:Ce->Int)(b:dw)(d:Ce):dw:={b with aq:=kf b.aq (ym (kV V ao b.box (kN b.aq d)).1.1 b.box.1)}
def Z6{v:Value}{V:Ce->Int}{w:World}(hV:Tl v V w)(hv:lF v=[])(b:dw)(hw:dJ b.wd){m:Int}(Oy:bN b.box m)(hm:m<=99980000000000)(i:FE):
  ae 168 #[FJ b,v,inV i] w λe w'=>e=(FJ (D5 V b))/\Ext w w':=by
 have hgo:D5 V b={b with aq:=kf b.aq (ym (ik V ao b.box (kN b.aq b.speed) 32768).1.1 b.box.1),speed:=gN (ik V ao b.box (kN b.aq b.speed) 32768).2 b.speed,fG:=iI V (jB (ik V ao b.box (kN b.aq b.speed) 32768).1) ao}:=rfl;apply G3.vc;intro w0 e0 w1 e1 w2 e2;have x0:=aQ e0;have z0:=zA e0;have r0:Row w0 w (kc b) BV:=Row.nw e0;have x1:=aQ e1;have z1:=zA e1;have x2:=aQ e2;have z2:=zA e2;refine (kY b hw w2).mono ?_;rintro e w3 ⟨rfl,x3⟩;have z3:=x3.size;refine ⟨_,_,_,_,_,_,rfl,x3.heap aa,x3.heap aa,x3.heap aa,λbo wO bw BG=> ?_⟩;have XB:=zA wO;have z11:=zR BG;have bK:Ext w3 bw:=(aQ wO).ab BG (ak _);have rwas:Row bw w3 (qA b.box) gu:=by rw [BG];exact Row.set (by rw [wO];exact Row.new w3 [_,_,_,_,_,_] _) [_,_,_,_,_,_]
 have rb:=r0.ext (x1.tr (x2.tr (x3.tr bK)));have xw:=x0.tr (x1.tr (x2.tr (x3.tr bK)));have aor:=hV.ext xw;have rwas0:=rwas;refine ⟨λp q wj=>∃gB gH:Nat,p=aD gB/\q=aD gH/\Row wj gB (qA (ik V ao b.box (kN b.aq b.speed) 32768).1) gu/\Row wj gH (hL (ik V ao b.box (kN b.aq b.speed) 32768).2) kJ/\Ext bw wj/\bw.heap.size<=gB,?_,?_⟩
 ·have X:=Ext.dr bw;have rwas:=rwas.ext X;have zd:=m7 bw;have hS:=λ(cur:World)(X:Ext bw cur)=>UN (w:=cur) (aor.ext X) hv b.box Oy hm (kN b.aq b.speed) 32768
  generalize ik V ao b.box (kN b.aq b.speed) 32768=y at*
  repeat' first
   |(refine (Lz b b.speed _).mono ?_;rintro e v ⟨rfl,xn⟩;have zn:=xn.size;refine ⟨_,_,_,rfl,?_⟩;(repeat (refine ⟨xn.heap aa,?_⟩));refine ⟨Lo.wv (rwas.ext xn),?_⟩;have X:=X.tr xn;have rwas:=rwas.ext xn;(try have rB:=rB.ext xn);(try have rH:=rH.ext xn);clear xn)
   |(refine (hS _ X).mono ?_;rintro e v ⟨rfl,xn⟩;have zn:=xn.size;refine ⟨_,_,_,_,_,_,_,_,_,rfl,?_⟩;(repeat (refine ⟨xn.heap aa,?_⟩));have X:=X.tr xn;have rwas:=rwas.ext xn;(try have rB:=rB.ext xn);(try have rH:=rH.ext xn);clear xn)
   |(intro v en;have rBn:Row v _ [ai,ai,ai,ai,ai,ai] gu:=rN en;have xn:=(aQ en);have zn:=zA en;have X:=X.tr xn;have rwas:=rwas.ext xn;(try have rB:=rB.ext xn);(try have rH:=rH.ext xn);have rB:=rBn;clear xn en)
   |(intro v en;have rHn:Row v _ (hL (false,false,false)) kJ:=rN en;have xn:=(aQ en);have zn:=zA en;have X:=X.tr xn;have rwas:=rwas.ext xn;(try have rB:=rB.ext xn);(try have rH:=rH.ext xn);have rH:=rHn;clear xn en)
   |(intro ws es;have zs:=zR es;have rB:Row ws _ (qA y.1) gu:=rS rB es;have rH:=rH.so es;have X:=X.ab es aa;refine ⟨⟨rfl,rH.wr bg⟩,qx aa,qx aa,qx aa,qx aa,qx aa,λwt et=> ?_⟩;rw [rH.bF (vs:=hL y.2) bg (Pp _),dE bg] at et;have zt:=zR et;have rB:=rB.so et;have rH:Row wt _ (hL y.2) kJ:=rS rH et;exact ⟨rfl,rfl,rfl,rfl,_,_,rfl,rfl,rB,rH,X.ab et aa,aa⟩)
   |refine And.intro ?_ ?_
 ·rintro us Km anc wj ⟨gB,gH,rfl,rfl,rB,rH,xj,hgB⟩;have zj:=xj.size;have xd:=Ext.dr wj;have zd:=m7 wj;have lB:=rB.lt;have lH:=rH.lt;rw [hgo];generalize ik V ao b.box (kN b.aq b.speed) 32768=y at*;refine iS rfl ⟨_,_,_,ti (o:=0) (rB.ext xd) rfl rfl rfl,(wu y.1.1 b.box.1 wj.drew).mono ?_⟩;rintro e Ko ⟨rfl,Fq⟩;have aIb:=Fq.size;have XM:=xj.tr (xd.tr Fq);refine ⟨_,_,_,rfl,Fq.heap aa,Fq.heap aa,Fq.heap aa,Fq.heap aa,ti (rb.ext XM) rfl rfl rfl,(jS b.aq (ym y.1.1 b.box.1) Ko).mono ?_⟩;rintro e Sn ⟨rfl,qF⟩;have aAA:=qF.size;refine ⟨_,_,_,rfl,qF.heap aa,qF.heap aa,qF.heap aa,qF.heap aa,λzE abE=> ?_⟩;have aIc:=zR abE;have aAB:Ext w zE:=(xw.tr (XM.tr qF)).ab abE (ak _);have rH2:Row zE gH (hL y.2) kJ:=(rH.ext (xd.tr (Fq.tr qF))).same (by rw [abE];exact setRow_other _ _ _ _ ((rH.ext (xd.tr (Fq.tr qF))).ne ((rb.ext (XM.tr qF))) aA));have rB2:Row zE gB (qA y.1) gu:=(rB.ext (xd.tr (Fq.tr qF))).same (by rw [abE];exact setRow_other _ _ _ _ aa);have n1:gH≠w:=(rH.ext (xd.tr (Fq.tr qF))).ne ((rb.ext (XM.tr qF))) aA;refine ⟨_,_,_,Lo.wv rH2,(Zx y.2 b.speed zE).mono ?_⟩;rintro e ang ⟨rfl,Kr⟩;have aIf:=Kr.size;refine ⟨_,_,_,rfl,Kr.heap aa,Kr.heap aa,Kr.heap aa,Kr.heap aa,λabj aos=> ?_⟩;have aIg:=zR aos;have afG:Ext w abj:=(aAB.tr Kr).ab aos (ak _);have rB3:Row abj gB (qA y.1) gu:=(rB2.ext Kr).same (by rw [aos];exact setRow_other _ _ _ _ aa);refine ⟨_,_,_,_,_,_,Lo.wv rB3,(nL (hV.ext afG) hv y.1).mono ?_⟩;rintro e anh ⟨rfl,abF⟩;have aIi:=abF.size;refine ⟨_,rfl,abF.heap aa,abF.heap aa,abF.heap aa,abF.heap aa,λarv aAC arw aAD=>⟨rfl,((afG.tr abF).ab aAC (ak _)).ab aAD aa⟩⟩
def HA{v:Value}{V:Ce->Int}{w:World}(hV:Tl v V w)(hv:lF v=[])(b:dw)(hw:dJ b.wd){m:Int}(Oy:bN b.box m)(hm:m<=99990000000000)(d:Ce):
  ae 171 #[FJ b,v,eg d] w λe w'=>e=(FJ (jJ V b d))/\Ext w w':=by
 have hgo:jJ V b d={b with aq:=kf b.aq (ym (kV V ao b.box (kN b.aq d)).1.1 b.box.1)}:=rfl;apply EJ.vc;intro w0 e0 w1 e1 w2 e2;have x0:=aQ e0;have z0:=zA e0;have r0:Row w0 w (kc b) BV:=Row.nw e0;have x1:=aQ e1;have z1:=zA e1;have x2:=aQ e2;have z2:=zA e2;refine (kY b hw w2).mono ?_;rintro e w3 ⟨rfl,x3⟩;have z3:=x3.size;refine ⟨_,_,_,_,_,_,rfl,x3.heap aa,x3.heap aa,x3.heap aa,λbo wO bw BG=> ?_⟩;have XB:=zA wO;have z11:=zR BG;have bK:Ext w3 bw:=(aQ wO).ab BG (ak _);have rwas:Row bw w3 (qA b.box) gu:=by rw [BG];exact Row.set (by rw [wO];exact Row.new w3 [_,_,_,_,_,_] _) [_,_,_,_,_,_]
 have rb:=r0.ext (x1.tr (x2.tr (x3.tr bK)));have xw:=x0.tr (x1.tr (x2.tr (x3.tr bK)));have aor:=hV.ext xw;refine ⟨λp wj=>∃gB gH:Nat,p=aD gB/\Row wj gB (qA (kV V ao b.box (kN b.aq d)).1) gu/\Row wj gH (hL (kV V ao b.box (kN b.aq d)).2) kJ/\Ext bw wj/\bw.heap.size<=gB,?_,?_⟩
 ·have X:=Ext.dr bw;have rwas:=rwas.ext X;have zd:=m7 bw;have hS:=λ(cur:World)(X:Ext bw cur)=>GJ (w:=cur) (aor.ext X) hv b.box Oy hm (kN b.aq d)
  generalize kV V ao b.box (kN b.aq d)=y at*
  repeat' first
   |(refine (Lz b d _).mono ?_;rintro e v ⟨rfl,xn⟩;have zn:=xn.size;refine ⟨_,_,_,rfl,?_⟩;(repeat (refine ⟨xn.heap aa,?_⟩));refine ⟨Lo.wv (rwas.ext xn),?_⟩;have X:=X.tr xn;have rwas:=rwas.ext xn;(try have rB:=rB.ext xn);(try have rH:=rH.ext xn);clear xn)
   |(refine (hS _ X).mono ?_;rintro e v ⟨rfl,xn⟩;have zn:=xn.size;refine ⟨_,_,_,_,_,_,_,_,_,rfl,?_⟩;(repeat (refine ⟨xn.heap aa,?_⟩));have X:=X.tr xn;have rwas:=rwas.ext xn;(try have rB:=rB.ext xn);(try have rH:=rH.ext xn);clear xn)
   |(intro v en;have rBn:Row v _ [ai,ai,ai,ai,ai,ai] gu:=rN en;have xn:=(aQ en);have zn:=zA en;have X:=X.tr xn;have rwas:=rwas.ext xn;(try have rB:=rB.ext xn);(try have rH:=rH.ext xn);have rB:=rBn;clear xn en)
   |(intro v en;have rHn:Row v _ (hL (false,false,false)) kJ:=rN en;have xn:=(aQ en);have zn:=zA en;have X:=X.tr xn;have rwas:=rwas.ext xn;(try have rB:=rB.ext xn);(try have rH:=rH.ext xn);have rH:=rHn;clear xn en)
   |(intro ws es;have zs:=zR es;have rB:Row ws _ (qA y.1) gu:=rS rB es;have rH:=rH.so es;have X:=X.ab es aa;refine ⟨⟨rfl,rH.wr bg⟩,qx aa,qx aa,qx aa,qx aa,qx aa,λwt et=> ?_⟩;rw [rH.bF (vs:=hL y.2) bg (Pp _),dE bg] at et;have zt:=zR et;have rB:=rB.so et;have rH:Row wt _ (hL y.2) kJ:=rS rH et;exact ⟨rfl,rfl,rfl,rfl,_,_,rfl,rB,rH,X.ab et aa,aa⟩)
   |refine And.intro ?_ ?_
 ·rintro us Km wj ⟨gB,gH,rfl,rB,rH,xj,hgB⟩;have zj:=xj.size;have xd:=Ext.dr wj;have zd:=m7 wj;rw [hgo];generalize kV V ao b.box (kN b.aq d)=y at*;refine iS rfl ⟨_,_,_,ti (o:=0) (rB.ext xd) rfl rfl rfl,(wu y.1.1 b.box.1 wj.drew).mono ?_⟩;rintro e abk ⟨rfl,Fo⟩;have aIj:=Fo.size;have akM:=xj.tr (xd.tr Fo);refine ⟨_,_,_,rfl,Fo.heap aa,Fo.heap aa,Fo.heap aa,Fo.heap aa,ti (rb.ext akM) rfl rfl rfl,(jS b.aq (ym y.1.1 b.box.1) abk).mono ?_⟩;rintro e ani ⟨rfl,Kn⟩;have aIk:=Kn.size;refine ⟨_,_,_,rfl,Kn.heap aa,Kn.heap aa,Kn.heap aa,Kn.heap aa,λarx aAE zE abE=>⟨rfl,((xw.tr (akM.tr Kn)).ab aAE (ak _)).ab abE aa⟩⟩
def C8(V:Ce->Int)(b:dw)(i:FE):(mG V b i).box=b.box/\(mG V b i).wd=b.wd:=by
 unfold mG;split
 ·exact ⟨rfl,rfl⟩
 ·split<;>exact ⟨rfl,rfl⟩
def upB(V:Ce->Int)(b:dw)(i:FE):Nat->dw
 |0=>b
 |1=>qc b i
 |2=>mG V (qc b i) i
 |_=>D5 V (mG V (qc b i) i)
def su(V:Ce->Int)(b:dw)(i:FE):dw:=D5 V (mG V (qc b i) i)
def Hl{v:Value}{V:Ce->Int}{w:World}(hV:Tl v V w)(hv:lF v=[])(b:dw)(hw:dJ b.wd)(hs: -1000000<=b.speed.2.1/\b.speed.2.1<=1000000){m:Int}(Oy:bN b.box m)(hm:m<=99980000000000)(i:FE):
  ae 116 #[FJ b,v,inV i] w λe w'=>e=(FJ (su V b i))/\Ext w w':=by
 apply G4.vc;intro w0 e0 w1 e1 w2 e2;have x0:=aQ e0;have z0:=zA e0;have x1:=aQ e1;have z1:=zA e1;have x2:=aQ e2;have z2:=zA e2;have xh:=x0.tr (x1.tr x2);refine ⟨λn x a0 a1 a2 a3 a4 a5 a6 a7 a8 wr=>∃k:Nat,x=k/\k+n=3/\upB V b i k=⟨(a0,a1,a2),(a3,a4,a5),a6,a7,a8⟩/\Ext w wr/\w2.heap.size<=wr,⟨3,rfl,rfl,0,rfl,rfl,rfl,xh,ak _⟩,?_⟩;rintro n us x a0 a1 a2 a3 a4 a5 a6 a7 a8 wr ⟨k,rfl,hk,hu,xr,zr⟩;apply Br.mk<;>intro hc
 ·have hc:=cS hc;have BH:k=0\/k=1\/k=2:=by omega
  have hVr:=hV.ext xr;obtain ⟨fv,h1,h2⟩:∃fv:Value,([.func (.func 166) #[] #[],.func (.func 167) #[] #[],.func (.func 168) #[] #[]]:LV)[((k:Nat):Int).toNat*1]? =some fv/\bB Tryz.prog fv [FJ (upB V b i k),v,inV i] wr λe w'=>e=(FJ (upB V b i (k+1)))/\Ext wr w':=by
   rcases BH with rfl|rfl|rfl
   ·exact ⟨_,rfl,cH (by kernel_rfl) rfl (Vg b v i wr)⟩
   ·exact ⟨_,rfl,cH (by kernel_rfl) rfl (Vh hVr hv (qc b i) hw hs i)⟩
   ·refine ⟨_,rfl,cH (by kernel_rfl) rfl (Z6 hVr hv (mG V (qc b i) i) ?_ (m:=m) ?_ hm i)⟩
    ·rw [(C8 V (qc b i) i).2];exact hw
    ·rw [(C8 V (qc b i) i).1];exact Oy
  rw [hu] at h2;have wk:=ov (j:=k);refine ⟨⟨aa,aa⟩,fv,h1,bV h2 ?_⟩;rintro e fK ⟨rfl,db⟩;have z19:=db.size;refine ⟨_,_,_,_,_,_,_,_,_,rfl,db.heap aa,db.heap aa,db.heap aa,λeG Se=>⟨n-1,aa,rfl,rfl,k+1,wk,aa,rfl,(xr.tr db).ab Se aa,by rw [zR Se];omega⟩⟩
 ·have hc:=cS hc;have BH:k=3:=by omega
  subst BH;intro dU zh;have hu:su V b i=_:=hu;exact ⟨by rw [hu],xr.ab zh aa⟩
def ovK(a b:Bx)(i:Int):Bool:=decide (cN a.1 i<cN b.2 i) && decide (cN b.1 i<cN a.2 i)
def iW(a b:Bx):Bool:=ovK a b 0 && ovK a b 1 && ovK a b 2
def J1(a b:Bx)(i:Int){ga gb:Nat}{w:World}(ha:Row w ga (qA a) gu)(hb:Row w gb (qA b) gu):
  ae 177 #[i,ga,gb] w λe w'=>e=Value.bool (ovK a b i)/\Ext w w':=by
 apply Jy.vc;have xd:=Ext.dr w;refine ⟨_,_,_,ti (o:=0) (ha.ext xd) rfl rfl rfl,_,_,_,ti (o:=3) (hb.ext xd) rfl rfl rfl,(da a.1 i w.drew).mono ?_⟩;rintro e w6 ⟨rfl,x6⟩;have y6:=xd.tr x6;refine ⟨_,rfl,ti (o:=3) (hb.ext y6) rfl rfl rfl,(da b.2 i w6).mono ?_⟩;rintro e w8 ⟨rfl,x8⟩;have y8:=y6.tr x8;unfold ovK;refine ⟨_,rfl,Br.mk (λhc=>⟨_,_,_,ti (o:=0) (hb.ext y8) rfl rfl rfl,_,_,_,ti (o:=3) (ha.ext y8) rfl rfl rfl,(da b.1 i w8).mono ?_⟩) (λhc=>⟨by rw [hc,DR],y8⟩)⟩;rintro e cD ⟨rfl,du⟩;have y16:=y8.tr du;refine ⟨_,rfl,ti (o:=3) (ha.ext y16) rfl rfl rfl,(da a.2 i cD).mono ?_⟩;rintro e dI ⟨rfl,dc⟩;exact ⟨_,rfl,by rw [hc,qI],y16.tr dc⟩
def aeU(f:Int->Bool)(fv:Value)(w:World)(hf:∀w',Ext w w'->∀i:Int,bB Tryz.prog fv [i] w' λe w''=>e=Value.bool (f i)/\Ext w' w''):
  ae 176 #[fv] w λe w'=>e=Value.bool (f 0 && f 1 && f 2)/\Ext w w':=by
 apply ag8.vc;refine ⟨λn x wr=>∃k:Nat,x=k/\k+n=3/\(∀j:Nat,j<k->f j=true)/\Ext w wr,⟨3,0,rfl,rfl,λj hj=>absurd hj aa,Ext.cG _⟩,?_⟩;rintro n us x wr ⟨k,rfl,hk,hj,xr⟩;apply Br.mk<;>intro hc
 ·have hc:(k:Int)<3:=by simpa using hc
  refine bV (hf wr xr k) ?_;rintro e w6 ⟨rfl,x6⟩;have wk:=ov (j:=k);refine ⟨_,rfl,Br.mk (λhq=>⟨?_,xr.tr x6⟩) (λhq=>⟨n-1,aa,k+1,wk,aa,λj hjk=> ?_,xr.tr x6⟩)⟩
  ·have hq:f k=false:=by simpa using hq
   have BH:k=0\/k=1\/k=2:=by omega
   have:(f 0 && f 1 && f 2)=false:=by
    rcases BH with rfl|rfl|rfl
    ·rw [show f 0=false from hq];rfl
    ·rw [show f 1=false from hq,Bool.and_false];rfl
    ·rw [show f 2=false from hq,Bool.and_false]
   rw [this]
  ·have hq:f k=true:=by simpa using hq
   by_cases he:j=k
   ·rw [he];exact hq
   ·exact hj j aa
 ·have hc:¬(k:Int)<3:=by simpa using hc
  refine ⟨?_,xr⟩;rw [show f 0=true from hj 0 aa,show f 1=true from hj 1 aa,show f 2=true from hj 2 aa];rfl
def Bt(a b:Bx)(w:World):ae 124 #[td a,td b] w λe w'=>e=Value.bool (iW a b)/\Ext w w':=by
 apply PG.vc;intro w0 e0 w1 e1;have x0:=aQ e0;have r0:Row w0 w (qA a) gu:=Row.nw e0;have x1:=aQ e1;have r1:Row w1 w0 (qA b) gu:=Row.nw e1;have z0:=zA e0;have z1:=zA e1;refine (aeU (ovK a b) (.func (.func 177) #[] #[w,w0]) w1 λw' x' i=>cH (by kernel_rfl) rfl (J1 a b i (r0.ext (x1.tr x')) (r1.ext x'))).mono ?_;rintro e w2 ⟨rfl,x2⟩;have z2:=x2.size
 first
  |exact ⟨_,rfl,rfl,x0.tr (x1.tr x2)⟩
  |exact ⟨_,rfl,x2.heap aa,x2.heap aa,rfl,x0.tr (x1.tr x2)⟩
def Rz(x y:Bx)(i:Int):Int:=aw ((if cN y.2 i<cN x.2 i then cN y.2 i else cN x.2 i)-(if cN y.1 i>cN x.1 i then cN y.1 i else cN x.1 i))
def yT(a b:Bx)(i:Int){ga gb:Nat}{w:World}(ha:Row w ga (qA a) gu)(hb:Row w gb (qA b) gu):
  ae 239 #[i,ga,gb] w λe w'=>e=Value.int .i64 (Rz a b i)/\Ext w w':=by
 apply PH.vc;have xd:=Ext.dr w;refine ⟨_,_,_,ti (o:=3) (ha.ext xd) rfl rfl rfl,_,_,_,ti (o:=3) (hb.ext xd) rfl rfl rfl,_,_,_,ti (o:=0) (ha.ext xd) rfl rfl rfl,_,_,_,ti (o:=0) (hb.ext xd) rfl rfl rfl,(da a.2 i w.drew).mono ?_⟩;rintro e w6 ⟨rfl,x6⟩;have y6:=xd.tr x6;refine ⟨_,rfl,ti (o:=0) (hb.ext y6) rfl rfl rfl,ti (o:=0) (ha.ext y6) rfl rfl rfl,ti (o:=3) (hb.ext y6) rfl rfl rfl,(da b.2 i w6).mono ?_⟩;rintro e w8 ⟨rfl,x8⟩;have y8:=y6.tr x8;refine ⟨_,rfl,ti (o:=0) (hb.ext y8) rfl rfl rfl,ti (o:=0) (ha.ext y8) rfl rfl rfl,(da a.1 i w8).mono ?_⟩;rintro e cD ⟨rfl,du⟩;have y16:=y8.tr du;refine ⟨_,rfl,ti (o:=0) (hb.ext y16) rfl rfl rfl,(da b.1 i cD).mono ?_⟩;rintro e dI ⟨rfl,dc⟩;exact ⟨_,rfl,rfl,y16.tr dc⟩
def Z8(a b:dw):Int:=if Rz a.box b.box 0>Rz a.box b.box 2 then 2 else 0
def nP(a b:dw):Int:=if 4096<Rz a.box b.box (Z8 a b) then 4096 else Rz a.box b.box (Z8 a b)
def sP(a b:dw):Int:=if cN a.aq (Z8 a b)<=cN b.aq (Z8 a b) then aw (0-nP a b) else nP a b
def j6(a b:dw):Ce × Ce:=if iW a.box b.box=true then (im (0,0,0) (Z8 a b) (sP a b),im (0,0,0) (Z8 a b) (aw (0-sP a b))) else ((0,0,0),(0,0,0))
def Zf(a b:dw)(hwa:dJ a.wd)(hwb:dJ b.wd)(w:World):
  ae 170 #[FJ a,FJ b] w λe w'=>e=Value.tuple #[eg (j6 a b).1,eg (j6 a b).2]/\Ext w w':=by
 apply Yj.vc;intro w0 e0 w1 e1 w2 e2 w3 e3;have x0:=aQ e0;have z0:=zA e0;have r0:Row w0 w (kc a) BV:=Row.nw e0;have x1:=aQ e1;have z1:=zA e1;have r1:Row w1 w0 (kc b) BV:=Row.nw e1;have x2:=aQ e2;have z2:=zA e2;have x3:=aQ e3;have z3:=zA e3;have Da:=x0.tr (x1.tr (x2.tr x3));have ra:=r0.ext (x1.tr (x2.tr x3));have rb:=r1.ext (x2.tr x3);refine ⟨λp q wj=>∃gX gY:Nat,p=some ⟨gX,0,none⟩/\q=some ⟨gY,0,none⟩/\Row wj gX (qA a.box) gu/\Row wj gY (qA b.box) gu/\Ext w3 wj,?_,?_⟩
 ·have X:=Ext.dr w3;have zd:=m7 w3;have hA:=λw=>kY a hwa w
  have hB:=λw=>kY b hwb w
  generalize a.box=A at hA ⊢;generalize b.box=B at hB ⊢
  repeat' first
   |(with_reducible refine (hA _).mono ?_;rintro e v ⟨rfl,xn⟩;have zn:=xn.size;refine ⟨_,_,_,_,_,_,rfl,?_⟩;(repeat (refine ⟨xn.heap aa,?_⟩));refine ⟨Lo.wv (r1.ext (x2.tr (x3.tr (X.tr xn)))),?_⟩;have X:=X.tr xn;(try have rX:=rX.ext xn);(try have rY:=rY.ext xn);clear xn)
   |(with_reducible refine (hB _).mono ?_;rintro e v ⟨rfl,xn⟩;have zn:=xn.size;refine ⟨_,_,_,_,_,_,rfl,?_⟩;(repeat (refine ⟨xn.heap aa,?_⟩));have X:=X.tr xn;(try have rX:=rX.ext xn);(try have rY:=rY.ext xn);clear xn)
   |(intro v en;have rn:Row v _ [ai,ai,ai,ai,ai,ai] gu:=rN en;have xn:=(aQ en);have zn:=zA en;have X:=X.tr xn;(try have rY:=rX.ext xn);have rX:=rn;clear xn en rn)
   |(intro ws es wt et;have zs:=zR es;have zt:=zR et;have q1:Row ws _ (qA A) gu:=rS rX es;have q2:=rY.so es;have q3:Row wt _ (qA B) gu:=rS q2 et;have q1:=q1.so et;exact ⟨rfl,rfl,rfl,rfl,_,_,rfl,rfl,q1,q3,(X.ab es aa).ab et aa⟩)
   |(intro ws es wt et;have zs:=zR es;have zt:=zR et;have q1:Row ws _ (qA A) gu:=rS rY es;have q2:=rX.so es;have q3:Row wt _ (qA B) gu:=rS q2 et;have q1:=q1.so et;exact ⟨rfl,rfl,rfl,rfl,_,_,rfl,rfl,q1,q3,(X.ab es aa).ab et aa⟩)
   |refine And.intro ?_ ?_
 ·rintro us p q wj ⟨gX,gY,rfl,rfl,rX,rY,xj⟩;have zj:=xj.size;refine ⟨_,_,_,_,_,_,Lo.wv rX,_,_,_,_,_,_,Lo.wv rY,(Bt a.box b.box wj).mono ?_⟩;rintro e Sv ⟨rfl,Dl⟩;have aIm:=Dl.size;have rX5:=rX.ext Dl;have rY5:=rY.ext Dl;have xw:=Da.tr (xj.tr Dl);unfold j6;refine ⟨_,rfl,Dl.heap aa,Dl.heap aa,Dl.heap aa,Dl.heap aa,Br.mk (λhc arz aAI arA aAJ=>⟨?_,(xw.ab aAI aa).ab aAJ aa⟩) (λhc=> ?_)⟩
  ·have hc:iW a.box b.box=false:=by simpa using hc
   rw [hc];rfl
  ·have hc:iW a.box b.box=true:=by simpa using hc
   rw [if_pos hc];refine ⟨λx wr=>x=Z8 a b/\Ext Sv wr,?_,?_⟩
   ·refine (yT a.box b.box 0 rX5 rY5).mono ?_;rintro e aiQ ⟨rfl,Od⟩;have aIn:=Od.size;refine ⟨_,rfl,Od.heap aa,Od.heap aa,Od.heap aa,Od.heap aa,(yT a.box b.box 2 (rX5.ext Od) (rY5.ext Od)).mono ?_⟩;rintro e aiR ⟨rfl,We⟩;have aIo:=We.size;unfold Z8;refine ⟨_,rfl,We.heap aa,We.heap aa,We.heap aa,We.heap aa,Br.mk (λq=>⟨rfl,rfl,rfl,rfl,?_,Od.tr We⟩) (λq=>⟨rfl,rfl,rfl,rfl,?_,Od.tr We⟩)⟩
    ·rw [if_pos (by simpa using q)]
    ·rw [if_neg (by simpa using q)]
   ·rintro us x wr ⟨rfl,xr⟩;have zr:=xr.size;refine ⟨λx wr=>x=nP a b/\Ext Sv wr,?_,?_⟩
    ·refine (yT a.box b.box (Z8 a b) (rX5.ext xr) (rY5.ext xr)).mono ?_;rintro e Sk ⟨rfl,So⟩;have aIp:=So.size;exact ⟨_,rfl,So.heap aa,So.heap aa,So.heap aa,So.heap aa,rfl,rfl,rfl,rfl,rfl,xr.tr So⟩
    ·rintro us x wr ⟨rfl,xr⟩;have zr:=xr.size;have xd:=Ext.dr wr;have zd:=m7 wr;have yd:=xj.tr (Dl.tr (xr.tr xd));refine ⟨λx wr=>x=sP a b/\Ext Sv wr,?_,?_⟩
     ·refine (da a.aq (Z8 a b) wr.drew).mono ?_;rintro e abq ⟨rfl,Fp⟩;have aIq:=Fp.size;refine ⟨_,rfl,Fp.heap aa,Fp.heap aa,Fp.heap aa,Fp.heap aa,ti (o:=0) (rb.ext (yd.tr Fp)) rfl rfl rfl,(da b.aq (Z8 a b) abq).mono ?_⟩;rintro e Sn ⟨rfl,qF⟩;have aAA:=qF.size;unfold sP;refine ⟨_,rfl,qF.heap aa,qF.heap aa,qF.heap aa,qF.heap aa,Br.mk (λq=>⟨rfl,rfl,rfl,rfl,?_,xr.tr (xd.tr (Fp.tr qF))⟩) (λq=>⟨rfl,rfl,rfl,rfl,?_,xr.tr (xd.tr (Fp.tr qF))⟩)⟩
      ·rw [if_pos (by simpa using q)]
      ·rw [if_neg (by simpa using q)]
     ·rintro us x ws ⟨rfl,xs⟩;have zs:=xs.size;refine (jG (0,0,0) (Z8 a b) (sP a b) ws).mono ?_;rintro e afF ⟨rfl,abG⟩;have aIr:=abG.size;refine ⟨_,_,_,rfl,abG.heap aa,abG.heap aa,abG.heap aa,abG.heap aa,(jG (0,0,0) (Z8 a b) (aw (0-sP a b)) afF).mono ?_⟩;rintro e ans ⟨rfl,N2⟩;have aIs:=N2.size;exact ⟨_,_,_,rfl,N2.heap aa,N2.heap aa,N2.heap aa,N2.heap aa,λarE aAK arF aAL=>⟨rfl,((xw.tr (xs.tr (abG.tr N2))).ab aAK aa).ab aAL aa⟩⟩
def okB(m:Int)(b:dw):Prop:=eK b.aq m/\(0<=b.wd/\b.wd<=1000000)/\(0<=b.ht/\b.ht<=1000000)/\-1000000<=b.speed.2.1/\b.speed.2.1<=1000000
def okB.up{b:dw}{m n:Int}(h:okB m b)(hn:m<=n):okB n b:=⟨h.1.up hn,h.2⟩
def okB.wdi{b:dw}{m:Int}(h:okB m b):dJ b.wd:=by unfold dJ;have:=h.2.1;omega
def okB.Co{b:dw}{m:Int}(h:okB m b)(hm:m<=99970000000000):bN b.box (m+1000000):=TU h.1 h.2.1 h.2.2.1 aa
def vy{V:Ce->Int}{b:dw}{d:Ce}{m:Int}(h:okB m b)(hm:m<=99970000000000):okB (m+12582912) (jJ V b d):=by
 have hn:=h.Co hm;have h1:=Mu (V:=V) (p:=ao) (d:=kN b.aq d) hn aa;have h2:=PA (V:=V) (p:=ao) (d:=kN b.aq d) hn aa;have hm0:0<=m:=by have:=h.1;unfold eK at this;omega
 exact ⟨PB h.1 (eK.up hn.lo aa) h1.lo h2 aa aa aa,h.2⟩
def ahz(h:Ht)(v:Ce)(hv: -1000000<=v.2.1/\v.2.1<=1000000): -1000000<=(gN h v).2.1/\(gN h v).2.1<=1000000:=by
 have e:(gN h v).2.1=if h.2.1=true then cU 0 else v.2.1:=by
  unfold gN
  cases h.1<;>cases h.2.1<;>cases h.2.2<;>rfl
 rw [e];have c0:cU 0=0:=by decide
 rw [c0];split<;>omega
def ahA{V:Ce->Int}{b:dw}{m:Int}(h:okB m b)(hm:m<=99970000000000):okB (m+16777216) (D5 V b):=by
 have hn:=h.Co hm;have h1:=acQ (V:=V) (p:=ao) (d:=kN b.aq b.speed) (up:=32768) hn aa;have hm0:0<=m:=by have:=h.1;unfold eK at this;omega
 exact ⟨PB h.1 (eK.up hn.lo aa) h1.2.lo h1.1 aa aa aa,h.2.1,h.2.2.1,ahz _ _ h.2.2.2⟩
def MT{n jump less least:Int}{j:Bool}(hn: -1000000<=n/\n<=1000000)(hj: -1000000<=jump/\jump<=1000000)(hl:0<=less)(ht:0<=least/\least<=1000000): -1000000<=xL n jump less least j/\xL n jump less least j<=1000000:=by unfold xL;split<;>omega
def ahB{V:Ce->Int}{b:dw}{i:FE}{m:Int}(h:okB m b):okB m (mG V b i):=by
 unfold mG;split
 ·exact ⟨h.1,h.2.1,h.2.2.1,MT h.2.2.2 aA aA aA⟩
 ·split
  ·exact ⟨h.1,h.2.1,h.2.2.1,MT h.2.2.2 aA aA aA⟩
  ·exact ⟨h.1,h.2.1,h.2.2.1,MT h.2.2.2 aA aA aA⟩
def W2{V:Ce->Int}{b:dw}{i:FE}{m:Int}(h:okB m b)(hm:m<=99970000000000):okB (m+16777216) (su V b i):=ahA (ahB (b:=qc b i) h) hm
def vx(V:Ce->Int)(i k:Nat)(l:List dw):List dw:=
 match l[i]?,l[k]? with
 |some a,some b=>(l.set i (jJ V a (j6 a b).1)).set k (jJ V b (j6 a b).2)
 |_,_=>l
def EW(V:Ce->Int)(i:Nat):Nat->Nat->List dw->List dw
 |_,0,l=>l
 |k,n+1,l=>EW V i (k+1) n (vx V i k l)
def crB(V:Ce->Int):Nat->Nat->List dw->List dw
 |_,0,l=>l
 |i,n+1,l=>crB V (i+1) n (EW V i (i+1) (l.length-(i+1)) l)
def re(V:Ce->Int)(l:List dw):List dw:=crB V 0 l.length l
def CB(b:dw):One (kc b):=by intro u hu;simp at hu;rcases hu with rfl|rfl|rfl|rfl|rfl|rfl|rfl|rfl|rfl<;>rfl
def ady(l:List dw):∀r ∈ l.map kc,r.length=9:=by intro r hr;obtain ⟨b,-,rfl⟩:=aU.1 hr;rfl
def ahC(l:List dw):∀r ∈ l.map kc,One r:=by intro r hr;obtain ⟨b,-,rfl⟩:=aU.1 hr;exact CB b
def Qz{B:Nat}{w:World}{s:Sl}{l:List dw}(ho:ar B BV 9 w s (l.map kc))(hl:l.length<=5000):
  ae 169 #[s] w λe w'=>∃s':Sl,e=s'/\ar w BV 9 w' s' (l.map kc)/\Ext w w':=by
 apply AE.vc;have hn:s.n=l.length:=by rw [(ho.rd aA).n,aL]
 apply Br.mk<;>intro h
 ·rcases ho.form aA with ⟨hs,Fi⟩|⟨g0,cs,ha,-⟩
  ·exact ⟨⟨none,0,0⟩,rfl,by rw [Fi];exact ar.nil,Ext.cG _⟩
  ·rw [ha] at h;cases h
 ·intro w0 e0;have x0:=aQ e0;have Dp:=fj e0;have hr0:Row w0 w [] BV:=by rw [e0];exact Row.new _ _ _
  have sH:ar w BV 9 w0 ⟨aD w.heap.size,0,0⟩ []:=ar.jA (ak _) hr0 bg (ak _) rfl bg;obtain ⟨hp,hr⟩:=sH.Jq (bytes:=72) (more:=l.map kc) x0.size (ady _) (ahC _) tP tP;rw [aL,<-hn] at hp hr;refine ⟨(l.map kc).flatten,((ho.ext x0).rd aA).flat aA,hp,λs2 w3 bf=> ?_⟩;obtain ⟨h1,h2,h3,h4,h5⟩:=hr s2 w3 bf;refine ⟨qL bf (by rw [bA (ady _),aL,hn]) aa,s2,rfl,h1,x0.trans h3⟩
def adz{B:Nat}{w:World}{s:Sl}{l:List dw}(ho:ar B BV 9 w s (l.map kc)){i:Nat}(hi:i<l.length)(x:dw):
  (af s.a (i*9)).isSome=true/\Wr w (af s.a (i*9)) 9/\∀w',w'=bF w (af s.a (i*9)) (kc x)->ar B BV 9 w' s ((l.set i x).map kc)/\Below B w w'/\Mod (λb=>s.aZ=some b) w w':=by
 obtain ⟨h1,h2,h3,h4,h5⟩:=ho.put (i:=i) (r:=kc x) (by simpa using hi) aA rfl (CB x);refine ⟨h1,h2,λw' e=> ?_⟩;subst e;exact ⟨by rw [jY];exact h3,h4,h4.os,h4.tape,h4.output,h4.size,λj _ hn=>h5 j hn⟩
def Hm{v:Value}{V:Ce->Int}{w:World}(hV:Tl v V w)(hv:lF v=[]){B:Nat}{s:Sl}{l:List dw}(ho:ar B BV 9 w s (l.map kc))(hl:l.length<=16){m:Int}(bc:∀b ∈ l,okB m b)(hm0:0<=m)(hm:m<=99960000000000):
  ae 117 #[v,s] w λe w'=>∃s':Sl,e=s'/\ar w BV 9 w' s' ((re V l).map kc)/\Ext w w'/\(∀b ∈ re V l,okB (m+16*16*12582912) b)/\(re V l).length=l.length:=by
 apply TZ.vc;refine (Qz ho aa).mono ?_;rintro e w0 ⟨s1,rfl,h1,x1⟩;have Ov:s1.n=l.length:=by rw [(h1.rd aA).n,aL]
 refine ⟨s1,rfl,λn x wr=>∃(i:Nat)(cur:List dw),x=i/\i+n=l.length/\cur.length=l.length/\ar w BV 9 wr s1 (cur.map kc)/\Ext w wr/\(∀b ∈ cur,okB (m+16*i*12582912) b)/\re V l=crB V i n cur,⟨l.length,0,l,rfl,aa,rfl,h1,x1,λb hb=>(bc b hb).up aa,rfl⟩,?_⟩;rintro n us x w6 ⟨i,cur,rfl,oh,dp,hO,xr,hb,V9⟩;apply Br.mk<;>intro hc
 ·have hc:i<l.length:=by
   have:(i:Int)<s1.n:=by simpa using hc
   omega
  obtain ⟨n,rfl⟩:∃n',n=n'+1:=⟨n-1,aa⟩;have wk:=ov (j:=i);rw [wk];refine ⟨λn8 x cC=>∃(k:Nat)(cur:List dw),x=k/\k+n8=l.length/\i<k/\cur.length=l.length/\ar w BV 9 cC s1 (cur.map kc)/\Ext w cC/\(∀b ∈ cur,okB (m+(16*i+k)*12582912) b)/\re V l=crB V (i+1) n (EW V i k n8 cur),⟨n,i+1,cur,rfl,aa,aa,dp,hO,xr,λb hb'=>(hb b hb').up aa,?_⟩,?_⟩
  ·rw [V9];show crB V (i+1) n (EW V i (i+1) (cur.length-(i+1)) cur)=_;rw [show cur.length-(i+1)=n from by omega]
  rintro n8 us x cC ⟨k,cur,rfl,Xz,hik,dp,hO,xr,hb,V9⟩;apply Br.mk<;>intro ky
  ·have ky:k<l.length:=by
    have:(k:Int)<s1.n:=by simpa using ky
    omega
   obtain ⟨n8,rfl⟩:∃n',n8=n'+1:=⟨n8-1,aa⟩;have ha:cur[i]? =some (cur[i]'aa):=cX aa;have Jf:cur[k]? =some (cur[k]'aa):=cX aa;have oka:=hb _ (List.getElem_mem (l:=cur) (n:=i) aa);have okb:=hb _ (List.getElem_mem (l:=cur) (n:=k) aa);generalize cur[i]'aa=a at ha oka;generalize cur[k]'aa=b at Jf okb;have V9:re V l=crB V (i+1) n (EW V i (k+1) n8 ((cur.set i (jJ V a (j6 a b).1)).set k (jJ V b (j6 a b).2))):=by rw [V9];show crB V (i+1) n (EW V i (k+1) n8 (vx V i k cur))=_;rw [show vx V i k cur=(cur.set i (jJ V a (j6 a b).1)).set k (jJ V b (j6 a b).2) from by unfold vx;rw [ha,Jf]]
   have hwa:=oka.wdi;have hwb:=okb.wdi;have jj:=(hO.ext (Ext.dr cC)).rd aA;have xi:(cur.map kc)[i]? =some (kc a):=by rw [aS,ha];rfl
   have VP:(cur.map kc)[k]? =some (kc b):=by rw [aS,Jf];rfl
   have ib:∀j:Nat,j<l.length->eL s1.a (j:Int) s1.n:=λj hj=>jj.jd aA aa aa
   have hZ:cur.map kc≠ []:=λh=>by rw [h] at xi;cases xi
   have iX:∀g,s1.aZ=some g->g<cC.heap.size:=λg hg=>jj.UG aA hZ hg
   have hX0:16*(i:Int)+k<=256:=by omega
   refine ⟨λp q wj=>∃gX gY:Nat,p=aD gX/\q=aD gY/\Row wj gX (dZ (j6 a b).1) iM/\Row wj gY (dZ (j6 a b).2) iM/\Ext cC wj/\cC.heap.size<=gY,⟨ib i hc,_,_,_,_,_,_,_,_,_,jj.bI xi,ib k ky,_,_,_,_,_,_,_,_,_,jj.bI VP,?_⟩,?_⟩
   ·have X:=Ext.dr cC;have zd:=m7 cC
    repeat' first
     |(refine (Zf a b hwa hwb _).mono ?_;rintro e v ⟨rfl,xn⟩;have zn:=xn.size;refine ⟨_,_,_,_,_,_,rfl,?_⟩;(repeat (refine ⟨xn.heap aa,?_⟩));have X:=X.tr xn;(try have rX:=rX.ext xn);(try have rY:=rY.ext xn);clear xn)
     |(intro v en;have rn:Row v _ [ai,ai,ai] iM:=rN en;have xn:=(aQ en);have zn:=zA en;have X:=X.tr xn;(try have rY:=rX.ext xn);have rX:=rn;clear xn en rn)
     |(intro ws es wt et;have zs:=zR es;have zt:=zR et;have q1:Row ws _ (dZ (j6 a b).1) iM:=rS rX es;have q2:=rY.so es;have q3:Row wt _ (dZ (j6 a b).2) iM:=rS q2 et;have q1:=q1.so et;exact ⟨_,_,rfl,rfl,q1,q3,(X.ab es aa).ab et aa,aa⟩)
     |(intro ws es wt et;have zs:=zR es;have zt:=zR et;have q1:Row ws _ (dZ (j6 a b).1) iM:=rS rY es;have q2:=rX.so es;have q3:Row wt _ (dZ (j6 a b).2) iM:=rS q2 et;have q1:=q1.so et;exact ⟨_,_,rfl,rfl,q1,q3,(X.ab es aa).ab et aa,aa⟩)
     |refine And.intro ?_ ?_
   ·rintro us p q wj ⟨gX,gY,rfl,rfl,rX,rY,xj,hgY⟩;have xd:=Ext.dr wj;have hOj:=hO.ext (xj.tr xd);refine ⟨λw'=>ar w BV 9 w' s1 ((cur.set i (jJ V a (j6 a b).1)).map kc)/\Row w' gY (dZ (j6 a b).2) iM/\Ext w w',⟨ib i hc,_,_,_,_,_,_,_,_,_,(hOj.rd aA).bI xi,_,_,_,Lo.wv (rX.ext xd),(HA (hV.ext (xr.tr (xj.tr xd))) hv a hwa (oka.Co aa) aa (j6 a b).1).mono ?_⟩,?_⟩
    ·rintro e IP ⟨rfl,BL⟩;have hO7:=hOj.ext BL;obtain ⟨q1,q2,q3⟩:=adz hO7 (i:=i) aa (jJ V a (j6 a b).1);refine ⟨_,_,_,_,_,_,_,_,_,rfl,ib i hc,⟨q1,q2⟩,λVR azn=> ?_⟩;obtain ⟨p1,p2,p3⟩:=q3 VR azn;have rY7:=rY.ext (xd.tr BL);exact ⟨p1,rY7.same (p3.same _ rY7.lt (λh=>by have:=iX _ h;omega)),(xr.tr (xj.tr (xd.tr BL))).trans p2⟩
    ·rintro us Di ⟨asJ,rY9,afD⟩;have xd9:=Ext.dr Di;have hrd9:=(asJ.ext xd9).rd aA;have hrk9:((cur.set i (jJ V a (j6 a b).1)).map kc)[k]? =some (kc b):=by rw [aS,xK aa,Jf];rfl
     refine ⟨ib k ky,_,_,_,_,_,_,_,_,_,hrd9.bI hrk9,_,_,_,Lo.wv (rY9.ext xd9),(HA (hV.ext (afD.tr xd9)) hv b hwb (okb.Co aa) aa (j6 a b).2).mono ?_⟩;rintro e Sq ⟨rfl,asL⟩;obtain ⟨q1,q2,q3⟩:=adz ((asJ.ext xd9).ext asL) (i:=k) (by rw [iE];omega) (jJ V b (j6 a b).2);refine ⟨_,_,_,_,_,_,_,_,_,rfl,ib k ky,⟨q1,q2⟩,λsL azo=> ?_⟩;obtain ⟨p1,p2,p3⟩:=q3 sL azo;refine ⟨n8,aa,k+1,_,?_,aa,aa,by rw [iE,iE];exact dp,p1,(afD.tr (xd9.tr asL)).trans p2,λy hy=> ?_,V9⟩
     ·rw [wI];omega
     ·rcases iV hy with hy|rfl
      ·rcases iV hy with hy|rfl
       ·exact (hb y hy).up aa
       ·exact (vy oka aa).up aa
      ·exact (vy okb aa).up aa
  ·have ky:¬k<l.length:=λh=>by
    have:¬(k:Int)<s1.n:=by simpa using ky
    omega
   have:n8=0:=by omega
   subst this;exact ⟨n,aa,i+1,cur,rfl,aa,dp,hO,xr,λb hb'=>(hb b hb').up aa,V9⟩
 ·have hc:¬i<l.length:=λh=>by
   have:¬(i:Int)<s1.n:=by simpa using hc
   omega
  have:n=0:=by omega
  subst this;have V9:re V l=cur:=V9;refine ⟨s1,rfl,by rw [V9];exact hO,xr,λb hb'=> ?_,by rw [V9];exact dp⟩;rw [V9] at hb';exact (hb b hb').up aa
variable {R:Ending->World->Prop} {w:World} {a0 a1 a2 a3 aE au aB cw cA cO fO fi eP aH aG aM dq ef dj:Int}
def ahq.vc(h:
 Aw w #[aE,au,aB] 28 λw0=>
 Aw w0 #[ai,ai,ai] 28 λw1=>
 ae 203 #[.agg #[aE,au,aB],.func (.func 256) #[] #[]] w1 (jl λx3 x4 x5 w2=>K2 w w0 w1 w2 (
 Sw w2 w0 #[x3,x4,x5] λw6=>
 R (qY #[x3,x4,x5]) w6))):ae 195 #[.agg #[aE,au,aB]] w R:=
 cq bG func195 h
def Y1.vc(h:
 ae 214 #[a1] w (kX λx1 w0=>R x1 w0)):ae 256 #[a0,a1] w R:=
 cq bG func256 h
def ahr.vc(h:
 Aw w #[aE,au,aB] 28 λw0=>
 Aw w0 #[ai,ai,ai] 28 λw1=>
 ae 257 #[aE] w1.drew (Ri λx3 w2=>K2 w w0 w1.drew w2 (
 ah w2 (fP w 2) 0 [aB]/\ah w2 (fP w 1) 0 [au]/\ae 257 #[au] w2 (Ri λx5 w4=>K2 w w0 w2 w4 (
 ah w4 (fP w 2) 0 [aB]/\ae 257 #[aB] w4 (Ri λx7 w6=>K2 w w0 w4 w6 (
 Sw w6 w0 #[x3,x5,x7] λw8=>
 R (qY #[x3,x5,x7]) w8))))))):ae 196 #[.agg #[aE,au,aB]] w R:=
 cq bG func196 h
def Y2.vc(h:(λA=>
 R (Value.int .i64 (if 1048576<A then 1048576 else A)) w) (if (-1048576)>a0 then (-1048576) else a0)):ae 257 #[a0] w R:=
 cq bG func257 h
def Uw.vc(h:
 Aw w #[aE,au] 267 λw0=>
 Aw w0 #[aH,aG] 267 λw1=>(λAa=>
 Br (au==0)
 Aa
 (Br (aG==0)
 Aa
 (R (uD (decide (((aw (aE*aG)):Int)<(aw (aH*au))))) w1))) (R (uD (decide (au>0))) w1)):ae 200 #[.agg #[aE,au],.agg #[aH,aG]] w R:=
 cq bG func200 h
def Y3.vc(h:(λA B C=>
 Aw w #[aE,au,aB] 28 λw0=>
 Aw w0 #[aH,aG,aM] 28 λw1=>
 Aw w1 B 268 λw2=>(λAa=>
 Aw w2 B 268 λw3=>
 sN (λI4 n5=>aN C/\aN A/\I4 n5 (0) w3) λI4 n5 us6 x7 w8=>(λAb Ac=>
 Br (x7<3)
 (ae 178 #[.agg #[aE,au,aB],x7] w8.drew (Ri λbK bo=>K2 w w0 w8.drew bo (
 ah bo (aD w0) 0 A/\ae 178 #[.agg #[aH,aG,aM],x7] bo (Ri λcR cC=>K2 w w0 bo cC (
 ae 258 #[bK] cC (Ri λcW bH=>K2 w w0 cC bH (
 (0:Int)<=x7/\x7<((3:Nat):Int)/\(true=true/\Wr bH Ab 2)/\bk Ab≠some w.heap.size/\bk Ab≠some w0.heap.size/\(Pw bH Ab [cW,(aw (0-cR))] λcD=>
 Br (cR>0)
 (ae 258 #[bK] cD (Ri λdc cL=>K2 w w0 cD cL (
 (0:Int)<=x7/\x7<((3:Nat):Int)/\(true=true/\Wr cL Ab 2)/\bk Ab≠some w.heap.size/\bk Ab≠some w0.heap.size/\(Pw cL Ab [(aw (65536-dc)),cR] λfK=>
 ∃n9,n9<n5/\aN C/\aN A/\I4 n9 Ac fK))))
 (∃n9,n9<n5/\aN C/\aN A/\I4 n9 Ac cD)))))))))
 (DM w8 Aa λdN eO fN fC gW eZ=>
 Wt w8 ⟨w1,0,none⟩ 6/\Nb w1 w/\Nb w1 w0/\(Pw w8 (aD w1) [dN,eO,fN,fC,gW,eZ] λgx=>
 DM gx (aD w1) λjm nv jk nu lp lr=>
 R (qY #[jm,nv,jk,nu,lp,lr]) gx))) (af Aa ((x7:Int).toNat*2)) ((aw (x7+1)))) (aD w2)) [aH,aG,aM] #[ai,ai,ai,ai,ai,ai] [aE,au,aB]):ae 198 #[.agg #[aE,au,aB],.agg #[aH,aG,aM]] w R:=
 cq (Of 3 9) func198 h
def Ux.vc(h:
 Aw w #[aE,au,aB] 41 λw0=>
 Aw w0 #[aH,aG,aM] 41 λw1=>
 Aw w1 #[a2] 3 λw2=>
 ae 259 #[aE,aH,.pointer (aD w1)] w2 (Rb λb4 w3=>K2 w w0 w2 w3 (
 Br b4
 (ae 259 #[au,aG,.pointer (aD w1)] w3 (Rb λb6 w5=>K2 w w0 w3 w5 (
 Br b6
 (ae 259 #[aB,aM,.pointer (aD w1)] w5 (Rb λb8 w7=>K2 w w0 w5 w7 (
 R b8 w7)))
 (R false w5))))
 (R false w3)))):ae 199 #[.agg #[aE,au,aB],.agg #[aH,aG,aM],a2] w R:=
 cq bG func199 h
def MQ.vc{c0:Addr}(h:
 kW w (some c0) λx0=>
 Br (decide (((aw (a0-a1)):Int)<=x0))
 (kW w (some c0) λx1=>
 R (uD (decide (((aw (a1-a0)):Int)<=x1))) w)
 (R false w)):ae 259 #[a0,a1,c0] w R:=
 cq bG func259 h
def Y4.vc(h:
 ae 260 #[a0] w (ag7 λx1 b2 w0=>(λAa=>ae 260 #[a1] w0 (ag7 λx4 b5 w3=>Br (x4==0)
 (R (dS #[ai,(1:Int)]) w3)
 (aT (Oe x4) (aT (Oe x4) (ae 261 #[.int .u64 (fR (Int.tdiv Aa x4)),.bool (((Int.tmod Aa x4):Int) !=0),.bool (!(b2==b5))] w3.drew (kX λx7 w6=>R (dS #[x7,ai]) w6)))))) (fR (x1*2 ^(min (16:Int).toNat 64))))):ae 201 #[a0,a1] w R:=
 cq bG func201 h
def Ql.vc{a0:Value}{c0:Addr}{c1:Addr}{c2:Addr}(h:(λA B=>
 gM w (some c0) λx0 x1 x2=>
 gM w (some c1) λx3 x4 x5=>
 ae 198 #[.agg #[x0,x1,x2],.agg #[x3,x4,x5]] w (aln λx7 x8 x9 bE bK bW w6=>(λAa=>Aw w6 B 268 λbP=>
 (Pt bP ⟨w6,0,none⟩ 6 [x7,x8,x9,bE,bK,bW] λbH=>
 gM bH (some c0) λcW du dH=>
 ae 101 #[.agg #[cW,du,dH]] bH (T9 λdb dN eO dI=>(λAb=>Aw dI B 77 λdm=>
 Sw dm dI #[db,dN,eO,ai,(-1:Int),ai] λfQ=>(λAc=>
 Aw fQ #[ai,ai,ai] 41 λgC=>
 Sw gC fQ #[db,dN,eO] λcZ=>
 ∃XI:Nat->Int->Int->Int->Int->Int->Int->World->Prop,
 (∃V2,aN Ab/\XI V2 db dN eO (0) ((-1)) (0) cZ)/\
 ∀(V2:Nat)(arH:Nat->Value)(jk nu lp lr fD jO:Int)(gT:World),XI V2 jk nu lp lr fD jO gT->
 kW gT (some c2) λlh=>
 ae 199 #[.agg #[db,dN,eO],.agg #[jk,nu,lp],lh] gT (Rb λb39 oE=>Ac gT oE (
 Br b39
 (bB Tryz.prog a0 [.agg #[jk,nu,lp,lr,fD,jO]] oE (Rb λb41 kz=>Ac oE kz (
 Br (!b41)
 (R ya kz)
 (se (λI42 n43=>aN [jk,nu,lp,lr,fD,jO]/\aN Ab/\I42 n43 (0) (0) kz) λI42 n43 aGY uN oH nA=>(λAd Ae Af Ag=>
 Br (uN<3)
 ((0:Int)<=uN/\uN<A/\nR nA.drew (af Aa ((uN:Int).toNat*2)) λOt sS=>
 (0:Int)<=oH/\oH<A/\nR nA.drew Ad λrA rq=>
 ae 200 #[.agg #[Ot,sS],.agg #[rA,rq]] nA.drew (Rb λb54 Tp=>Ac nA.drew Tp (
 Br b54
 (∃n48,n48<n43/\aN [jk,nu,lp,lr,fD,jO]/\aN Ab/\I42 n48 Ag uN Tp)
 (∃n48,n48<n43/\aN [jk,nu,lp,lr,fD,jO]/\aN Ab/\I42 n48 Ag oH Tp))))
 ((0:Int)<=oH/\oH<A/\kW nA (af Ad 1) λoG=>
 Br (oG==0)
 (R ya nA)
 ((0:Int)<=oH/\oH<A/\kW nA.drew (af Ad 0) λxV=>
 (0:Int)<=oH/\oH<A/\kW nA.drew (af Ad 1) λrJ=>
 ae 201 #[xV,rJ] nA.drew (Qm λuo oo Er=>Ac nA.drew Er (
 (0:Int)<=oH/\oH<A/\kW Er (af Ad 0) λzI=>
 (0:Int)<=oH/\oH<A/\(true=true/\Wr Er (af Ad 0) 1)/\bk (af Ad 0)≠some dI.heap.size/\bk (af Ad 0)≠some fQ.heap.size/\(Pw Er (af Ad 0) [(aw (zI+65536))] λjX=>
 gM jX (some c1) λuQ BN sR=>
 ae 178 #[.agg #[uQ,BN,sR],oH] jX (Ri λoT sQ=>Ac jX sQ (
 Br (oT>0)
 (ae 159 #[.agg #[jk,nu,lp]] sQ (Mq λwN ur uM wM uW BY Fk II x77 Oj Kc FX zJ zK Fl Ke Kf x86 uK=>Ac sQ uK (
 ((0:Int)<=Ae/\(Ae:Int)<((6:Nat):Int))/\∃(vX x88 x89:Int),(([wN,ur,uM,wM,uW,BY,Fk,II,x77,Oj,Kc,FX,zJ,zK,Fl,Ke,Kf,x86]:LV).drop ((Ae:Int).toNat*3)).take 3=[.int .i64 vX,.int .i64 x88,.int .i64 x89]/\
 Sw uK dI #[vX,x88,x89,ai,(aw (Ae-1)),uo] λqq=>
 ∃n36,n36<V2/\aN Ab/\XI n36 vX x88 x89 (0) ((aw (Ae-1))) uo qq)))
 (ae 159 #[.agg #[jk,nu,lp]] sQ (Mq λLZ Ep x94 Oo Oq IL x98 Ol BO oJ vY zB Kj zC Dg BL Sp sK w91=>Ac sQ w91 (
 ((0:Int)<=Af/\(Af:Int)<((6:Nat):Int))/\∃(mz uP kT:Int),(([LZ,Ep,x94,Oo,Oq,IL,x98,Ol,BO,oJ,vY,zB,Kj,zC,Dg,BL,Sp,sK]:LV).drop ((Af:Int).toNat*3)).take 3=[.int .i64 mz,.int .i64 uP,.int .i64 kT]/\
 Sw w91 dI #[mz,uP,kT,ai,(aw (Ae-0)),uo] λVX=>
 ∃n36,n36<V2/\aN Ab/\XI n36 mz uP kT (0) ((aw (Ae-0))) uo VX))))))))))) (af Aa ((oH:Int).toNat*2)) (aw ((aw (2*oH))+1)) (aw ((aw (2*oH))+0)) ((aw (uN+1)))))))
 (R ya oE)))) (K2 dI fQ)) [db,dN,eO]))) (aD w6))) ((3:Nat):Int) #[ai,ai,ai,ai,ai,ai]):ae 197 #[a0,c0,c1,c2] w R:=
 cq ⟨[(7,⟨[(30,.int .i64),(8,.int .i64)],[],[]⟩),(3,⟨[],[(0,[.int .i64,.int .i64,.int .i64,.int .i64,.int .i64,.int .i64])],[]⟩)],[],[]⟩ func197 h
def Y5.vc(h:(λA=>
 Aw w #[aE,au,aB] 28 λw0=>
 Aw w0 #[aH,aG,aM] 28 λw1=>(λAa Ab=>
 Aw w1 #[a2] 3 λw2=>
 ae 195 #[.agg #[aE,au,aB]] w2.drew (jl λx4 x5 x6 w3=>Ab w2.drew w3 (
 ah w3 Aa 0 [a2]/\ah w3 (aD w0) 0 [aH,aG,aM]/\ae 196 #[.agg #[aH,aG,aM]] w3 (jl λx8 x9 bE w7=>Ab w3 w7 (
 ah w7 Aa 0 [a2]/\Sw w7 w #[x4,x5,x6] λbw=>
 ah bw Aa 0 [a2]/\Sw bw w0 #[x8,x9,bE] λcC=>
 ah cC Aa 0 [a2]/\Sw cC w1 #[.int .i64 (if 64<A then 64 else A)] λbP=>
 R (Value.func (.func 197) #[] #[w,.pointer (aD w0),.pointer Aa]) bP))))) (aD w1) (K3 w w0 w1)) (if 0>a2 then 0 else a2)):ae 143 #[.agg #[aE,au,aB],.agg #[aH,aG,aM],a2] w R:=
 cq bG func143 h
def ado.vc{a0:Value}(h:(λA B C D=>
 aT (lF a0) (
 Aw w #[a0] 65 λw0=>
 Aw w0 #[aH,aG,aM] 28 λw1=>
 Aw w1 #[dq,ef,dj] 28 λw2=>
 Aw w2 A 77 λw3=>(λAa=>
 Aw w3 #[false] 4 λw4=>
 ae 143 #[.agg #[aH,aG,aM],.agg #[dq,ef,dj],a3] w4 (Rv λv6 w5=>K5 w w0 w1 w2 w3 w4 w5 (
 ∃(xs7:List (LV))(Rd8 F9:Nat->Prop)(Fz:Nat->(Nat->Prop)->Int->Int->Int->Int->Int->Int->Bool->World->Prop)(X11:Option Nat->(Nat->Prop)->Int->Int->Int->Int->Int->Int->Bool->World->Prop),
 (∀x ∈ xs7,∃(bW cR cB cW du dH:Int),x=[.agg #[.int .i64 bW,.int .i64 cR,.int .i64 cB,.int .i64 cW,.int .i64 du,.int .i64 dH]])/\
 (∀(n18:Nat)(F19:Nat->Prop)(dN eO fN fC gW eZ:Int)(Kh:Bool)(fy iY:World),Fz n18 F19 dN eO fN fC gW eZ Kh fy->Below w5 fy iY->(∀i,F19 i->iY.heap[i]? =fy.heap[i]?)->Fz n18 F19 dN eO fN fC gW eZ Kh iY)/\
 (∀(n29:Option Nat)(F30:Nat->Prop)(lp lr fD jO oV oW:Int)(b37:Bool)(oE kR:World),X11 n29 F30 lp lr fD jO oV oW b37 oE->Below w5 oE kR->(∀i,F30 i->kR.heap[i]? =oE.heap[i]?)->X11 n29 F30 lp lr fD jO oV oW b37 kR)/\
 (∀(n40:Nat)(F41:Nat->Prop)(qU zp pk uN oH xl:Int)(b48:Bool)(pG:World),Fz n40 F41 qU zp pk uN oH xl b48 pG->∀i,F41 i->i<pG.heap.size/\i≠w5.heap.size/\i≠w5.heap.size+1)/\
 (∀(n50:Option Nat)(F51:Nat->Prop)(rq kS qV oG xV rJ:Int)(b58:Bool)(qE:World),X11 n50 F51 rq kS qV oG xV rJ b58 qE->∀i,F51 i->i<qE.heap.size/\i≠w5.heap.size/\i≠w5.heap.size+1)/\
 (∀i,Rd8 i->i<w5.heap.size/\¬F9 i/\i≠w.heap.size/\i≠w0.heap.size/\i≠w1.heap.size/\i≠w2.heap.size/\i≠w3.heap.size/\True)/\
 (∀oU:World,PD w5 w5 oU->Iter Tryz.prog (v6) oU Rd8 xs7/\aN [a0]/\aN C/\aN D/\Fz 0 F9 (0) (0) (0) (0) (0) (0) false oU)/\
 (∀(n61:Nat)(F62:Nat->Prop)(aG0:Nat->Value)(BN sR oI oT qp wN:Int)(b70:Bool)(uM wM uW BY Fk II:Int)(uO:World),xs7[n61]? =some [.agg #[.int .i64 uM,.int .i64 wM,.int .i64 uW,.int .i64 BY,.int .i64 Fk,.int .i64 II]]->Fz n61 F62 BN sR oI oT qp wN b70 uO->
 Aw uO A 77 λKi=>
 Sw Ki uO #[uM,wM,uW,BY,Fk,II] λxX=>
 Below uO uO xX/\∀rD:World,Rec (w5.heap.size+1) xX rD->Fz n61 F62 BN sR oI oT qp wN b70 rD->
 bB Tryz.prog a0 [.agg #[uM,wM,uW]] rD (Ri λzK xq=>K6 w w0 w1 w2 w3 uO rD xq (
 ae 144 #[zK] xq (Rb λb84 XF=>K6 w w0 w1 w2 w3 uO xq XF (
 Br (!b84)
 (Sw XF uO #[uM,wM,uW,zK,Fk,II] λw85=>
 Sw w85 w2 #[uM,wM,uW,zK,Fk,II] λw86=>
 Sw w86 w3 #[true] λEo=>
 true=true/\∃F88:Nat->Prop,(aN [a0]/\aN C/\aN D/\X11 none F88 uM wM uW zK Fk II true Eo)/\Step (λi=>(F62 i\/i ∈ Aa)\/uO.heap.size<=i) (λi=>F88 i\/i ∈ Aa) rD Eo)
 (∃F89:Nat->Prop,(aN [a0]/\aN C/\aN D/\Fz (n61+1) F89 BN sR oI oT qp wN b70 XF)/\Step (λi=>(F62 i\/i ∈ Aa)\/uO.heap.size<=i) (λi=>F89 i\/i ∈ Aa) rD XF))))))/\
 (∀(F90:Nat->Prop)(ayt:Nat->Value)(LZ Ep x94 Oo Oq IL:Int)(b98:Bool)(Jh:World),Fz xs7.length F90 LZ Ep x94 Oo Oq IL b98 Jh->Jh.heap[w5.heap.size]? =some B->
 Sw Jh w2 A λpo=>
 Sw po w3 #[false] λKk=>
 Kk.heap[w5.heap.size]? =some B/\∀an8:World,Rec w5 Kk an8->
 R (dS #[.agg A,false]) an8)/\
 (∀(aze:Nat->Prop)(aDD:Nat->Value)(zC Dg BL Sp sK mz:Int)(asF:Bool)(BM:World),X11 none aze zC Dg BL Sp sK mz asF BM->BM.heap[w5.heap.size]? =some B->
 BM.heap[w5.heap.size]? =some B/\∀VX:World,Rec w5 BM VX->
 R (dS #[.agg #[zC,Dg,BL,Sp,sK,mz],asF]) VX)))) ([w.heap.size,w0.heap.size,w1.heap.size,w2.heap.size,w3.heap.size]:List Nat))) #[ai,ai,ai,ai,ai,ai] (.deferred (some [])) [aH,aG,aM] [dq,ef,dj]):ae 87 #[a0,.agg #[aH,aG,aM],.agg #[dq,ef,dj],a3] w R:=
 cq ⟨[],[],[(3,⟨[],[(3,[.int .i64,.int .i64,.int .i64,.int .i64,.int .i64,.int .i64]),(4,[.bool])],[]⟩,[.agg [.int .i64,.int .i64,.int .i64,.int .i64,.int .i64,.int .i64]])]⟩ func87 h
def Uy.vc(h:(λA=>
 Aw w #[aE,au,aB,cw,cA,cO] 77 λw0=>
 Aw w0 A 41 λw1=>
 Br (cA<0)
 (Sw w1 w0 A λw2=>
 R (dS #[.agg A,false]) w2)
 (Br (cA>=6)
 (Sw w1 w0 A λw3=>
 R (dS #[.agg A,false]) w3)
 (ae 159 #[.agg #[aE,au,aB]] w1.drew (Mq λx5 x6 x7 x8 x9 bE bK bW cR cB cW du dH dc db dN eO fN w4=>K2 w w0 w1.drew w4 (
 ah w4 (fP w 4) 0 [cA]/\((0:Int)<=cA/\cA<((6:Nat):Int))/\∃(fC gW eZ:Int),(([x5,x6,x7,x8,x9,bE,bK,bW,cR,cB,cW,du,dH,dc,db,dN,eO,fN]:LV).drop ((cA:Int).toNat*3)).take 3=[.int .i64 fC,.int .i64 gW,.int .i64 eZ]/\
 Sw w4 w0 #[fC,gW,eZ] λgx=>
 R (dS #[.agg #[fC,gW,eZ],true]) gx))))) #[ai,ai,ai]):ae 109 #[.agg #[aE,au,aB,cw,cA,cO]] w R:=
 cq bG func109 h
def JK.vc{eP:Bool}(h:
 Aw w #[aE,au,aB,cw,cA,cO,fO,fi,eP] 70 λw0=>
 Aw w0 #[ai,ai,ai] 28 λw1=>
 ae 145 #[.agg #[aE,au,aB],.agg #[ai,(aw (Int.tdiv (aw (fi*4)) 5)),ai]] w1 (jl λx3 x4 x5 w2=>K2 w w0 w1 w2 (
 Sw w2 w0 #[x3,x4,x5] λw6=>
 R (qY #[x3,x4,x5]) w6))):ae 88 #[.agg #[aE,au,aB,cw,cA,cO,fO,fi,eP]] w R:=
 cq bG func88 h
def adp.vc(h:(λ(A:Array Value)(B:Array Value) C=>
 Aw w #[aE,au,aB] 41 λw0=>(λAa=>
 Aw w0 #[ai,ai,ai,ai,ai,ai] 107 λw1=>
 (ae 174 #[aE] w1.drew (Ri λx3 w2=>Aa w1.drew w2 (
 ah w2 C 0 [aB]/\ah w2 (fP w 1) 0 [au]/\(ae 174 #[au] w2 (Ri λx5 w4=>Aa w2 w4 (
 ah w4 C 0 [aB]/\(ae 174 #[aB] w4 (Ri λx7 w6=>(λ(Ab:Array Value) Ac=>Aa w4 w6 (
 (Aw w6 B 28 λw8=>
 Sw w8 w6 #[x3,x5,x7] λw9=>
 ae 145 Ab w9.drew (jl λbK bW cR bo=>Ac w9.drew bo (
 ah bo (aD w6) 0 [x3,x5,x7]/\Sw bo w0 #[x3,x5,x7,bK,bW,cR] λbH=>
 R (qY #[x3,x5,x7,bK,bW,cR]) bH)))/\(Aw w6 B 28 λee=>
 Sw ee w6 #[x3,x5,x7] λcD=>
 ae 145 Ab cD.drew (jl λdc db dN cL=>Ac cD.drew cL (
 ah cL (aD w6) 0 [x3,x5,x7]/\Sw cL w0 #[x3,x5,x7,dc,db,dN] λdU=>
 R (qY #[x3,x5,x7,dc,db,dN]) dU))))) #[.agg #[x3,x5,x7],.agg A] (K3 w w0 w6)))/\(Aw w4 B 28 λdm=>
 ae 174 #[aB] dm (Ri λgW fQ=>K3 w w0 w4 dm fQ (
 Sw fQ w4 #[x3,x5,gW] λcZ=>
 ae 145 #[.agg #[x3,x5,gW],.agg A] cZ.drew (jl λjm nv jk gx=>K3 w w0 w4 cZ.drew gx (
 ah gx (aD w4) 0 [x3,x5,gW]/\Sw gx w0 #[x3,x5,gW,jm,nv,jk] λgR=>
 R (qY #[x3,x5,gW,jm,nv,jk]) gR))))))))/\(Aw w2 B 28 λgS=>
 ae 174 #[au] gS (Ri λfD qT=>K3 w w0 w2 gS qT (
 ah qT C 0 [aB]/\ae 174 #[aB] qT (Ri λoV lq=>K3 w w0 w2 qT lq (
 Sw lq w2 #[x3,fD,oV] λkH=>
 ae 145 #[.agg #[x3,fD,oV],.agg A] kH.drew (jl λkm qv pF iR=>K3 w w0 w2 kH.drew iR (
 ah iR (aD w2) 0 [x3,fD,oV]/\Sw iR w0 #[x3,fD,oV,km,qv,pF] λoF=>
 R (qY #[x3,fD,oV,km,qv,pF]) oF))))))))))/\(Aw w1.drew B 28 λlf=>
 ae 174 #[aE] lf (Ri λpk jW=>Aa lf jW (
 jW.heap[w1.drew.heap.size]? =lf.heap[w1.drew.heap.size]?/\
 ah jW C 0 [aB]/\ah jW (fP w 1) 0 [au]/\ae 174 #[au] jW (Ri λoH zL=>Aa jW zL (
 zL.heap[w1.drew.heap.size]? =jW.heap[w1.drew.heap.size]?/\
 ah zL C 0 [aB]/\ae 174 #[aB] zL (Ri λDd nA=>Aa zL nA (
 nA.heap[w1.drew.heap.size]? =zL.heap[w1.drew.heap.size]?/\
 Sw nA w1.drew.heap.size #[pk,oH,Dd] λpG=>
 ae 145 #[.agg #[pk,oH,Dd],.agg A] pG.drew (jl λrA rq kS qo=>Aa pG.drew qo (
 qo.heap[w1.drew.heap.size]? =pG.drew.heap[w1.drew.heap.size]?/\
 ah qo (aD w1.drew.heap.size) 0 [pk,oH,Dd]/\Sw qo w0 #[pk,oH,Dd,rA,rq,kS] λJi=>
 R (qY #[pk,oH,Dd,rA,rq,kS]) Ji)))))))))) (K2 w w0)) #[(65536:Int),(65536:Int),(65536:Int)] #[ai,ai,ai] (fP w 2)):ae 121 #[.agg #[aE,au,aB]] w R:=
 cq bG func121 h
def vw.vc{a0:Addr}{c0:Addr}(h:
 ij w.drew (af (some a0) 0) λx0 x1 x2 x3 x4 x5 x6 x7 b8=>
 DM w.drew (some c0) λx9 bE bK bW cR cB=>
 ae 48 #[.agg #[x0,x1,x2,x3,x4,x5,x6,x7,b8]] w.drew (aln λdu dH dc db dN eO ee=>ah ee (some c0) 0 [x9,bE,bK,bW,cR,cB]/\ae 124 #[.agg #[du,dH,dc,db,dN,eO],.agg #[x9,bE,bK,bW,cR,cB]] ee (EK λb23 dm=>R b23 dm))):ae 123 #[a0,c0] w R:=
 cq bG func123 h
def qZ.vc{a0:Sl}{a1:Value}(h:
 ae 175 #[a0,a1] w (kX λx1 w0=>R (uD (decide (x1>=0))) w0)):ae 122 #[a0,a1] w R:=
 cq bG func122 h
def yn.vc{a0:Addr}(h:
 Aw w #[aH,aG,aM] 41 λw0=>
 ae 121 #[.agg #[aH,aG,aM]] w0 (yj λx2 x3 x4 x5 x6 x7 w1=>Kp w w0 w1/\
 Aw w1 #[ai,ai,ai,ai,ai,ai] 107 λw8=>
 Sw w8 w1 #[x2,x3,x4,x5,x6,x7] λw9=>
 ae 122 #[.slice (aI (af (some a0) 1) (0) (16) 1) (16-0) (16-0),.func (.func 123) #[] #[.pointer (aD w1)]] w9 (Rb λb11 bo=>Kp w w9 bo/\
 R b11 bo))):ae 66 #[a0,.agg #[aH,aG,aM]] w R:=
 cq bG func66 h
def yz.vc{a0:Addr}(h:(λ(A:Array Value)(B:LV)(C:Array Value) D E G=>
 Aw w C 28 λw0=>(λAa=>
 Aw w0 A 77 λw1=>
 ae 50 #[a0,a1] w1 (AG λp3 w2=>Aa w1 w2 (
 Br (p3).isNone
 (Sw w2 w0 A λw4=>
 R (dS #[.agg A,(6:Int)]) w4)
 (aT (fq p3) (aT (fq p3) (ij w2.drew (af p3 0) λx5 x6 x7 x8 x9 bE bK bW Oi=>(λ(Ab:Array Value)(Ac:LV)=>
 (ae 47 #[a0] w2.drew (Rv λv15 bH=>Aa w2.drew bH (
 ah bH w 0 B/\ah bH (af p3 0) 0 Ac/\(ae 88 Ab bH (jl λdH dc db cD=>(λ(Ad:Array Value)=>Aa bH cD (
 ah cD w 0 B/\(ae 87 Ad cD (Ch λeO fN fC gW eZ jN Ka fx=>(λ(Ae:Array Value)=>Aa cD fx (
 Aw fx A 77 λiY=>
 Sw iY fx Ae λeG=>
 Br (!Ka)
 (Sw eG w0 A λgR=>
 R (dS #[.agg A,D]) gR)
 (Br (gW==(-1))
 (Sw eG w0 A λgS=>
 R (dS #[.agg A,E]) gS)
 (Sw eG w0 Ae λqT=>
 R (dS #[.agg Ae,G]) qT)))) #[eO,fN,fC,gW,eZ,jN]))/\(Aw cD A 77 λfL=>
 ae 87 Ad fL (Ch λoV oW lh km qv pF b41 lq=>(λ(Af:Array Value)=>K3 w w0 cD fL lq (
 Sw lq cD Af λlf=>
 Br (!b41)
 (Sw lf w0 A λjW=>
 R (dS #[.agg A,D]) jW)
 (Br (km==(-1))
 (Sw lf w0 A λme=>
 R (dS #[.agg A,E]) me)
 (Sw lf w0 Af λzL=>
 R (dS #[.agg Af,G]) zL)))) #[oV,oW,lh,km,qv,pF])))) #[v15,.agg #[dH,dc,db],.agg C,(5:Int)]))/\(Aw bH A 77 λsI=>
 ae 88 Ab sI (jl λDd Ot sS nA=>K3 w w0 bH sI nA (
 ah nA w 0 B/\ae 87 #[v15,.agg #[Dd,Ot,sS],.agg C,(5:Int)] nA (Ch λrq kS qV oG xV rJ b58 uL=>(λ(Ag:Array Value)=>K3 w w0 bH nA uL (
 Sw uL bH Ag λqE=>
 Br (!b58)
 (Sw qE w0 A λoU=>
 R (dS #[.agg A,D]) oU)
 (Br (oG==(-1))
 (Sw qE w0 A λrI=>
 R (dS #[.agg A,E]) rI)
 (Sw qE w0 Ag λjX=>
 R (dS #[.agg Ag,G]) jX)))) #[rq,kS,qV,oG,xV,rJ])))))))/\(Aw w2.drew A 77 λKb=>
 ae 47 #[a0] Kb (Rv λv65 uV=>Aa Kb uV (
 uV.heap[w2.drew.heap.size]? =Kb.heap[w2.drew.heap.size]?/\
 ah uV w 0 B/\ah uV (af p3 0) 0 Ac/\ae 88 Ab uV (jl λoT qp wN sQ=>Aa uV sQ (
 sQ.heap[w2.drew.heap.size]? =uV.heap[w2.drew.heap.size]?/\
 ah sQ w 0 B/\ae 87 #[v65,.agg #[oT,qp,wN],.agg C,(5:Int)] sQ (Ch λuM wM uW BY Fk II b77 qD=>(λ(Ah:Array Value)=>Aa sQ qD (
 qD.heap[w2.drew.heap.size]? =sQ.heap[w2.drew.heap.size]?/\
 Sw qD w2.drew.heap.size Ah λrD=>
 Br (!b77)
 (Sw rD w0 A λKi=>
 R (dS #[.agg A,D]) Ki)
 (Br (BY==(-1))
 (Sw rD w0 A λxX=>
 R (dS #[.agg A,E]) xX)
 (Sw rD w0 Ah λxq=>
 R (dS #[.agg Ah,G]) xq)))) #[uM,wM,uW,BY,Fk,II]))))))) #[.agg #[x5,x6,x7,x8,x9,bE,bK,bW,Oi]] [x5,x6,x7,x8,x9,bE,bK,bW,Oi])))))) (K2 w w0)) #[ai,ai,ai,ai,ai,ai] [dq,ef,dj] #[dq,ef,dj] (13:Int) (11:Int) (0:Int)):ae 32 #[a0,a1,.agg #[dq,ef,dj]] w R:=
 cq bG func32 h
def yA.vc{a0:Addr}(h:(λA B=>
 Aw w A 41 λw0=>
 ae 103 #[a2] w0 (Rb λb2 w1=>Kp w w0 w1/\
 Br b2
 (ae 66 #[a0,.agg A] w1 (Rb λb4 w3=>Kp w w1 w3/\
 Br b4
 (R (12:Int) w3)
 (gZ w3.drew B λp5=>
 ae 113 #[p5,.agg A,a2] w3.drew (Ri λx7 w6=>Kp w w3.drew w6/\
 R x7 w6))))
 (gZ w1.drew B λp8=>
 ae 113 #[p8,.agg A,a2] w1.drew (Ri λbE w9=>Kp w w1.drew w9/\
 R bE w9)))) #[aH,aG,aM] (af (some a0) 0)):ae 59 #[a0,.agg #[aH,aG,aM],a2] w R:=
 cq bG func59 h
def wT.vc{a0:Addr}(h:
 Aw w #[dq,ef,dj] 28 λw0=>
 ae 32 #[a0,a1,.agg #[dq,ef,dj]] w0 (Yd λx2 x3 x4 x5 x6 x7 x8 w1=>Kp w w0 w1/\
 Aw w1 #[ai,ai,ai,ai,ai,ai] 77 λw9=>
 Sw w9 w1 #[x2,x3,x4,x5,x6,x7] λbo=>
 Br (x8==6)
 (R x8 bo)
 (ae 108 #[a3] bo (Rb λb12 bw=>K2 w w1 bo bw (
 Br (!b12)
 (R (1:Int) bw)
 (Br (a3==0)
 (R (1:Int) bw)
 (Br (x8 !=0)
 (R x8 bw)
 (ae 109 #[.agg #[x2,x3,x4,x5,x6,x7]] bw (Rx9 λcB cW du b17 bP=>K2 w w1 bw bP (
 Aw bP #[ai,ai,ai] 41 λdI=>
 Sw dI bP #[cB,cW,du] λfK=>
 Br (!b17)
 (R (12:Int) fK)
 (ae 59 #[a0,.agg #[cB,cW,du],a3] fK (Ri λeO fx=>K3 w w1 bP fK fx (
 R eO fx))))))))))))):ae 55 #[a0,a1,.agg #[dq,ef,dj],a3] w R:=
 cq bG func55 h
def wU.vc{a0:Addr}(h:
 Aw w #[dq,ef,dj] 28 λw0=>
 ae 32 #[a0,a1,.agg #[dq,ef,dj]] w0 (Yd λx2 x3 x4 x5 x6 x7 x8 w1=>Kp w w0 w1/\
 Aw w1 #[ai,ai,ai,ai,ai,ai] 77 λw9=>
 Sw w9 w1 #[x2,x3,x4,x5,x6,x7] λbo=>
 Br (x8==0)
 (ae 59 #[a0,.agg #[x2,x3,x4],(0:Int)] bo (Ri λbW bw=>K2 w w1 bo bw (
 Br (bW !=0)
 (R (dS #[ai,bW]) bw)
 (R (dS #[x5,ai]) bw))))
 (Br (x8 !=0)
 (R (dS #[ai,x8]) bo)
 (R (dS #[x5,ai]) bo)))):ae 33 #[a0,a1,.agg #[dq,ef,dj]] w R:=
 cq bG func33 h
def yB.vc{a0:Addr}{dj:Bool}(h:
 Aw w #[dq,ef,dj] 109 λw0=>
 ae 50 #[a0,a1] w0 (AG λp2 w1=>(λAa=>Kp w w0 w1/\
 Br (p2).isNone
 (R (6:Int) w1)
 (aT (fq p2) (aT (fq p2) (((Aa).isSome=true/\Wr w1 Aa 3)/\bk Aa≠some w.heap.size/\(Pw w1 Aa [dq,ef,dj] λw3=>
 R (0:Int) w3))))) (af p2 9))):ae 54 #[a0,a1,.agg #[dq,ef,dj]] w R:=
 cq bG func54 h
def yy.vc{a0:Addr}(h:(λA=>
 ∃(p0 p1 p2 p3 p4 p5 p6 p7 p8 p9 L4 To Dn SU p14 Ow:Option Addr),ah w (af (some a0) 1) 0 [.pointer p0,p1,p2,p3,p4,p5,p6,p7,p8,p9,L4,To,Dn,SU,p14,Ow]/\
 oz (λI16 N3=>I16 N3 (0) ⟨none,0,0⟩ w) λI16 N3 azf db xZ dU=>(λAa=>
 Br (db<16)
 (((0:Int)<=db/\db<((16:Nat):Int))/\∃(V5:Option Addr),([.pointer p0,p1,p2,p3,p4,p5,p6,p7,p8,p9,L4,To,Dn,SU,p14,Ow]:LV)[(db:Int).toNat*1]? =some (.pointer V5)/\
 Br (!(V5).isNone)
 (aT (fq V5) (aT (fq V5) (ij dU (af V5 0) λgW eZ jN jm nv jk nu lp b32=>
 ae 45 #[a0,.agg #[gW,eZ,jN,jm,nv,jk,nu,lp,b32]] dU (EK λb34 fL=>Br b34
 (Aw fL #[V5] 53 λgT=>
 ba 8 1 gT xZ 1 [.pointer V5]/\∀(s36:Sl)(iR:World),aX 53 1 gT xZ 1 [.pointer V5] s36 iR->Kp fL gT iR/\
 ∃SW,SW<N3/\I16 SW Aa s36 iR)
 (∃SW,SW<N3/\I16 SW Aa xZ fL)))))
 (∃SW,SW<N3/\I16 SW Aa xZ dU))
 (oz (λI38 n39=>I38 n39 (0) ⟨none,0,0⟩ dU) λI38 n39 aG4 om s42 jW=>
 Br (decide (om<((xZ.n:Nat):Int)))
 (eL xZ.a om xZ.n/\gZ jW (af xZ.a ((om:Int).toNat*1)) λp45=>
 aT (fq p45) (aT (fq p45) (ij jW.drew (af p45 0) λoH xl Dd Ot sS rA rq kS b54=>
 aT (fq p45) (aT (fq p45) (∃(oG xV:Int)(b57:Bool),ah jW.drew (af p45 9) 0 [oG,xV,b57]/\
 ae 47 #[a0] jW.drew (ahl λv59 Er=>ah Er (af p45 9) 0 [oG,xV,b57]/\ah Er (af p45 0) 0 [oH,xl,Dd,Ot,sS,rA,rq,kS,b54]/\ae 116 #[.agg #[oH,xl,Dd,Ot,sS,rA,rq,kS,b54],v59,.agg #[oG,xV,b57]] Er (acI λzI ox uQ BN sR oI oT qp b69 oU=>(λAb=>Aw oU #[zI,ox,uQ,BN,sR,oI,oT,qp,b69] 70 λqD=>
 ba 72 9 qD s42 1 Ab/\∀(s71:Sl)(w72:World),aX 70 9 qD s42 1 Ab s71 w72->Kp oU qD w72/\
 ∃n44,n44<n39/\I38 n44 ((aw (om+1))) s71 w72) [zI,ox,uQ,BN,sR,oI,oT,qp,b69])))))))
 (ae 47 #[a0] jW (ahl λv74 IN=>ae 117 #[v74,s42] IN (ua λs76 rC=>sN (λI77 n78=>I77 n78 (0) rC) λI77 n78 azk FX xq=>
 Br (decide (FX<((s76.n:Nat):Int)))
 (eL s76.a FX s76.n/\ij xq (af s76.a ((FX:Int).toNat*9)) λFl Ke Kf x86 vX x88 x89 x90 b91=>
 Aw xq #[ai,ai,ai,ai,ai,ai,ai,ai,false] 70 λKg=>
 Sw Kg xq #[Fl,Ke,Kf,x86,vX,x88,x89,x90,b91] λL3=>
 eL xZ.a FX xZ.n/\gZ L3.drew (af xZ.a ((FX:Int).toNat*1)) λp94=>(λAc=>
 aT (fq p94) (aT (fq p94) (((Ac).isSome=true/\Wr L3.drew Ac 9)/\bk Ac≠some xq.heap.size/\(Pw L3.drew Ac [Fl,Ke,Kf,x86,vX,x88,x89,x90,b91] λw95=>
 ∃n82,n82<n78/\I77 n82 ((aw (FX+1))) w95)))) (af p94 0))
 (gZ xq A λp96=>
 ae 118 #[p96,.func (.func 66) #[a0] #[]] xq (Rt λw97=>gZ w97 A λp98=>
 ae 119 #[p98] w97 (kX λBO Jh=>R BO Jh)))))))) ((aw (db+1)))) (af (some a0) 0)):ae 64 #[a0] w R:=
 cq ⟨[(15,⟨[(59,.int .i64)],[],[]⟩),(10,⟨[(35,.int .i64),(4,.slice)],[],[]⟩),(4,⟨[(15,.int .i64),(3,.slice)],[],[]⟩)],[],[]⟩ func64 h
end Go.Proofs.YtkkkfkopcfdmaaaGreatDoor
