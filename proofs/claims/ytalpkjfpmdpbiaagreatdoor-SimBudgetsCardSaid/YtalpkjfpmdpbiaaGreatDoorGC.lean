import Derived.Test.YtalpkjfpmdpbiaaGreatDoorGB
set_option linter.all false
namespace Go.Proofs.YtalpkjfpmdpbiaaGreatDoor
open Go Go.Vc Go.RowKit Go.Proofs
set_option maxRecDepth 100000
set_option maxHeartbeats 8000000
set_option linter.unusedVariables false
variable {R:Ending->World->Prop} {w:World} {a0 a1 a2 a3 a4 a5 a6 a7 a8 a9 aq ar au aI aJ aK aL aH bM eB ao aj aw dO ic jg jh ji gq gY dj dZ dU lg lO nm xO xP xQ xR xS xU xV xW xX xY xZ ya yb yc:Int}
def Hv.vc{a2:Sl}(h:
 Aw w #[af,af,af,af,af,.slice none 0 0,.slice none 0 0,.slice none 0 0,.slice none 0 0,af,af,.slice none 0 0,af,af,.slice none 0 0,.slice none 0 0] 39 λw0=>
 ah 35 #[a0,(5:Int),af] w0 (λe w1=>∃(p2:Option Addr),e=p2/\Kp w w0 w1/\
 ah 36 #[a0,(5:Int),af] w1 (λe w3=>∃(x4 x5 x6 x7 x8:Int)(s9 cL eJ eH:Sl),e=Value.agg #[x4,x5,x6,x7,x8,s9,cL,eJ,eH]/\Kp w w1 w3/\
 Aw w3 #[af,af,af,af,af,.slice none 0 0,.slice none 0 0,.slice none 0 0,.slice none 0 0] 33 λcA=>
 Sw cA w3 #[x4,x5,x6,x7,x8,s9,cL,eJ,eH] λcm=>
 Br (p2).isNone
 (Sw cm w #[af,af,af,af,af,.slice none 0 0,.slice none 0 0,.slice none 0 0,.slice none 0 0,af,af,.slice none 0 0,af,af,.slice none 0 0,.slice none 0 0] λcS=>
 R (Value.tuple #[.pointer none,.agg #[af,af,af,af,af,.slice none 0 0,.slice none 0 0,.slice none 0 0,.slice none 0 0,af,af,.slice none 0 0,af,af,.slice none 0 0,.slice none 0 0]]) cS)
 (ah 37 #[p2] cm (λe dy=>∃(X1:Option Addr),e=X1/\K2 w w3 cm dy (
 Br (X1).isNone
 (Sw dy w #[af,af,af,af,af,.slice none 0 0,.slice none 0 0,.slice none 0 0,.slice none 0 0,af,af,.slice none 0 0,af,af,.slice none 0 0,.slice none 0 0] λdJ=>
 R (Value.tuple #[.pointer none,.agg #[af,af,af,af,af,.slice none 0 0,.slice none 0 0,.slice none 0 0,.slice none 0 0,af,af,.slice none 0 0,af,af,.slice none 0 0,.slice none 0 0]]) dJ)
 (Aw dy #[af,af,(-1:Int),af,(1:Int),af,af,(-1:Int),af,(1:Int)] 89 λfD=>
 ∃MU:Nat->Int->Int->Int->Int->Int->Int->Sl->Sl->Sl->Sl->World->Prop,
 (∃A2,aP [af,af,af,af,af,.slice none 0 0,.slice none 0 0,.slice none 0 0,.slice none 0 0,af,af,.slice none 0 0,af,af,.slice none 0 0,.slice none 0 0]/\aP [af,af,(-1:Int),af,(1:Int),af,af,(-1:Int),af,(1:Int)]/\MU A2 (0) x4 x5 x6 x7 x8 s9 cL eJ eH fD)/\
 ∀(A2:Nat)(adw:Nat->Value)(de di cW dV dc eM:Int)(mc gP g9 iR:Sl)(lz:World),MU A2 de di cW dV dc eM mc gP g9 iR lz->
 Br (de<5)
 (cB (bu dy) de 5/\∃(jy kx:Int),av lz (ae (bu dy) ((de:Int).toNat*2)) 0 [jy,kx]/\
 ah 38 #[X1,.agg #[jy,kx]] lz (Ri λja jj=>K3 w w3 dy lz jj (
 cB (bu dy) de 5/\∃(kq nz:Int),av jj.drew (ae (bu dy) ((de:Int).toNat*2)) 0 [kq,nz]/\
 (ah 39 #[.agg #[di,cW,dV,dc,eM,mc,gP,g9],.agg #[kq,nz]] jj.drew (λe j7=>∃(lU ky jF lj oY:Int)(uj FA yF:Sl)(B9:Int),e=Value.tuple #[.agg #[lU,ky,jF,lj,oY,uj,FA,yF],B9]/\K3 w w3 dy jj.drew j7 (
 Aw j7 #[af,af,af,af,af,.slice none 0 0,.slice none 0 0,.slice none 0 0] 30 λw51=>
 Sw w51 j7 #[lU,ky,jF,lj,oY,uj,FA,yF] λJr=>
 Sw Jr w3 #[lU,ky,jF,lj,oY,uj,FA,yF,iR] λYa=>
 ∃n34,n34<A2/\aP [af,af,af,af,af,.slice none 0 0,.slice none 0 0,.slice none 0 0,.slice none 0 0,af,af,.slice none 0 0,af,af,.slice none 0 0,.slice none 0 0]/\aP [af,af,(-1:Int),af,(1:Int),af,af,(-1:Int),af,(1:Int)]/\MU n34 ((ai (de+1))) lU ky jF lj oY uj FA yF iR Ya)))/\(Aw jj.drew #[af,af,af,af,af,.slice none 0 0,.slice none 0 0,.slice none 0 0] 30 λye=>
 ah 39 #[.agg #[di,cW,dV,dc,eM,mc,gP,g9],.agg #[kq,nz]] ye (λe A5=>∃(Dp uC oP wQ A6:Int)(s61 PH U2:Sl)(E8:Int),e=Value.tuple #[.agg #[Dp,uC,oP,wQ,A6,s61,PH,U2],E8]/\K3 w w3 dy ye A5 (
 A5.heap[jj.drew.heap.size]? =ye.heap[jj.drew.heap.size]?/\
 Sw A5 jj.drew.heap.size #[Dp,uC,oP,wQ,A6,s61,PH,U2] λJp=>
 Sw Jp w3 #[Dp,uC,oP,wQ,A6,s61,PH,U2,iR] λsy=>
 ∃n34,n34<A2/\aP [af,af,af,af,af,.slice none 0 0,.slice none 0 0,.slice none 0 0,.slice none 0 0,af,af,.slice none 0 0,af,af,.slice none 0 0,.slice none 0 0]/\aP [af,af,(-1:Int),af,(1:Int),af,af,(-1:Int),af,(1:Int)]/\MU n34 ((ai (de+1))) Dp uC oP wQ A6 s61 PH U2 iR sy))))))
 (ah 40 #[p2,a1] lz (λe um=>∃(p68:Option Addr),e=p68/\K3 w w3 dy lz um (
 ah 41 #[.agg #[di,cW,dV,dc,eM,mc,gP,g9,iR],a1] um (λe lA=>∃(jB rX qy re qc:Int)(yl IQ Ds uE:Sl)(EZ oQ:Int)(W3:Sl)(q8 wR:Int)(W4 PU:Sl),e=Value.agg #[jB,rX,qy,re,qc,yl,IQ,Ds,uE,EZ,oQ,W3,q8,wR,W4,PU]/\K3 w w3 dy um lA (
 Aw lA #[af,af,af,af,af,.slice none 0 0,.slice none 0 0,.slice none 0 0,.slice none 0 0,af,af,.slice none 0 0,af,af,.slice none 0 0,.slice none 0 0] 39 λAZ=>
 Sw AZ lA #[jB,rX,qy,re,qc,yl,IQ,Ds,uE,EZ,oQ,W3,q8,wR,W4,PU] λpZ=>
 ∃J88:Int->Int->Int->Int->Int->Sl->Sl->Sl->Sl->Int->Int->Sl->Int->Int->Sl->Sl->World->Prop,
 (∃I89:Nat->Int->Int->Int->Int->Int->Int->Sl->Sl->Sl->Sl->Int->Int->Sl->Int->Int->Sl->Sl->World->Prop,
 (∃WE,aP [af,af,af,af,af,.slice none 0 0,.slice none 0 0,.slice none 0 0,.slice none 0 0,af,af,.slice none 0 0,af,af,.slice none 0 0,.slice none 0 0]/\aP [di,cW,dV,dc,eM,mc,gP,g9,iR]/\aP [af,af,(-1:Int),af,(1:Int),af,af,(-1:Int),af,(1:Int)]/\I89 WE (0) jB rX qy re qc yl IQ Ds uE EZ oQ W3 q8 wR W4 PU pZ)/\
 ∀(WE:Nat)(ahR:Nat->Value)(sC MY Jq Dq B5 vF:Int)(WS IP vJ Fg:Sl)(qJ nq:Int)(yp:Sl)(IS ym:Int)(P4 Fh:Sl)(yq:World),I89 WE sC MY Jq Dq B5 vF WS IP vJ Fg qJ nq yp IS ym P4 Fh yq->
 Br (decide (sC<((a2.n:Nat):Int)))
 (Br (sC<4)
 (cB a2.a sC a2.n/\∃(aeO mJ Fi:Int),av yq.drew (ae a2.a ((sC:Int).toNat*3)) 0 [aeO,mJ,Fi]/\
 ah 12 #[.agg #[aeO,mJ,Fi]] yq.drew (Je λlk qd vP Fb=>K4 w w3 dy lA yq.drew Fb (
 av Fb (pd lA 14) 0 [P4]/\Aw Fb #[lk,qd,vP] 23 λvN=>
 aF 24 3 vN P4 1 [lk,qd,vP]/\∀(vQ:Sl)(abm:World),aD 23 3 vN P4 1 [lk,qd,vP] vQ abm->K5 w w3 dy lA Fb vN abm (
 Sw abm lA #[MY,Jq,Dq,B5,vF,WS,IP,vJ,Fg,qJ,nq,yp,IS,ym,vQ,Fh] λUo=>
 ∃aeP,aeP<WE/\aP [af,af,af,af,af,.slice none 0 0,.slice none 0 0,.slice none 0 0,.slice none 0 0,af,af,.slice none 0 0,af,af,.slice none 0 0,.slice none 0 0]/\aP [di,cW,dV,dc,eM,mc,gP,g9,iR]/\aP [af,af,(-1:Int),af,(1:Int),af,af,(-1:Int),af,(1:Int)]/\I89 aeP ((ai (sC+1))) MY Jq Dq B5 vF WS IP vJ Fg qJ nq yp IS ym vQ Fh Uo))))
 (aP [af,af,af,af,af,.slice none 0 0,.slice none 0 0,.slice none 0 0,.slice none 0 0,af,af,.slice none 0 0,af,af,.slice none 0 0,.slice none 0 0]/\aP [di,cW,dV,dc,eM,mc,gP,g9,iR]/\aP [af,af,(-1:Int),af,(1:Int),af,af,(-1:Int),af,(1:Int)]/\J88 MY Jq Dq B5 vF WS IP vJ Fg qJ nq yp IS ym P4 Fh yq))
 (aP [af,af,af,af,af,.slice none 0 0,.slice none 0 0,.slice none 0 0,.slice none 0 0,af,af,.slice none 0 0,af,af,.slice none 0 0,.slice none 0 0]/\aP [di,cW,dV,dc,eM,mc,gP,g9,iR]/\aP [af,af,(-1:Int),af,(1:Int),af,af,(-1:Int),af,(1:Int)]/\J88 MY Jq Dq B5 vF WS IP vJ Fg qJ nq yp IS ym P4 Fh yq))/\
 ∀am2:Nat->Value,∀(yj qK ln IT IU:Int)(Fj Up Uq vR:Sl)(ou oZ:Int)(yk:Sl)(ux Cd:Int)(sh sk:Sl)(Cm:World),J88 yj qK ln IT IU Fj Up Uq vR ou oZ yk ux Cd sh sk Cm->
 Br (!(p68).isNone)
 (Aw Cm #[.slice none 0 0] 37 λaep=>
 Sw aep Cm #[sh] λBa=>
 ah 17 #[p68,.func (.func 42) #[] #[Cm]] Ba (Rt λUi=>K4 w w3 dy lA Ba Ui (
 Sw Ui.drew w #[yj,qK,ln,IT,IU,Fj,Up,Uq,vR,ou,oZ,yk,ux,Cd,sh,sk] λLL=>
 R (Value.tuple #[p68,.agg #[yj,qK,ln,IT,IU,Fj,Up,Uq,vR,ou,oZ,yk,ux,Cd,sh,sk]]) LL)))
 (Sw Cm.drew w #[yj,qK,ln,IT,IU,Fj,Up,Uq,vR,ou,oZ,yk,ux,Cd,sh,sk] λakf=>
 R (Value.tuple #[p68,.agg #[yj,qK,ln,IT,IU,Fj,Up,Uq,vR,ou,oZ,yk,ux,Cd,sh,sk]]) akf))))))))))))):ah 9 #[a0,a1,a2] w R:=
 cq ⟨[(18,⟨[(17,.int .i64)],[(3,[.int .i64,.int .i64,.int .i64,.int .i64,.int .i64,.slice,.slice,.slice,.slice,.int .i64,.int .i64,.slice,.int .i64,.int .i64,.slice,.slice])],[]⟩),(10,⟨[(12,.int .i64)],[(1,[.int .i64,.int .i64,.int .i64,.int .i64,.int .i64,.slice,.slice,.slice,.slice])],[]⟩)],[(21,⟨[],[(3,[.int .i64,.int .i64,.int .i64,.int .i64,.int .i64,.slice,.slice,.slice,.slice,.int .i64,.int .i64,.slice,.int .i64,.int .i64,.slice,.slice])],[]⟩)],[]⟩ Tryz.func9 h
def Ie.vc(h:
 ah 9 #[(1:Int),(1:Int),.slice none 0 0] w (λe w0=>∃(p1:Option Addr)(x2 x3 x4 x5 x6:Int)(s7 s8 s9 cL:Sl)(bV bT:Int)(gf:Sl)(cl bA:Int)(kz gZ:Sl),e=Value.tuple #[p1,.agg #[x2,x3,x4,x5,x6,s7,s8,s9,cL,bV,bT,gf,cl,bA,kz,gZ]]/\
 Aw w0 #[af,af,af,af,af,.slice none 0 0,.slice none 0 0,.slice none 0 0,.slice none 0 0,af,af,.slice none 0 0,af,af,.slice none 0 0,.slice none 0 0] 39 λdJ=>
 Sw dJ w0 #[x2,x3,x4,x5,x6,s7,s8,s9,cL,bV,bT,gf,cl,bA,kz,gZ] λfD=>
 Br (p1).isNone
 (R false fD)
 (ah 14 #[p1,.agg #[(5:Int),(20:Int),(5:Int)],(3:Int)] fD (Ri λfW eC=>Kp w0 fD eC/\
 ah 14 #[p1,.agg #[(7:Int),(20:Int),(5:Int)],(3:Int)] eC (Ri λde cx=>Kp w0 eC cx/\
 ah 15 #[p1] cx (Ri λcW fu=>Kp w0 cx fu/\
 ah 15 #[p1] fu (Ri λdc g7=>Kp w0 fu g7/\
 Br (dc==1)
 (ah 15 #[p1] g7 (Ri λiL eI=>Kp w0 g7 eI/\
 R (Value.bool (iL==1)) eI))
 (R false g7)))))))):ah 13 #[] w R:=
 cq cf Tryz.func13 h
end Go.Proofs.YtalpkjfpmdpbiaaGreatDoor
