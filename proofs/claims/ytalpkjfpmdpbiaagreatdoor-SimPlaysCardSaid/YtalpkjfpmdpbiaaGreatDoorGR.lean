import Derived.Test.YtalpkjfpmdpbiaaGreatDoorGS
set_option linter.all false
namespace Go.Proofs.YtalpkjfpmdpbiaaGreatDoor
open Go Go.Vc Go.RowKit Go.Proofs
set_option maxRecDepth 100000
set_option maxHeartbeats 8000000
set_option linter.unusedVariables false
variable {R:Ending->World->Prop} {w:World} {a0 a1 a2 a3 a4 a5 a6 a7 a8 a9 aq ar av aI aJ aK aL aH bO eE ao ak aw dB gn gB gC gD fM gE db dR dO ln lO nv ym yn yp yq yt yu yw yx yy yz yA yB yC yD:Int}
def Si.vc{aK:Sl}{aL:Sl}{aH:Sl}(h:
 Aw w #[aq,ar,av,aI,aJ,aK,aL,aH] 30 λw0=>
 Aw w0 #[ao,ak,aw] 23 λw1=>
 ah 50 #[.agg #[ao,ak,aw]] w1.drew (X7 λx3 x4 w2=>K2 w w0 w1.drew w2 (
 au w2 w 0 [aq,ar,av,aI,aJ,aK,aL,aH]/\ah 49 #[.agg #[aq,ar,av,aI,aJ,aK,aL,aH],.agg #[x3,x4]] w2 (Ri λx6 w5=>K2 w w0 w2 w5 (
 Br (x6<0)
 (R (Value.int .i64 (-1)) w5)
 (Br (ak<0)
 (R (1:Int) w5)
 (Br (ak>31)
 (R (0:Int) w5)
 (cA aH.a x6 aH.n/\bk (eV (ae aH.a ((x6:Int).toNat*5))) (∃(x7 x8:Int)(s9:Sl),au w5.drew (ae (ae aH.a ((x6:Int).toNat*5)) 0) 0 [x7,x8,s9]/\
 ah 51 #[.agg #[x7,x8,s9],.agg #[ao,ak,aw]] w5.drew (Ri λbR bL=>K2 w w0 w5.drew bL (
 au bL (lX w 7) 0 [aH]/\R bR bL))))))))))):ah 22 #[.agg #[aq,ar,av,aI,aJ,aK,aL,aH],.agg #[ao,ak,aw]] w R:=
 cq cc Tryz.func22 h
def OR.vc(h:
 Aw w #[af,af,af,af,af,.slice none 0 0,.slice none 0 0,.slice none 0 0] 30 λw0=>
 ah 112 #[a2] w0 (λe w1=>∃(x2 x3 x4:Int)(s5 s6:Sl),e=Value.agg #[x2,x3,x4,s5,s6]/\Kp w w0 w1/\
 Sw w1 w #[a0,.int .i64 (if 16<(if 1>a1 then 1 else a1) then 16 else (if 1>a1 then 1 else a1)),x2,x3,x4,s5,s6,.slice none 0 0] λw7=>
 R (Value.agg #[a0,.int .i64 (if 16<(if 1>a1 then 1 else a1) then 16 else (if 1>a1 then 1 else a1)),x2,x3,x4,s5,s6,.slice none 0 0]) w7)):ah 68 #[a0,a1,a2] w R:=
 cq cc Tryz.func68 h
def Aj.vc{aK:Sl}{aL:Sl}{aH:Sl}(h:
 Aw w #[aq,ar,av,aI,aJ,aK,aL,aH] 30 λw0=>
 Aw w0 #[ao,ak] 89 λw1=>
 Aw w1 #[af,af,af,af,af,.slice none 0 0,.slice none 0 0,.slice none 0 0] 30 λw2=>
 ah 76 #[.agg #[ao,ak]] w2 (Ri λx4 w3=>K3 w w0 w1 w2 w3 (
 Br (x4==0)
 (Sw w3 w1 #[aq,ar,av,aI,aJ,aK,aL,aH] λw5=>
 R (Value.tuple #[.agg #[aq,ar,av,aI,aJ,aK,aL,aH],(5:Int)]) w5)
 (ah 49 #[.agg #[aq,ar,av,aI,aJ,aK,aL,aH],.agg #[ao,ak]] w3 (Ri λx7 w6=>K3 w w0 w1 w3 w6 (
 Br (x7>=0)
 (cA aH.a x7 aH.n/\∃(x8 x9:Int)(cO:Sl)(F7:Bool)(bU:Int),au w6 (ae aH.a ((x7:Int).toNat*5)) 0 [x8,x9,cO,F7,bU]/\
 Aw w6 #[af,af,.slice none 0 0,false,af] 110 λcC=>
 Sw cC w6 #[x8,x9,cO,F7,bU] λbY=>
 ah 78 #[.agg #[aq,ar,av,aI,aJ,aK,aL,aH],x7] bY.drew (λe cU=>∃(cQ cR cf cK du:Int)(jk wo Cx:Sl),e=Value.agg #[cQ,cR,cf,cK,du,jk,wo,Cx]/\K4 w w0 w1 w6 bY.drew cU (
 au cU (bu w6) 0 [x8,x9,cO,F7,bU]/\ah 77 #[.agg #[cQ,cR,cf,cK,du,jk,wo,Cx],.agg #[x8,x9,cO,F7,bU]] cU (λe fy=>∃(da dZ dp eS iO:Int)(g7 ib iW:Sl),e=Value.agg #[da,dZ,dp,eS,iO,g7,ib,iW]/\K4 w w0 w1 w6 cU fy (
 Sw fy w1 #[da,dZ,dp,eS,iO,g7,ib,iW] λlz=>
 R (Value.tuple #[.agg #[da,dZ,dp,eS,iO,g7,ib,iW],(0:Int)]) lz)))))
 (Br (decide ((((aH.n:Nat):Int):Int)>=ar))
 (∃I34:Nat->Int->Int->World->Prop,
 (∃Ue,aP [aq,ar,av,aI,aJ,aK,aL,aH]/\aP [ao,ak]/\aP [af,af,af,af,af,.slice none 0 0,.slice none 0 0,.slice none 0 0]/\I34 Ue ((ai (((aH.n:Nat):Int)-1))) ((-1)) w6)/\
 ∀(Ue:Nat)(apz:Nat->Value)(gk je:Int)(iU:World),I34 Ue gk je iU->
 Br (gk>=0)
 (cA aH.a gk aH.n/\bk (eV (ae aH.a ((gk:Int).toNat*5))) (∃(jC:Int),ld iU (ae (ae aH.a ((gk:Int).toNat*5)) 4)=some (.int .i64 jC)/\
 Br (jC==0)
 (∃n40,n40<Ue/\aP [aq,ar,av,aI,aJ,aK,aL,aH]/\aP [ao,ak]/\aP [af,af,af,af,af,.slice none 0 0,.slice none 0 0,.slice none 0 0]/\I34 n40 ((ai (gk-1))) gk iU)
 (∃n40,n40<Ue/\aP [aq,ar,av,aI,aJ,aK,aL,aH]/\aP [ao,ak]/\aP [af,af,af,af,af,.slice none 0 0,.slice none 0 0,.slice none 0 0]/\I34 n40 ((ai (gk-1))) je iU)))
 (Br (je<0)
 (Sw iU w1 #[aq,ar,av,aI,aJ,aK,aL,aH] λny=>
 R (Value.tuple #[.agg #[aq,ar,av,aI,aJ,aK,aL,aH],(8:Int)]) ny)
 (ah 79 #[.agg #[aq,ar,av,aI,aJ,aK,aL,aH],je] iU (λe ql=>∃(jI lp pj mc sH:Int)(yX NN Gf:Sl)(uS:Int),e=Value.tuple #[.agg #[jI,lp,pj,mc,sH,yX,NN,Gf],uS]/\K3 w w0 w1 iU ql (
 Aw ql #[af,af,af,af,af,.slice none 0 0,.slice none 0 0,.slice none 0 0] 30 λXs=>
 Sw Xs ql #[jI,lp,pj,mc,sH,yX,NN,Gf] λwh=>
 Br (uS !=0)
 (Sw wh w1 #[jI,lp,pj,mc,sH,yX,NN,Gf] λza=>
 R (Value.tuple #[.agg #[jI,lp,pj,mc,sH,yX,NN,Gf],uS]) za)
 (ah 78 #[.agg #[jI,lp,pj,mc,sH,yX,NN,Gf],je] wh (λe NO=>∃(vb oW xy Bu pn:Int)(Qm VG FD:Sl),e=Value.agg #[vb,oW,xy,Bu,pn,Qm,VG,FD]/\K4 w w0 w1 ql wh NO (
 Sw NO w #[vb,oW,xy,Bu,pn,Qm,VG,FD] λFE=>
 ah 80 #[.agg #[xy,Bu,pn,Qm,VG],x4] FE (λe sI=>∃(Fv:Sl)(zb:Int)(b69:Bool),e=Value.tuple #[Fv,zb,b69]/\K4 w w0 w1 ql FE sI (
 ah 81 #[.agg #[ao,ak],Fv] sI (λe wB=>∃(sK qQ:Int)(Mn:Sl)(qm:Int),e=Value.tuple #[.agg #[sK,qQ,Mn],qm]/\K4 w w0 w1 ql sI wB (
 Aw wB #[af,af,.slice none 0 0] 108 λJX=>
 Sw JX wB #[sK,qQ,Mn] λBV=>
 Br (qm !=0)
 (ah 82 #[vb,.agg #[ao,ak]] BV (λe w77=>∃(x78 Fy:Int)(Bv:Sl),e=Value.agg #[x78,Fy,Bv]/\K5 w w0 w1 ql wB BV w77 (
 Sw w77 wB #[x78,Fy,Bv] λxA=>
 ah 77 #[.agg #[vb,oW,xy,Bu,pn,Qm,VG,FD],.agg #[x78,Fy,Bv,false,af]] xA (λe w82=>∃(xz NH NI x86 wC:Int)(s88 s89 s90:Sl),e=Value.agg #[xz,NH,NI,x86,wC,s88,s89,s90]/\K5 w w0 w1 ql wB xA w82 (
 Sw w82 w1 #[xz,NH,NI,x86,wC,s88,s89,s90] λUj=>
 R (Value.tuple #[.agg #[xz,NH,NI,x86,wC,s88,s89,s90],(0:Int)]) Uj)))))
 (ah 77 #[.agg #[vb,oW,xy,Bu,pn,Qm,VG,FD],.agg #[sK,qQ,Mn,false,af]] BV (λe xB=>∃(NP Jr Cy BT vd:Int)(Xt Gg uT:Sl),e=Value.agg #[NP,Jr,Cy,BT,vd,Xt,Gg,uT]/\K5 w w0 w1 ql wB BV xB (
 Sw xB w1 #[NP,Jr,Cy,BT,vd,Xt,Gg,uT] λCz=>
 R (Value.tuple #[.agg #[NP,Jr,Cy,BT,vd,Xt,Gg,uT],(0:Int)]) Cz)))))))))))))))
 (ah 80 #[.agg #[av,aI,aJ,aK,aL],x4] w6 (λe aa9=>∃(aeu:Sl)(sO:Int)(aja:Bool),e=Value.tuple #[aeu,sO,aja]/\K3 w w0 w1 w6 aa9 (
 ah 81 #[.agg #[ao,ak],aeu] aa9 (λe Mo=>∃(uU Qn:Int)(Js:Sl)(qY:Int),e=Value.tuple #[.agg #[uU,Qn,Js],qY]/\K3 w w0 w1 aa9 Mo (
 Aw Mo #[af,af,.slice none 0 0] 108 λMp=>
 Sw Mp Mo #[uU,Qn,Js] λXu=>
 Br (qY !=0)
 (ah 82 #[aq,.agg #[ao,ak]] Xu (λe Qo=>∃(qn qp:Int)(Qp:Sl),e=Value.agg #[qn,qp,Qp]/\K4 w w0 w1 Mo Xu Qo (
 Sw Qo Mo #[qn,qp,Qp] λaev=>
 ah 77 #[.agg #[aq,ar,av,aI,aJ,aK,aL,aH],.agg #[qn,qp,Qp,false,af]] aev (λe uV=>∃(nz CB Mq aba yH:Int)(Uk Bw abb:Sl),e=Value.agg #[nz,CB,Mq,aba,yH,Uk,Bw,abb]/\K4 w w0 w1 Mo aev uV (
 Sw uV w1 #[nz,CB,Mq,aba,yH,Uk,Bw,abb] λFG=>
 R (Value.tuple #[.agg #[nz,CB,Mq,aba,yH,Uk,Bw,abb],(0:Int)]) FG)))))
 (ah 77 #[.agg #[aq,ar,av,aI,aJ,aK,aL,aH],.agg #[uU,Qn,Js,false,af]] Xu (λe aew=>∃(Jt Ju FH sP qq:Int)(yI abc FI:Sl),e=Value.agg #[Jt,Ju,FH,sP,qq,yI,abc,FI]/\K4 w w0 w1 Mo Xu aew (
 Sw aew w1 #[Jt,Ju,FH,sP,qq,yI,abc,FI] λajb=>
 R (Value.tuple #[.agg #[Jt,Ju,FH,sP,qq,yI,abc,FI],(0:Int)]) ajb))))))))))))))):ah 39 #[.agg #[aq,ar,av,aI,aJ,aK,aL,aH],.agg #[ao,ak]] w R:=
 cq ⟨[(11,⟨[(10,.int .i64),(9,.int .i64)],[],[]⟩)],[],[]⟩ Tryz.func39 h
def EA.vc{aK:Sl}{aL:Sl}{aH:Sl}(h:
 Aw w #[aq,ar,av,aI,aJ,aK,aL,aH] 30 λw0=>
 Aw w0 #[ao,ak] 89 λw1=>
 Aw w1 #[af,af,af,af,af,.slice none 0 0,.slice none 0 0,.slice none 0 0] 30 λw2=>
 ah 49 #[.agg #[aq,ar,av,aI,aJ,aK,aL,aH],.agg #[ao,ak]] w2 (Ri λx4 w3=>K3 w w0 w1 w2 w3 (
 Br (x4<0)
 (Sw w3 w1 #[aq,ar,av,aI,aJ,aK,aL,aH] λw5=>
 R (Value.tuple #[.agg #[aq,ar,av,aI,aJ,aK,aL,aH],(6:Int)]) w5)
 (cA aH.a x4 aH.n/\bk (eV (ae aH.a ((x4:Int).toNat*5))) (∃(x6:Int),ld w3 (ae (ae aH.a ((x4:Int).toNat*5)) 4)=some (.int .i64 x6)/\
 Br (x6>0)
 (Sw w3 w1 #[aq,ar,av,aI,aJ,aK,aL,aH] λw7=>
 R (Value.tuple #[.agg #[aq,ar,av,aI,aJ,aK,aL,aH],(10:Int)]) w7)
 (ah 79 #[.agg #[aq,ar,av,aI,aJ,aK,aL,aH],x4] w3 (λe w8=>∃(x9 bq bR bU cz:Int)(sX ji kH:Sl)(cR:Int),e=Value.tuple #[.agg #[x9,bq,bR,bU,cz,sX,ji,kH],cR]/\K3 w w0 w1 w3 w8 (
 Aw w8 #[af,af,af,af,af,.slice none 0 0,.slice none 0 0,.slice none 0 0] 30 λdA=>
 Sw dA w8 #[x9,bq,bR,bU,cz,sX,ji,kH] λft=>
 Br (cR !=0)
 (Sw ft w1 #[x9,bq,bR,bU,cz,sX,ji,kH] λdY=>
 R (Value.tuple #[.agg #[x9,bq,bR,bU,cz,sX,ji,kH],cR]) dY)
 (ah 78 #[.agg #[x9,bq,bR,bU,cz,sX,ji,kH],x4] ft (λe ef=>∃(eK dc de da dZ:Int)(lW sY mf:Sl),e=Value.agg #[eK,dc,de,da,dZ,lW,sY,mf]/\K4 w w0 w1 w8 ft ef (
 Sw ef w1 #[eK,dc,de,da,dZ,lW,sY,mf] λia=>
 R (Value.tuple #[.agg #[eK,dc,de,da,dZ,lW,sY,mf],(0:Int)]) ia))))))))))):ah 64 #[.agg #[aq,ar,av,aI,aJ,aK,aL,aH],.agg #[ao,ak]] w R:=
 cq cc Tryz.func64 h
def K9.vc{aK:Sl}{aL:Sl}{aH:Sl}(h:
 Aw w #[aq,ar,av,aI,aJ,aK,aL,aH] 30 λw0=>
 Aw w0 #[ao,ak] 89 λw1=>
 ∃I2:Nat->Int->World->Prop,
 (∃n3,aP [aq,ar,av,aI,aJ,aK,aL,aH]/\aP [ao,ak]/\I2 n3 (0) w1)/\
 ∀(n3:Nat)(VH:Nat->Value)(x5:Int)(w6:World),I2 n3 x5 w6->
 Br (decide (x5<((aH.n:Nat):Int)))
 (cA aH.a x5 aH.n/\bk (eV (ae aH.a ((x5:Int).toNat*5))) (bk (eV (ae (ae aH.a ((x5:Int).toNat*5)) 0)) (∃(x8 x9:Int),au w6.drew (ae (ae (ae aH.a ((x5:Int).toNat*5)) 0) 0) 0 [x8,x9]/\
 Br ((x8==ao) &&(x9==ak))
 (R x5 w6.drew)
 (∃n7,n7<n3/\aP [aq,ar,av,aI,aJ,aK,aL,aH]/\aP [ao,ak]/\I2 n7 ((ai (x5+1))) w6.drew))))
 (R (Value.int .i64 (-1)) w6)):ah 49 #[.agg #[aq,ar,av,aI,aJ,aK,aL,aH],.agg #[ao,ak]] w R:=
 cq ⟨[(2,⟨[(5,.int .i64)],[],[]⟩)],[],[]⟩ Tryz.func49 h
def OS.vc(h:
 Aw w #[af,af,af,.slice none 0 0,.slice none 0 0] 27 λw0=>
 Sw w0 w #[.int .i64 (if 1048576<(if 0>a0 then 0 else a0) then 1048576 else (if 0>a0 then 0 else a0)),af,af,.slice none 0 0,.slice none 0 0] λw1=>
 R (Value.agg #[.int .i64 (if 1048576<(if 0>a0 then 0 else a0) then 1048576 else (if 0>a0 then 0 else a0)),af,af,.slice none 0 0,.slice none 0 0]) w1):ah 112 #[a0] w R:=
 cq cc Tryz.func112 h
def OT.vc{aK:Sl}{aL:Sl}{aH:Sl}(h:
 Aw w #[aq,ar,av,aI,aJ,aK,aL,aH] 30 λw0=>
 Aw w0 #[ao,ak,aw] 23 λw1=>
 Aw w1 #[af,af,af,af,af,.slice none 0 0,.slice none 0 0,.slice none 0 0] 30 λw2=>
 ah 50 #[.agg #[ao,ak,aw]] w2.drew (X7 λx4 x5 w3=>K3 w w0 w1 w2.drew w3 (
 au w3 w 0 [aq,ar,av,aI,aJ,aK,aL,aH]/\ah 49 #[.agg #[aq,ar,av,aI,aJ,aK,aL,aH],.agg #[x4,x5]] w3 (Ri λx7 w6=>K3 w w0 w1 w3 w6 (
 ah 146 #[a2] w6 (Rb λb9 w8=>K3 w w0 w1 w6 w8 (
 Br (x7<0)
 (Sw w8 w1 #[aq,ar,av,aI,aJ,aK,aL,aH] λbL=>
 R (Value.tuple #[.agg #[aq,ar,av,aI,aJ,aK,aL,aH],(11:Int)]) bL)
 (Br (ak<0)
 (Sw w8 w1 #[aq,ar,av,aI,aJ,aK,aL,aH] λcB=>
 R (Value.tuple #[.agg #[aq,ar,av,aI,aJ,aK,aL,aH],(5:Int)]) cB)
 (Br (ak>31)
 (Sw w8 w1 #[aq,ar,av,aI,aJ,aK,aL,aH] λbS=>
 R (Value.tuple #[.agg #[aq,ar,av,aI,aJ,aK,aL,aH],(5:Int)]) bS)
 (Br (!b9)
 (Sw w8 w1 #[aq,ar,av,aI,aJ,aK,aL,aH] λcC=>
 R (Value.tuple #[.agg #[aq,ar,av,aI,aJ,aK,aL,aH],(1:Int)]) cC)
 (cA aH.a x7 aH.n/\∃(bW bw:Int)(kH:Sl)(b17:Bool)(cf:Int),au w8 (ae aH.a ((x7:Int).toNat*5)) 0 [bW,bw,kH,b17,cf]/\
 Aw w8 #[af,af,.slice none 0 0,false,af] 110 λft=>
 Sw ft w8 #[bW,bw,kH,b17,cf] λdY=>
 Br b17
 (Sw dY w8 #[bW,bw,kH,true,cf] λef=>
 ah 147 #[.agg #[bW,bw,kH],.agg #[ao,ak,aw],a2] ef (λe ct=>∃(dc de:Int)(me:Sl)(dZ:Int),e=Value.tuple #[.agg #[dc,de,me],dZ]/\K4 w w0 w1 w8 ef ct (
 Aw ct #[af,af,.slice none 0 0] 108 λjf=>
 Sw jf ct #[dc,de,me] λeN=>
 Sw eN w8 #[dc,de,me,true,cf] λfP=>
 ah 78 #[.agg #[aq,ar,av,aI,aJ,aK,aL,aH],x7] fP.drew (λe ia=>∃(iN jB gx gf jy:Int)(pk FC wD:Sl),e=Value.agg #[iN,jB,gx,gf,jy,pk,FC,wD]/\K5 w w0 w1 w8 ct fP.drew ia (
 au ia (bu w8) 0 [dc,de,me,true,cf]/\ah 77 #[.agg #[iN,jB,gx,gf,jy,pk,FC,wD],.agg #[dc,de,me,true,cf]] ia (λe iU=>∃(nG jC lU kG jI:Int)(Bn Mm uN:Sl),e=Value.agg #[nG,jC,lU,kG,jI,Bn,Mm,uN]/\K5 w w0 w1 w8 ct ia iU (
 Sw iU w1 #[nG,jC,lU,kG,jI,Bn,Mm,uN] λuK=>
 R (Value.tuple #[.agg #[nG,jC,lU,kG,jI,Bn,Mm,uN],(0:Int)]) uK)))))))
 (ah 51 #[.agg #[bW,bw,kH],.agg #[ao,ak,aw]] dY (Ri λCC BS=>K4 w w0 w1 w8 dY BS (
 Sw BS w8 #[bW,bw,kH,.bool (CC !=a2),cf] λw51=>
 ah 147 #[.agg #[bW,bw,kH],.agg #[ao,ak,aw],a2] w51 (λe Gh=>∃(uO uW:Int)(FJ:Sl)(DR:Int),e=Value.tuple #[.agg #[uO,uW,FJ],DR]/\K4 w w0 w1 w8 w51 Gh (
 Aw Gh #[af,af,.slice none 0 0] 108 λVI=>
 Sw VI Gh #[uO,uW,FJ] λBy=>
 Sw By w8 #[uO,uW,FJ,.bool (CC !=a2),cf] λXv=>
 ah 78 #[.agg #[aq,ar,av,aI,aJ,aK,aL,aH],x7] Xv.drew (λe BQ=>∃(pn Cw lQ FK rG:Int)(s66 Fv s68:Sl),e=Value.agg #[pn,Cw,lQ,FK,rG,s66,Fv,s68]/\K5 w w0 w1 w8 Gh Xv.drew BQ (
 au BQ (bu w8) 0 [uO,uW,FJ,.bool (CC !=a2),cf]/\ah 77 #[.agg #[pn,Cw,lQ,FK,rG,s66,Fv,s68],.agg #[uO,uW,FJ,.bool (CC !=a2),cf]] BQ (λe jz=>∃(jD sK qQ rH qm:Int)(yJ Jv DT:Sl),e=Value.agg #[jD,sK,qQ,rH,qm,yJ,Jv,DT]/\K5 w w0 w1 w8 Gh BQ jz (
 Sw jz w1 #[jD,sK,qQ,rH,qm,yJ,Jv,DT] λw78=>
 R (Value.tuple #[.agg #[jD,sK,qQ,rH,qm,yJ,Jv,DT],(0:Int)]) w78)))))))))))))))))))):ah 99 #[.agg #[aq,ar,av,aI,aJ,aK,aL,aH],.agg #[ao,ak,aw],a2] w R:=
 cq cc Tryz.func99 h
def KW.vc{aI:Sl}{aJ:Sl}{a2:Sl}(h:
 Aw w #[aq,ar,av,aI,aJ] 27 λw0=>
 Aw w0 #[af,af,af,.slice none 0 0,.slice none 0 0] 27 λw1=>
 Br (a1<0)
 (Sw w1 w0 #[aq,ar,av,aI,aJ] λw2=>
 R (Value.tuple #[.agg #[aq,ar,av,aI,aJ],(1:Int)]) w2)
 (Br (a1>1099511627776)
 (Sw w1 w0 #[aq,ar,av,aI,aJ] λw3=>
 R (Value.tuple #[.agg #[aq,ar,av,aI,aJ],(1:Int)]) w3)
 (ah 125 #[.agg #[aq,ar,av,aI,aJ],a1] w1 (λe w4=>∃(x5 x6:Int)(s7:Sl),e=Value.tuple #[x5,x6,s7]/\K2 w w0 w1 w4 (
 ah 168 #[(ai (x6+1)),a2] w4 (λe w8=>∃(s9:Sl)(bq:Int),e=Value.tuple #[s9,bq]/\K2 w w0 w4 w8 (
 Br (bq !=0)
 (Sw w8 w0 #[aq,ar,av,aI,aJ] λcB=>
 R (Value.tuple #[.agg #[aq,ar,av,aI,aJ],bq]) cB)
 (ah 169 #[.agg #[aq,ar,av,aI,aJ],(ai ((ai ((ai (4*a1))+1))-x5)),s9] w8 (λe bS=>∃(cz bW bw:Int)(kH gF:Sl)(cf:Int),e=Value.tuple #[.agg #[cz,bW,bw,kH,gF],cf]/\K2 w w0 w8 bS (
 Aw bS #[af,af,af,.slice none 0 0,.slice none 0 0] 27 λft=>
 Sw ft bS #[cz,bW,bw,kH,gF] λdY=>
 Br (cf !=0)
 (Sw dY w0 #[cz,bW,bw,kH,gF] λef=>
 R (Value.tuple #[.agg #[cz,bW,bw,kH,gF],cf]) ef)
 (ah 170 #[.agg #[cz,bW,bw,kH,gF]] dY (λe ct=>∃(dc de da:Int)(wu lW:Sl)(eS:Int),e=Value.tuple #[.agg #[dc,de,da,wu,lW],eS]/\K3 w w0 bS dY ct (
 Sw ct w0 #[dc,de,da,wu,lW] λfP=>
 R (Value.tuple #[.agg #[dc,de,da,wu,lW],eS]) fP))))))))))))):ah 123 #[.agg #[aq,ar,av,aI,aJ],a1,a2] w R:=
 cq cc Tryz.func123 h
def KV.vc{aI:Sl}{aJ:Sl}(h:
 Aw w #[aq,ar,av,aI,aJ] 27 λw0=>
 Br (a1<0)
 (R (Value.tuple #[.slice none 0 0,af,false]) w0)
 (Br (a1>1099511627776)
 (R (Value.tuple #[.slice none 0 0,af,false]) w0)
 (ah 125 #[.agg #[aq,ar,av,aI,aJ],a1] w0 (λe w1=>∃(x2 x3:Int)(s4:Sl),e=Value.tuple #[x2,x3,s4]/\Kp w w0 w1/\
 R (Value.tuple #[s4,x3,.bool (decide (x3>0))]) w1)))):ah 80 #[.agg #[aq,ar,av,aI,aJ],a1] w R:=
 cq cc Tryz.func80 h
def La.vc{aK:Sl}{aL:Sl}{aH:Sl}{aw:Sl}{dB:Bool}(h:
 Aw w #[aq,ar,av,aI,aJ,aK,aL,aH] 30 λw0=>
 Aw w0 #[ao,ak,aw,dB,gn] 110 λw1=>
 Aw w1 #[af,af,af,af,af,.slice none 0 0,.slice none 0 0,.slice none 0 0] 30 λw2=>
 ∃l3:LV,Rd w2 aH.a l3/\aF 56 5 w2 ⟨none,0,0⟩ aH.n l3/\∀(s4:Sl)(w5:World),aE 110 5 w2 ⟨none,0,0⟩ aH.n l3 s4 w5->K3 w w0 w1 w2 w5 (
 Aw w5 #[ao,ak,aw,dB,gn] 110 λw6=>
 aF 56 5 w6 s4 1 [ao,ak,aw,dB,gn]/\∀(s7:Sl)(w8:World),aE 110 5 w6 s4 1 [ao,ak,aw,dB,gn] s7 w8->K4 w w0 w1 w5 w6 w8 (
 Sw w8 w #[aq,ar,av,aI,aJ,aK,aL,s7] λw9=>
 Sw w9 w1 #[aq,ar,av,aI,aJ,aK,aL,s7] λbL=>
 R (Value.agg #[aq,ar,av,aI,aJ,aK,aL,s7]) bL))):ah 77 #[.agg #[aq,ar,av,aI,aJ,aK,aL,aH],.agg #[ao,ak,aw,dB,gn]] w R:=
 cq cc Tryz.func77 h
def B8.vc{aK:Sl}{aL:Sl}{aH:Sl}(h:
 Aw w #[aq,ar,av,aI,aJ,aK,aL,aH] 30 λw0=>
 Aw w0 #[af,af,af,af,af,.slice none 0 0,.slice none 0 0,.slice none 0 0] 30 λw1=>
 (0:Int)<=a1/\a1<=((aH.c:Nat):Int)/\∃l2:LV,Rd w1 (aA aH.a (0) (aH.c) 5) l2/\aF 56 5 w1 ⟨none,0,0⟩ ((a1:Int).toNat-0) l2/\∀(s3:Sl)(w4:World),aE 110 5 w1 ⟨none,0,0⟩ ((a1:Int).toNat-0) l2 s3 w4->K2 w w0 w1 w4 (
 (0:Int)<=(ai (a1+1))/\(ai (a1+1))<=((aH.n:Nat):Int)/\∃l5:LV,Rd w4 (aA aH.a (((ai (a1+1)):Int).toNat) (aH.c) 5) l5/\aF 56 5 w4 s3 (aH.n-((ai (a1+1)):Int).toNat) l5/\∀(s6:Sl)(w7:World),aE 110 5 w4 s3 (aH.n-((ai (a1+1)):Int).toNat) l5 s6 w7->K2 w w0 w4 w7 (
 Sw w7 w #[aq,ar,av,aI,aJ,aK,aL,s6] λw8=>
 Sw w8 w0 #[aq,ar,av,aI,aJ,aK,aL,s6] λw9=>
 R (Value.agg #[aq,ar,av,aI,aJ,aK,aL,s6]) w9))):ah 78 #[.agg #[aq,ar,av,aI,aJ,aK,aL,aH],a1] w R:=
 cq cc Tryz.func78 h
def Lb.vc{aK:Sl}{aL:Sl}{aH:Sl}(h:
 Aw w #[aq,ar,av,aI,aJ,aK,aL,aH] 30 λw0=>
 Aw w0 #[af,af,af,af,af,.slice none 0 0,.slice none 0 0,.slice none 0 0] 30 λw1=>
 cA aH.a a1 aH.n/\∃(x2 x3:Int)(s4:Sl)(b5:Bool)(x6:Int),au w1 (ae aH.a ((a1:Int).toNat*5)) 0 [x2,x3,s4,b5,x6]/\
 Aw w1 #[af,af,.slice none 0 0,false,af] 110 λw7=>
 Sw w7 w1 #[x2,x3,s4,b5,x6] λw8=>
 Br (!b5)
 (Sw w8 w0 #[aq,ar,av,aI,aJ,aK,aL,aH] λw9=>
 R (Value.tuple #[.agg #[aq,ar,av,aI,aJ,aK,aL,aH],(0:Int)]) w9)
 (ah 122 #[s4] w8 (λe bL=>∃(eO:Sl)(bU:Int),e=Value.tuple #[eO,bU]/\K3 w w0 w1 w8 bL (
 (ah 76 #[.agg #[x2,x3]] bL.drew (Ri λbW cC=>K3 w w0 w1 bL.drew cC (
 au cC (lX w 2) 0 [av,aI,aJ,aK,aL]/\(ah 123 #[.agg #[av,aI,aJ,aK,aL],bW,eO] cC (λe cU=>∃(cQ cR cf:Int)(pg sM:Sl)(fT:Int),e=Value.tuple #[.agg #[cQ,cR,cf,pg,sM],fT]/\K3 w w0 w1 cC cU (
 Aw cU #[af,af,af,.slice none 0 0,.slice none 0 0] 27 λct=>
 Sw ct cU #[cQ,cR,cf,pg,sM] λgp=>
 Sw gp w #[aq,ar,cQ,cR,cf,pg,sM,aH] λfy=>
 Sw fy w1 #[x2,x3,s4,.bool (fT !=0),x6] λeh=>
 ah 124 #[.agg #[aq,ar,cQ,cR,cf,pg,sM,aH],a1,.agg #[x2,x3,s4,.bool (fT !=0),x6]] eh (λe hZ=>∃(dp eS iO oT iN:Int)(iW J2 VJ:Sl),e=Value.agg #[dp,eS,iO,oT,iN,iW,J2,VJ]/\K4 w w0 w1 cU eh hZ (
 Sw hZ w0 #[dp,eS,iO,oT,iN,iW,J2,VJ] λxu=>
 R (Value.tuple #[.agg #[dp,eS,iO,oT,iN,iW,J2,VJ],fT]) xu)))))/\(Aw cC #[af,af,af,.slice none 0 0,.slice none 0 0] 27 λnC=>
 ah 123 #[.agg #[av,aI,aJ,aK,aL],bW,eO] nC (λe hX=>∃(je kB nG:Int)(s41 nH:Sl)(kG:Int),e=Value.tuple #[.agg #[je,kB,nG,s41,nH],kG]/\K4 w w0 w1 cC nC hX (
 Sw hX cC #[je,kB,nG,s41,nH] λjA=>
 Sw jA w #[aq,ar,je,kB,nG,s41,nH,aH] λDS=>
 Sw DS w1 #[x2,x3,s4,.bool (kG !=0),x6] λDQ=>
 ah 124 #[.agg #[aq,ar,je,kB,nG,s41,nH,aH],a1,.agg #[x2,x3,s4,.bool (kG !=0),x6]] DQ (λe oV=>∃(sH j4 CC VK uS:Int)(Xw BP FJ:Sl),e=Value.agg #[sH,j4,CC,VK,uS,Xw,BP,FJ]/\K4 w w0 w1 cC DQ oV (
 Sw oV w0 #[sH,j4,CC,VK,uS,Xw,BP,FJ] λNO=>
 R (Value.tuple #[.agg #[sH,j4,CC,VK,uS,Xw,BP,FJ],kG]) NO))))))))/\(Aw bL.drew #[af,af,af,.slice none 0 0,.slice none 0 0] 27 λVI=>
 ah 76 #[.agg #[x2,x3]] VI (Ri λxy By=>K3 w w0 w1 VI By (
 By.heap[bL.drew.heap.size]? =VI.heap[bL.drew.heap.size]?/\
 au By (lX w 2) 0 [av,aI,aJ,aK,aL]/\ah 123 #[.agg #[av,aI,aJ,aK,aL],xy,eO] By (λe BQ=>∃(pn Cw lQ:Int)(FD Ul:Sl)(lP:Int),e=Value.tuple #[.agg #[pn,Cw,lQ,FD,Ul],lP]/\K3 w w0 w1 By BQ (
 BQ.heap[bL.drew.heap.size]? =By.heap[bL.drew.heap.size]?/\
 Sw BQ bL.drew.heap.size #[pn,Cw,lQ,FD,Ul] λsJ=>
 Sw sJ w #[aq,ar,pn,Cw,lQ,FD,Ul,aH] λJU=>
 Sw JU w1 #[x2,x3,s4,.bool (lP !=0),x6] λjz=>
 ah 124 #[.agg #[aq,ar,pn,Cw,lQ,FD,Ul,aH],a1,.agg #[x2,x3,s4,.bool (lP !=0),x6]] jz (λe wB=>∃(sK qQ rH qm x75:Int)(Jv DT vf:Sl),e=Value.agg #[sK,qQ,rH,qm,x75,Jv,DT,vf]/\K3 w w0 w1 jz wB (
 wB.heap[bL.drew.heap.size]? =jz.heap[bL.drew.heap.size]?/\
 Sw wB w0 #[sK,qQ,rH,qm,x75,Jv,DT,vf] λw79=>
 R (Value.tuple #[.agg #[sK,qQ,rH,qm,x75,Jv,DT,vf],lP]) w79))))))))))):ah 79 #[.agg #[aq,ar,av,aI,aJ,aK,aL,aH],a1] w R:=
 cq cc Tryz.func79 h
def Lc.vc{aK:Sl}{aL:Sl}{aH:Sl}{dO:Sl}{ln:Bool}(h:
 Aw w #[aq,ar,av,aI,aJ,aK,aL,aH] 30 λw0=>
 Aw w0 #[db,dR,dO,ln,lO] 110 λw1=>
 Aw w1 #[af,af,af,af,af,.slice none 0 0,.slice none 0 0,.slice none 0 0] 30 λw2=>
 ∃l3:LV,Rd w2 aH.a l3/\aF 56 5 w2 ⟨none,0,0⟩ aH.n l3/\∀(s4:Sl)(w5:World),aE 110 5 w2 ⟨none,0,0⟩ aH.n l3 s4 w5->K3 w w0 w1 w2 w5 (
 cA s4.a a1 s4.n/\(((ae s4.a ((a1:Int).toNat*5))).isSome=true/\Wr w5 (ae s4.a ((a1:Int).toNat*5)) 5)/\cS (ae s4.a ((a1:Int).toNat*5))≠some w.heap.size/\cS (ae s4.a ((a1:Int).toNat*5))≠some w0.heap.size/\cS (ae s4.a ((a1:Int).toNat*5))≠some w1.heap.size/\(∀w6,w6=bc w5 (ae s4.a ((a1:Int).toNat*5)) [db,dR,dO,ln,lO]->
 Sw w6 w #[aq,ar,av,aI,aJ,aK,aL,s4] λw7=>
 Sw w7 w1 #[aq,ar,av,aI,aJ,aK,aL,s4] λw8=>
 R (Value.agg #[aq,ar,av,aI,aJ,aK,aL,s4]) w8))):ah 124 #[.agg #[aq,ar,av,aI,aJ,aK,aL,aH],a1,.agg #[db,dR,dO,ln,lO]] w R:=
 cq cc Tryz.func124 h
def Sd.vc{aI:Sl}{aJ:Sl}(h:
 Aw w #[aq,ar,av,aI,aJ] 27 λw0=>
 ah 171 #[.agg #[aq,ar,av,aI,aJ],(ai (2*a1))] w0 (λe w1=>∃(s2:Sl)(b3:Bool),e=Value.tuple #[s2,b3]/\Kp w w0 w1/\
 ah 171 #[.agg #[aq,ar,av,aI,aJ],(ai ((ai (2*a1))+1))] w1 (λe w4=>∃(s5:Sl)(b6:Bool),e=Value.tuple #[s5,b6]/\Kp w w1 w4/\
 ah 172 #[s2] w4 (λe w7=>∃(x8:Int)(s9:Sl)(bq:Int),e=Value.tuple #[x8,s9,bq]/\Kp w w4 w7/\
 ah 172 #[s5] w7 (λe cB=>∃(bU:Int)(gl:Sl)(bW:Int),e=Value.tuple #[bU,gl,bW]/\Kp w w7 cB/\
 Br (bq !=0)
 (Br (bW !=0)
 (R (Value.tuple #[(ai ((ai (2*a1))+1)),af,.slice none 0 0]) cB)
 (Br (bW !=0)
 (R (Value.tuple #[(ai (2*a1)),x8,s9]) cB)
 (Br (bq==0)
 (Br (x8>=bU)
 (R (Value.tuple #[(ai (2*a1)),x8,s9]) cB)
 (R (Value.tuple #[(ai ((ai (2*a1))+1)),bU,gl]) cB))
 (R (Value.tuple #[(ai ((ai (2*a1))+1)),bU,gl]) cB))))
 (Br (bW !=0)
 (R (Value.tuple #[(ai (2*a1)),x8,s9]) cB)
 (Br (bq==0)
 (Br (x8>=bU)
 (R (Value.tuple #[(ai (2*a1)),x8,s9]) cB)
 (R (Value.tuple #[(ai ((ai (2*a1))+1)),bU,gl]) cB))
 (R (Value.tuple #[(ai ((ai (2*a1))+1)),bU,gl]) cB)))))))):ah 125 #[.agg #[aq,ar,av,aI,aJ],a1] w R:=
 cq cc Tryz.func125 h
def HC.vc{a1:Sl}(h:
 Br (a0<1)
 (R (Value.tuple #[.slice none 0 0,(1:Int)]) w)
 (Br (a0>1073741824)
 (R (Value.tuple #[.slice none 0 0,(1:Int)]) w)
 (Br (decide ((((a1.n:Nat):Int):Int)>65536))
 (R (Value.tuple #[.slice none 0 0,(1:Int)]) w)
 (ah 211 #[a0,(4:Int)] w (λe w0=>∃(s1:Sl),e=s1/\
 ah 211 #[((a1.n:Nat):Int),(3:Int)] w0 (λe w2=>∃(s3:Sl),e=s3/\
 ∃l4:LV,Rd w2 s3.a l4/\aF 1 1 w2 s1 s3.n l4/\∀(s5:Sl)(w6:World),aE 5 1 w2 s1 s3.n l4 s5 w6->
 ∃l7:LV,Rd w6 a1.a l7/\aF 1 1 w6 s5 a1.n l7/\∀(s8:Sl)(w9:World),aE 5 1 w6 s5 a1.n l7 s8 w9->
 ah 212 #[s8] w9 (λe bL=>∃(eO:Sl),e=eO/\
 R (Value.tuple #[eO,af]) bL))))))):ah 168 #[a0,a1] w R:=
 cq cc Tryz.func168 h
def OU.vc{aI:Sl}{aJ:Sl}{a2:Sl}(h:
 Aw w #[aq,ar,av,aI,aJ] 27 λw0=>
 Aw w0 #[af,af,af,.slice none 0 0,.slice none 0 0] 27 λw1=>
 ah 213 #[.agg #[aq,ar,av,aI,aJ]] w1 (λe w2=>∃(x3 x4 x5:Int)(s6 s7:Sl)(b8:Bool),e=Value.tuple #[.agg #[x3,x4,x5,s6,s7],b8]/\K2 w w0 w1 w2 (
 Sw w2 w #[x3,x4,x5,s6,s7] λw9=>
 Br b8
 (Sw w9 w0 #[x3,x4,x5,s6,s7] λbL=>
 R (Value.tuple #[.agg #[x3,x4,x5,s6,s7],(9:Int)]) bL)
 (Aw w9 #[af,.slice none 0 0] 274 λcB=>
 Sw cB w9 #[a1,a2] λbS=>
 ah 216 #[.agg #[x3,x4,x5,s6,s7]] bS.drew (Rs λsX cC=>K3 w w0 w9 bS.drew cC (
 au cC w 0 [x3]/\au cC (bu w9) 0 [a1,a2]/\ah 215 #[sX,.agg #[a1,a2]] cC (Rs λkH cU=>K3 w w0 w9 cC cU (
 au cU w 0 [x3]/\ah 214 #[kH] cU (Ri λcf cE=>K3 w w0 w9 cU cE (
 au cE w 0 [x3]/\Br (cf>x3)
 (Sw cE w0 #[x3,x4,x5,s6,s7] λft=>
 R (Value.tuple #[.agg #[x3,x4,x5,s6,s7],(8:Int)]) ft)
 (∃l20:LV,Rd cE s7.a l20/\aF 32 2 cE ⟨none,0,0⟩ s7.n l20/\∀(jk:Sl)(ct:World),aE 274 2 cE ⟨none,0,0⟩ s7.n l20 jk ct->K3 w w0 w9 cE ct (
 Aw ct #[a1,a2] 274 λgp=>
 aF 32 2 gp jk 1 [a1,a2]/\∀(kO:Sl)(eh:World),aE 274 2 gp jk 1 [a1,a2] kO eh->K4 w w0 w9 ct gp eh (
 Sw eh w #[x3,x4,x5,s6,kO] λhZ=>
 Sw hZ w0 #[x3,x4,x5,s6,kO] λjf=>
 R (Value.tuple #[.agg #[x3,x4,x5,s6,kO],(0:Int)]) jf))))))))))))):ah 169 #[.agg #[aq,ar,av,aI,aJ],a1,a2] w R:=
 cq cc Tryz.func169 h
def Ld.vc{aI:Sl}{aJ:Sl}(h:
 Aw w #[aq,ar,av,aI,aJ] 27 λw0=>
 Aw w0 #[af,af,af,.slice none 0 0,.slice none 0 0] 27 λw1=>
 ah 213 #[.agg #[aq,ar,av,aI,aJ]] w1 (λe w2=>∃(x3 x4 x5:Int)(s6 s7:Sl)(b8:Bool),e=Value.tuple #[.agg #[x3,x4,x5,s6,s7],b8]/\K2 w w0 w1 w2 (
 Sw w2 w #[x3,x4,x5,s6,s7] λw9=>
 Br b8
 (Sw w9 w0 #[x3,x4,x5,s6,s7] λbL=>
 R (Value.tuple #[.agg #[x3,x4,x5,s6,s7],(9:Int)]) bL)
 (ah 216 #[.agg #[x3,x4,x5,s6,s7]] w9 (Rs λeM cB=>K2 w w0 w9 cB (
 Sw cB w #[x3,x4,x5,eM,s7] λcC=>
 Sw cC w #[x3,x4,x5,eM,.slice none 0 0] λbY=>
 Sw bY w0 #[x3,x4,x5,eM,.slice none 0 0] λcU=>
 R (Value.tuple #[.agg #[x3,x4,x5,eM,.slice none 0 0],(0:Int)]) cU)))))):ah 170 #[.agg #[aq,ar,av,aI,aJ]] w R:=
 cq cc Tryz.func170 h
def OV.vc{aI:Sl}{aJ:Sl}(h:
 Aw w #[aq,ar,av,aI,aJ] 27 λw0=>
 ah 216 #[.agg #[aq,ar,av,aI,aJ]] w0 (Rs λs2 w1=>Kp w w0 w1/\
 ∃I3:Nat->Int->World->Prop,
 (∃n4,aP [aq,ar,av,aI,aJ]/\I3 n4 (0) w1)/\
 ∀(n4:Nat)(us5:Nat->Value)(x6:Int)(w7:World),I3 n4 x6 w7->
 Br (decide (x6<((s2.n:Nat):Int)))
 (cA s2.a x6 s2.n/\bk (eV (ae s2.a ((x6:Int).toNat*2))) (∃(x9:Int),ld w7 (ae (ae s2.a ((x6:Int).toNat*2)) 0)=some (.int .i64 x9)/\
 Br (x9==a1)
 (cA s2.a x6 s2.n/\bk (eV (ae s2.a ((x6:Int).toNat*2))) (∃(cO:Sl),ld w7 (ae (ae s2.a ((x6:Int).toNat*2)) 1)=some (.slice cO.a cO.n cO.c)/\
 R (Value.tuple #[cO,true]) w7))
 (∃n8,n8<n4/\aP [aq,ar,av,aI,aJ]/\I3 n8 ((ai (x6+1))) w7)))
 (R (Value.tuple #[.slice none 0 0,false]) w7))):ah 171 #[.agg #[aq,ar,av,aI,aJ],a1] w R:=
 cq ⟨[(3,⟨[(7,.int .i64)],[],[]⟩)],[],[]⟩ Tryz.func171 h
def Le.vc{a0:Sl}(h:
 ah 217 #[a0] w (λe w0=>∃(s1:Sl)(x2:Int),e=Value.tuple #[s1,x2]/\
 Br (x2 !=0)
 (R (Value.tuple #[af,.slice none 0 0,x2]) w0)
 (Br (decide ((((s1.n:Nat):Int):Int)<7))
 (R (Value.tuple #[af,.slice none 0 0,(3:Int)]) w0)
 ((0:Int)<=4/\4<=((s1.c:Nat):Int)/\ah 218 #[.slice (aA s1.a (0) (s1.c) 1) ((4:Int).toNat-0) (s1.c-0)] w0 (λe w3=>∃(x4:Int),e=x4/\
 (0:Int)<=7/\7<=((s1.c:Nat):Int)/\(0:Int)<=4/\(4:Int)<=7/\ah 218 #[.slice (aA s1.a ((4:Int).toNat) (s1.c) 1) ((7:Int).toNat-(4:Int).toNat) (s1.c-(4:Int).toNat)] w3 (λe w5=>∃(x6:Int),e=x6/\
 Br (x4<1)
 (R (Value.tuple #[af,.slice none 0 0,(2:Int)]) w5)
 (Br (x4>1073741824)
 (R (Value.tuple #[af,.slice none 0 0,(2:Int)]) w5)
 (Br (x6>65536)
 (R (Value.tuple #[af,.slice none 0 0,(2:Int)]) w5)
 (Br (x6 !=(ai (((s1.n:Nat):Int)-7)))
 (R (Value.tuple #[af,.slice none 0 0,(2:Int)]) w5)
 ((0:Int)<=7/\7<=((s1.n:Nat):Int)/\R (Value.tuple #[x4,.slice (aA s1.a ((7:Int).toNat) (s1.c) 1) (s1.n-(7:Int).toNat) (s1.c-(7:Int).toNat),af]) w5.drew)))))))))):ah 172 #[a0] w R:=
 cq cc Tryz.func172 h
def EB.vc(h:
 ∃I0:Nat->Int->Int->World->Prop,
 (∃n1,I0 n1 (1) (1) w)/\
 ∀(n1:Nat)(oB:Nat->Value)(x3 x4:Int)(w5:World),I0 n1 x3 x4 w5->
 Br (x3<a1)
 (∃n6,n6<n1/\I0 n6 ((ai (x3+1))) ((ai (x4*256))) w5)
 (∃I7:Nat->Int->Sl->Int->World->Prop,
 (∃n8,I7 n8 (0) ⟨none,0,0⟩ (x4) w5)/\
 ∀(n8:Nat)(us9:Nat->Value)(bq:Int)(eO:Sl)(bU:Int)(cC:World),I7 n8 bq eO bU cC->
 Br (bq<a1)
 (bk (NW bU) (Aw cC #[.int .u8 (mg (Int.tmod (ai (Int.tdiv a0 bU)) 256))] 5 λcU=>
 aF 1 1 cU eO 1 [.int .u8 (mg (Int.tmod (ai (Int.tdiv a0 bU)) 256))]/\∀(kH:Sl)(cE:World),aE 5 1 cU eO 1 [.int .u8 (mg (Int.tmod (ai (Int.tdiv a0 bU)) 256))] kH cE->Kp cC cU cE/\
 ∃NL,NL<n8/\I7 NL ((ai (bq+1))) kH ((ai (Int.tdiv bU 256))) cE))
 (R eO cC))):ah 211 #[a0,a1] w R:=
 cq ⟨[(8,⟨[(8,.int .i64),(5,.slice),(6,.int .i64)],[],[]⟩),(4,⟨[(7,.int .i64),(6,.int .i64)],[],[]⟩)],[],[]⟩ Tryz.func211 h
def OW.vc{a0:Sl}(h:
 ah 240 #[a0] w (λe w0=>∃(x1:Int),e=x1/\
 ∃l2:LV,Rd w0 a0.a l2/\aF 1 1 w0 ⟨none,0,0⟩ a0.n l2/\∀(s3:Sl)(w4:World),aE 5 1 w0 ⟨none,0,0⟩ a0.n l2 s3 w4->
 Aw w4 #[.int .u8 (mg (ai (Int.tdiv x1 256))),.int .u8 (mg (Int.tmod x1 256))] 5 λw5=>
 aF 1 1 w5 s3 2 [.int .u8 (mg (ai (Int.tdiv x1 256))),.int .u8 (mg (Int.tmod x1 256))]/\∀(s6:Sl)(w7:World),aE 5 1 w5 s3 2 [.int .u8 (mg (ai (Int.tdiv x1 256))),.int .u8 (mg (Int.tmod x1 256))] s6 w7->Kp w4 w5 w7/\
 R s6 w7)):ah 212 #[a0] w R:=
 cq cc Tryz.func212 h
def HD.vc{aI:Sl}{aJ:Sl}(h:
 Aw w #[aq,ar,av,aI,aJ] 27 λw0=>
 Aw w0 #[af,af,af,.slice none 0 0,.slice none 0 0] 27 λw1=>
 Br (av>0)
 (Sw w1 w #[aq,ar,af,aI,aJ] λw2=>
 Sw w2 w0 #[aq,ar,af,aI,aJ] λw3=>
 R (Value.tuple #[.agg #[aq,ar,af,aI,aJ],false]) w3)
 (Br (ar>0)
 (Sw w1 w #[aq,(ai (ar-1)),av,aI,aJ] λw4=>
 Sw w4 w0 #[aq,(ai (ar-1)),av,aI,aJ] λw5=>
 R (Value.tuple #[.agg #[aq,(ai (ar-1)),av,aI,aJ],true]) w5)
 (Sw w1 w0 #[aq,ar,av,aI,aJ] λw6=>
 R (Value.tuple #[.agg #[aq,ar,av,aI,aJ],false]) w6))):ah 213 #[.agg #[aq,ar,av,aI,aJ]] w R:=
 cq cc Tryz.func213 h
def OX.vc{a0:Sl}(h:
 ∃I0:Nat->Int->Int->World->Prop,
 (∃n1,I0 n1 (0) (0) w)/\
 ∀(n1:Nat)(oB:Nat->Value)(x3 x4:Int)(w5:World),I0 n1 x3 x4 w5->
 Br (decide (x3<((a0.n:Nat):Int)))
 (cA a0.a x3 a0.n/\bk (eV (ae a0.a ((x3:Int).toNat*2))) (∃(s7:Sl),ld w5 (ae (ae a0.a ((x3:Int).toNat*2)) 1)=some (.slice s7.a s7.n s7.c)/\
 ∃n6,n6<n1/\I0 n6 ((ai (x3+1))) ((ai (x4+((s7.n:Nat):Int)))) w5))
 (R x4 w5)):ah 214 #[a0] w R:=
 cq ⟨[(3,⟨[(4,.int .i64),(3,.int .i64)],[],[]⟩)],[],[]⟩ Tryz.func214 h
def OY.vc{a0:Sl}{ak:Sl}(h:
 Aw w #[ao,ak] 274 λw0=>
 ∃I1:Nat->Int->Bool->Sl->World->Prop,
 (∃n2,aP [ao,ak]/\I1 n2 (0) false ⟨none,0,0⟩ w0)/\
 ∀(n2:Nat)(Xf:Nat->Value)(x4:Int)(b5:Bool)(s6:Sl)(w7:World),I1 n2 x4 b5 s6 w7->
 Br (decide (x4<((a0.n:Nat):Int)))
 (Br (!b5)
 (cA a0.a x4 a0.n/\bk (eV (ae a0.a ((x4:Int).toNat*2))) (∃(x9:Int),ld w7.drew (ae (ae a0.a ((x4:Int).toNat*2)) 0)=some (.int .i64 x9)/\
 Br (x9>=ao)
 (Aw w7.drew #[ao,ak] 274 λbL=>
 aF 32 2 bL s6 1 [ao,ak]/\∀(eO:Sl)(bS:World),aE 274 2 bL s6 1 [ao,ak] eO bS->Kp w bL bS/\bS.heap[w7.drew.heap.size]? =bL.heap[w7.drew.heap.size]?/\
 cA a0.a x4 a0.n/\bk (eV (ae a0.a ((x4:Int).toNat*2))) (∃(cz:Int),ld bS.drew (ae (ae a0.a ((x4:Int).toNat*2)) 0)=some (.int .i64 cz)/\
 Br (cz !=ao)
 (cA a0.a x4 a0.n/\∃(bW:Int)(ji:Sl),au bS.drew (ae a0.a ((x4:Int).toNat*2)) 0 [bW,ji]/\
 Aw bS.drew #[bW,ji] 274 λcY=>
 aF 32 2 cY eO 1 [bW,ji]/\∀(gF:Sl)(dA:World),aE 274 2 cY eO 1 [bW,ji] gF dA->Kp w cY dA/\dA.heap[w7.drew.heap.size]? =cY.heap[w7.drew.heap.size]?/\dA.heap[bS.drew.heap.size]? =cY.heap[bS.drew.heap.size]?/\
 ∃n8,n8<n2/\aP [ao,ak]/\I1 n8 ((ai (x4+1))) true gF dA)
 (∃n8,n8<n2/\aP [ao,ak]/\I1 n8 ((ai (x4+1))) true eO bS.drew)))
 (cA a0.a x4 a0.n/\bk (eV (ae a0.a ((x4:Int).toNat*2))) (∃(cK:Int),ld w7.drew.drew (ae (ae a0.a ((x4:Int).toNat*2)) 0)=some (.int .i64 cK)/\
 Br (cK !=ao)
 (cA a0.a x4 a0.n/\∃(du:Int)(jk:Sl),au w7.drew.drew (ae a0.a ((x4:Int).toNat*2)) 0 [du,jk]/\
 Aw w7.drew.drew #[du,jk] 274 λct=>
 aF 32 2 ct s6 1 [du,jk]/\∀(Cx:Sl)(fy:World),aE 274 2 ct s6 1 [du,jk] Cx fy->Kp w ct fy/\fy.heap[w7.drew.drew.heap.size]? =ct.heap[w7.drew.drew.heap.size]?/\
 ∃n8,n8<n2/\aP [ao,ak]/\I1 n8 ((ai (x4+1))) b5 Cx fy)
 (∃n8,n8<n2/\aP [ao,ak]/\I1 n8 ((ai (x4+1))) b5 s6 w7.drew.drew)))))
 (cA a0.a x4 a0.n/\bk (eV (ae a0.a ((x4:Int).toNat*2))) (∃(da:Int),ld w7.drew.drew (ae (ae a0.a ((x4:Int).toNat*2)) 0)=some (.int .i64 da)/\
 Br (da !=ao)
 (cA a0.a x4 a0.n/\∃(dZ:Int)(lW:Sl),au w7.drew.drew (ae a0.a ((x4:Int).toNat*2)) 0 [dZ,lW]/\
 Aw w7.drew.drew #[dZ,lW] 274 λeN=>
 aF 32 2 eN s6 1 [dZ,lW]/\∀(mf:Sl)(ia:World),aE 274 2 eN s6 1 [dZ,lW] mf ia->Kp w eN ia/\ia.heap[w7.drew.drew.heap.size]? =eN.heap[w7.drew.drew.heap.size]?/\
 ∃n8,n8<n2/\aP [ao,ak]/\I1 n8 ((ai (x4+1))) b5 mf ia)
 (∃n8,n8<n2/\aP [ao,ak]/\I1 n8 ((ai (x4+1))) b5 s6 w7.drew.drew))))
 (Br (!b5)
 (Aw w7 #[ao,ak] 274 λik=>
 aF 32 2 ik s6 1 [ao,ak]/\∀(iW:Sl)(lz:World),aE 274 2 ik s6 1 [ao,ak] iW lz->K2 w w7 ik lz (
 R iW lz))
 (R s6 w7))):ah 215 #[a0,.agg #[ao,ak]] w R:=
 cq ⟨[(4,⟨[(7,.int .i64),(6,.bool),(5,.slice)],[],[]⟩)],[],[]⟩ Tryz.func215 h
def OZ.vc{aI:Sl}{aJ:Sl}(h:
 Aw w #[aq,ar,av,aI,aJ] 27 λw0=>
 ∃I1:Nat->Int->Sl->World->Prop,
 (∃n2,aP [aq,ar,av,aI,aJ]/\I1 n2 (0) aI w0)/\
 ∀(n2:Nat)(Xf:Nat->Value)(x4:Int)(s5:Sl)(w6:World),I1 n2 x4 s5 w6->
 Br (decide (x4<((aJ.n:Nat):Int)))
 (cA aJ.a x4 aJ.n/\∃(x8:Int)(s9:Sl),au w6 (ae aJ.a ((x4:Int).toNat*2)) 0 [x8,s9]/\
 ah 215 #[s5,.agg #[x8,s9]] w6 (Rs λeO bL=>Kp w w6 bL/\
 ∃n7,n7<n2/\aP [aq,ar,av,aI,aJ]/\I1 n7 ((ai (x4+1))) eO bL))
 (R s5 w6)):ah 216 #[.agg #[aq,ar,av,aI,aJ]] w R:=
 cq ⟨[(3,⟨[(4,.int .i64),(3,.slice)],[],[]⟩)],[],[]⟩ Tryz.func216 h
def Lf.vc{a0:Sl}(h:
 Br (decide (((ai (((a0.n:Nat):Int)-2)):Int)<0))
 (R (Value.tuple #[.slice none 0 0,(3:Int)]) w)
 (cA a0.a (ai (((a0.n:Nat):Int)-2)) a0.n/\∃(x0:Int),ld w.drew (ae a0.a (((ai (((a0.n:Nat):Int)-2)):Int).toNat*1))=some (.int .u8 x0)/\
 cA a0.a (ai ((ai (((a0.n:Nat):Int)-2))+1)) a0.n/\∃(x1:Int),ld w.drew (ae a0.a (((ai ((ai (((a0.n:Nat):Int)-2))+1)):Int).toNat*1))=some (.int .u8 x1)/\
 (0:Int)<=(ai (((a0.n:Nat):Int)-2))/\(ai (((a0.n:Nat):Int)-2))<=((a0.c:Nat):Int)/\ah 240 #[.slice (aA a0.a (0) (a0.c) 1) (((ai (((a0.n:Nat):Int)-2)):Int).toNat-0) (a0.c-0)] w.drew (λe w2=>∃(x3:Int),e=x3/\
 au w2 (ae a0.a (((ai ((ai (((a0.n:Nat):Int)-2))+1)):Int).toNat*1)) 0 [.int .u8 x1]/\au w2 (ae a0.a (((ai (((a0.n:Nat):Int)-2)):Int).toNat*1)) 0 [.int .u8 x0]/\Br (((ai ((ai ((ai x0)*256))+(ai x1))):Int) !=x3)
 (R (Value.tuple #[.slice none 0 0,(4:Int)]) w2)
 ((0:Int)<=(ai (((a0.n:Nat):Int)-2))/\(ai (((a0.n:Nat):Int)-2))<=((a0.c:Nat):Int)/\R (Value.tuple #[.slice (aA a0.a (0) (a0.c) 1) (((ai (((a0.n:Nat):Int)-2)):Int).toNat-0) (a0.c-0),af]) w2)))):ah 217 #[a0] w R:=
 cq cc Tryz.func217 h
def O0.vc{a0:Sl}(h:
 ∃I0:Nat->Int->Int->World->Prop,
 (∃n1,I0 n1 (0) (0) w)/\
 ∀(n1:Nat)(oB:Nat->Value)(x3 x4:Int)(w5:World),I0 n1 x3 x4 w5->
 Br (decide (x3<((a0.n:Nat):Int)))
 (cA a0.a x3 a0.n/\∃(x7:Int),ld w5 (ae a0.a ((x3:Int).toNat*1))=some (.int .u8 x7)/\
 ∃n6,n6<n1/\I0 n6 ((ai (x3+1))) ((ai ((ai (x4*256))+(ai x7)))) w5)
 (R x4 w5)):ah 218 #[a0] w R:=
 cq ⟨[(3,⟨[(4,.int .i64),(3,.int .i64)],[],[]⟩)],[],[]⟩ Tryz.func218 h
def Sj.vc{a0:Sl}(h:
 ah 248 #[(65535:Int),a0] w (λe w0=>∃(x1:Int),e=x1/\
 R x1 w0)):ah 240 #[a0] w R:=
 cq cc Tryz.func240 h
def O1.vc{a1:Sl}(h:
 ∃I0:Nat->Int->Int->World->Prop,
 (∃n1,I0 n1 (0) a0 w)/\
 ∀(n1:Nat)(oB:Nat->Value)(x3 x4:Int)(w5:World),I0 n1 x3 x4 w5->
 Br (decide (x3<((a1.n:Nat):Int)))
 (cA a1.a x3 a1.n/\∃(x7:Int),ld w5 (ae a1.a ((x3:Int).toNat*1))=some (.int .u8 x7)/\
 ∃I8:Nat->Int->Int->World->Prop,
 (∃n9,I8 n9 (0) ((gI .i64 x4 (ai ((ai x7)*256)))) w5)/\
 ∀(n9:Nat)(Xm:Nat->Value)(bR bU:Int)(cC:World),I8 n9 bR bU cC->
 Br (bR<8)
 (Br (decide (((ai (bU*2)):Int)>=65536))
 (∃NL,NL<n9/\I8 NL ((ai (bR+1))) ((gI .i64 (ai ((ai (bU*2))-65536)) 4129)) cC)
 (∃NL,NL<n9/\I8 NL ((ai (bR+1))) ((ai (bU*2))) cC))
 (∃n6,n6<n1/\I0 n6 ((ai (x3+1))) bU cC))
 (R x4 w5)):ah 248 #[a0,a1] w R:=
 cq ⟨[(6,⟨[(6,.int .i64),(0,.int .i64)],[],[]⟩),(2,⟨[(5,.int .i64),(0,.int .i64)],[],[]⟩)],[],[]⟩ Tryz.func248 h
end Go.Proofs.YtalpkjfpmdpbiaaGreatDoor
