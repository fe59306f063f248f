import Derived.Test.YtalpkjfpmdpbiaaGreatDoorGS
set_option linter.all false
namespace Go.Proofs.YtalpkjfpmdpbiaaGreatDoor
open Go Go.Vc Go.RowKit Go.Proofs
set_option maxRecDepth 100000
set_option maxHeartbeats 8000000
set_option linter.unusedVariables false
variable {R:Ending->World->Prop} {w:World} {a0 a1 a2 a3 a4 a5 a6 a7 a8 a9 aq ar au aI aJ aK aL aH bM eB ao aj aw dO ic jg jh ji gq gY dj dZ dU lg lO nm xO xP xQ xR xS xU xV xW xX xY xZ ya yb yc:Int}
def Rr.vc{aK:Sl}{aL:Sl}{aH:Sl}(h:
 Aw w #[aq,ar,au,aI,aJ,aK,aL,aH] 30 λw0=>
 Aw w0 #[ao,aj,aw] 23 λw1=>
 ah 50 #[.agg #[ao,aj,aw]] w1.drew (Xz λx3 x4 w2=>K2 w w0 w1.drew w2 (
 av w2 w 0 [aq,ar,au,aI,aJ,aK,aL,aH]/\ah 49 #[.agg #[aq,ar,au,aI,aJ,aK,aL,aH],.agg #[x3,x4]] w2 (Ri λx6 w5=>K2 w w0 w2 w5 (
 Br (x6<0)
 (R (Value.int .i64 (-1)) w5)
 (Br (aj<0)
 (R (1:Int) w5)
 (Br (aj>31)
 (R (0:Int) w5)
 (cB aH.a x6 aH.n/\bn (eQ (ae aH.a ((x6:Int).toNat*5))) (∃(x7 x8:Int)(s9:Sl),av w5.drew (ae (ae aH.a ((x6:Int).toNat*5)) 0) 0 [x7,x8,s9]/\
 ah 51 #[.agg #[x7,x8,s9],.agg #[ao,aj,aw]] w5.drew (Ri λbV bL=>K2 w w0 w5.drew bL (
 av bL (pd w 7) 0 [aH]/\R bV bL))))))))))):ah 22 #[.agg #[aq,ar,au,aI,aJ,aK,aL,aH],.agg #[ao,aj,aw]] w R:=
 cq cf Tryz.func22 h
def N7.vc(h:
 Aw w #[af,af,af,af,af,.slice none 0 0,.slice none 0 0,.slice none 0 0] 30 λw0=>
 ah 112 #[a2] w0 (λe w1=>∃(x2 x3 x4:Int)(s5 s6:Sl),e=Value.agg #[x2,x3,x4,s5,s6]/\Kp w w0 w1/\
 Sw w1 w #[a0,.int .i64 (if 16<(if 1>a1 then 1 else a1) then 16 else (if 1>a1 then 1 else a1)),x2,x3,x4,s5,s6,.slice none 0 0] λw7=>
 R (Value.agg #[a0,.int .i64 (if 16<(if 1>a1 then 1 else a1) then 16 else (if 1>a1 then 1 else a1)),x2,x3,x4,s5,s6,.slice none 0 0]) w7)):ah 68 #[a0,a1,a2] w R:=
 cq cf Tryz.func68 h
def zO.vc{aK:Sl}{aL:Sl}{aH:Sl}(h:
 Aw w #[aq,ar,au,aI,aJ,aK,aL,aH] 30 λw0=>
 Aw w0 #[ao,aj] 89 λw1=>
 Aw w1 #[af,af,af,af,af,.slice none 0 0,.slice none 0 0,.slice none 0 0] 30 λw2=>
 ah 76 #[.agg #[ao,aj]] w2 (Ri λx4 w3=>K3 w w0 w1 w2 w3 (
 Br (x4==0)
 (Sw w3 w1 #[aq,ar,au,aI,aJ,aK,aL,aH] λw5=>
 R (Value.tuple #[.agg #[aq,ar,au,aI,aJ,aK,aL,aH],(5:Int)]) w5)
 (ah 49 #[.agg #[aq,ar,au,aI,aJ,aK,aL,aH],.agg #[ao,aj]] w3 (Ri λx7 w6=>K3 w w0 w1 w3 w6 (
 Br (x7>=0)
 (cB aH.a x7 aH.n/\∃(x8 x9:Int)(cL:Sl)(Fo:Bool)(bT:Int),av w6 (ae aH.a ((x7:Int).toNat*5)) 0 [x8,x9,cL,Fo,bT]/\
 Aw w6 #[af,af,.slice none 0 0,false,af] 110 λcA=>
 Sw cA w6 #[x8,x9,cL,Fo,bT] λcm=>
 ah 78 #[.agg #[aq,ar,au,aI,aJ,aK,aL,aH],x7] cm.drew (λe cS=>∃(cY cP cn cN dK:Int)(jk vG B4:Sl),e=Value.agg #[cY,cP,cn,cN,dK,jk,vG,B4]/\K4 w w0 w1 w6 cm.drew cS (
 av cS (bu w6) 0 [x8,x9,cL,Fo,bT]/\ah 77 #[.agg #[cY,cP,cn,cN,dK,jk,vG,B4],.agg #[x8,x9,cL,Fo,bT]] cS (λe fu=>∃(cW dV dc eM iL:Int)(gP g9 iR:Sl),e=Value.agg #[cW,dV,dc,eM,iL,gP,g9,iR]/\K4 w w0 w1 w6 cS fu (
 Sw fu w1 #[cW,dV,dc,eM,iL,gP,g9,iR] λlz=>
 R (Value.tuple #[.agg #[cW,dV,dc,eM,iL,gP,g9,iR],(0:Int)]) lz)))))
 (Br (decide ((((aH.n:Nat):Int):Int)>=ar))
 (∃I34:Nat->Int->Int->World->Prop,
 (∃TG,aP [aq,ar,au,aI,aJ,aK,aL,aH]/\aP [ao,aj]/\aP [af,af,af,af,af,.slice none 0 0,.slice none 0 0,.slice none 0 0]/\I34 TG ((ai (((aH.n:Nat):Int)-1))) ((-1)) w6)/\
 ∀(TG:Nat)(aoS:Nat->Value)(gd ja:Int)(iP:World),I34 TG gd ja iP->
 Br (gd>=0)
 (cB aH.a gd aH.n/\bn (eQ (ae aH.a ((gd:Int).toNat*5))) (∃(kK:Int),ld iP (ae (ae aH.a ((gd:Int).toNat*5)) 4)=some (.int .i64 kK)/\
 Br (kK==0)
 (∃n40,n40<TG/\aP [aq,ar,au,aI,aJ,aK,aL,aH]/\aP [ao,aj]/\aP [af,af,af,af,af,.slice none 0 0,.slice none 0 0,.slice none 0 0]/\I34 n40 ((ai (gd-1))) gd iP)
 (∃n40,n40<TG/\aP [aq,ar,au,aI,aJ,aK,aL,aH]/\aP [ao,aj]/\aP [af,af,af,af,af,.slice none 0 0,.slice none 0 0,.slice none 0 0]/\I34 n40 ((ai (gd-1))) ja iP)))
 (Br (ja<0)
 (Sw iP w1 #[aq,ar,au,aI,aJ,aK,aL,aH] λnp=>
 R (Value.tuple #[.agg #[aq,ar,au,aI,aJ,aK,aL,aH],(8:Int)]) np)
 (ah 79 #[.agg #[aq,ar,au,aI,aJ,aK,aL,aH],ja] iP (λe pY=>∃(jF lj oY ma rW:Int)(yF MW FD:Sl)(wS:Int),e=Value.tuple #[.agg #[jF,lj,oY,ma,rW,yF,MW,FD],wS]/\K3 w w0 w1 iP pY (
 Aw pY #[af,af,af,af,af,.slice none 0 0,.slice none 0 0,.slice none 0 0] 30 λYa=>
 Sw Ya pY #[jF,lj,oY,ma,rW,yF,MW,FD] λye=>
 Br (wS !=0)
 (Sw ye w1 #[jF,lj,oY,ma,rW,yF,MW,FD] λA5=>
 R (Value.tuple #[.agg #[jF,lj,oY,ma,rW,yF,MW,FD],wS]) A5)
 (ah 78 #[.agg #[jF,lj,oY,ma,rW,yF,MW,FD],ja] ye (λe MX=>∃(uC oP wQ A6 pa:Int)(PH U2 E3:Sl),e=Value.agg #[uC,oP,wQ,A6,pa,PH,U2,E3]/\K4 w w0 w1 pY ye MX (
 Sw MX w #[uC,oP,wQ,A6,pa,PH,U2,E3] λJp=>
 ah 80 #[.agg #[wQ,A6,pa,PH,U2],x4] Jp (λe sy=>∃(EY:Sl)(yK:Int)(b69:Bool),e=Value.tuple #[EY,yK,b69]/\K4 w w0 w1 pY Jp sy (
 ah 81 #[.agg #[ao,aj],EY] sy (λe vI=>∃(rX qy:Int)(LG:Sl)(qc:Int),e=Value.tuple #[.agg #[rX,qy,LG],qc]/\K4 w w0 w1 pY sy vI (
 Aw vI #[af,af,.slice none 0 0] 108 λJj=>
 Sw Jj vI #[rX,qy,LG] λBu=>
 Br (qc !=0)
 (ah 82 #[uC,.agg #[ao,aj]] Bu (λe w77=>∃(x78 EZ:Int)(A7:Sl),e=Value.agg #[x78,EZ,A7]/\K5 w w0 w1 pY vI Bu w77 (
 Sw w77 vI #[x78,EZ,A7] λwT=>
 ah 77 #[.agg #[uC,oP,wQ,A6,pa,PH,U2,E3],.agg #[x78,EZ,A7,false,af]] wT (λe w82=>∃(wR MR MS x86 yL:Int)(s88 s89 s90:Sl),e=Value.agg #[wR,MR,MS,x86,yL,s88,s89,s90]/\K5 w w0 w1 pY vI wT w82 (
 Sw w82 w1 #[wR,MR,MS,x86,yL,s88,s89,s90] λTK=>
 R (Value.tuple #[.agg #[wR,MR,MS,x86,yL,s88,s89,s90],(0:Int)]) TK)))))
 (ah 77 #[.agg #[uC,oP,wQ,A6,pa,PH,U2,E3],.agg #[rX,qy,LG,false,af]] Bu (λe wU=>∃(MY Jq Dq B5 vF:Int)(WS IP vJ:Sl),e=Value.agg #[MY,Jq,Dq,B5,vF,WS,IP,vJ]/\K5 w w0 w1 pY vI Bu wU (
 Sw wU w1 #[MY,Jq,Dq,B5,vF,WS,IP,vJ] λB6=>
 R (Value.tuple #[.agg #[MY,Jq,Dq,B5,vF,WS,IP,vJ],(0:Int)]) B6)))))))))))))))
 (ah 80 #[.agg #[au,aI,aJ,aK,aL],x4] w6 (λe aay=>∃(adM:Sl)(uu:Int)(aiv:Bool),e=Value.tuple #[adM,uu,aiv]/\K3 w w0 w1 w6 aay (
 ah 81 #[.agg #[ao,aj],adM] aay (λe LH=>∃(vK PI:Int)(LI:Sl)(vL:Int),e=Value.tuple #[.agg #[vK,PI,LI],vL]/\K3 w w0 w1 aay LH (
 Aw LH #[af,af,.slice none 0 0] 108 λLJ=>
 Sw LJ LH #[vK,PI,LI] λWT=>
 Br (vL !=0)
 (ah 82 #[aq,.agg #[ao,aj]] WT (λe PJ=>∃(vM lk:Int)(PK:Sl),e=Value.agg #[vM,lk,PK]/\K4 w w0 w1 LH WT PJ (
 Sw PJ LH #[vM,lk,PK] λadN=>
 ah 77 #[.agg #[aq,ar,au,aI,aJ,aK,aL,aH],.agg #[vM,lk,PK,false,af]] adN (λe vN=>∃(uv PG yi B7 yj:Int)(aaz LK B8:Sl),e=Value.agg #[uv,PG,yi,B7,yj,aaz,LK,B8]/\K4 w w0 w1 LH adN vN (
 Sw vN w1 #[uv,PG,yi,B7,yj,aaz,LK,B8] λE4=>
 R (Value.tuple #[.agg #[uv,PG,yi,B7,yj,aaz,LK,B8],(0:Int)]) E4)))))
 (ah 77 #[.agg #[aq,ar,au,aI,aJ,aK,aL,aH],.agg #[vK,PI,LI,false,af]] WT (λe PL=>∃(PM PN E5 ou oZ:Int)(yk aaA E6:Sl),e=Value.agg #[PM,PN,E5,ou,oZ,yk,aaA,E6]/\K4 w w0 w1 LH WT PL (
 Sw PL w1 #[PM,PN,E5,ou,oZ,yk,aaA,E6] λPO=>
 R (Value.tuple #[.agg #[PM,PN,E5,ou,oZ,yk,aaA,E6],(0:Int)]) PO))))))))))))))):ah 39 #[.agg #[aq,ar,au,aI,aJ,aK,aL,aH],.agg #[ao,aj]] w R:=
 cq ⟨[(11,⟨[(10,.int .i64),(9,.int .i64)],[],[]⟩)],[],[]⟩ Tryz.func39 h
def D9.vc{aK:Sl}{aL:Sl}{aH:Sl}(h:
 Aw w #[aq,ar,au,aI,aJ,aK,aL,aH] 30 λw0=>
 Aw w0 #[ao,aj] 89 λw1=>
 Aw w1 #[af,af,af,af,af,.slice none 0 0,.slice none 0 0,.slice none 0 0] 30 λw2=>
 ah 49 #[.agg #[aq,ar,au,aI,aJ,aK,aL,aH],.agg #[ao,aj]] w2 (Ri λx4 w3=>K3 w w0 w1 w2 w3 (
 Br (x4<0)
 (Sw w3 w1 #[aq,ar,au,aI,aJ,aK,aL,aH] λw5=>
 R (Value.tuple #[.agg #[aq,ar,au,aI,aJ,aK,aL,aH],(6:Int)]) w5)
 (cB aH.a x4 aH.n/\bn (eQ (ae aH.a ((x4:Int).toNat*5))) (∃(x6:Int),ld w3 (ae (ae aH.a ((x4:Int).toNat*5)) 4)=some (.int .i64 x6)/\
 Br (x6>0)
 (Sw w3 w1 #[aq,ar,au,aI,aJ,aK,aL,aH] λw7=>
 R (Value.tuple #[.agg #[aq,ar,au,aI,aJ,aK,aL,aH],(10:Int)]) w7)
 (ah 79 #[.agg #[aq,ar,au,aI,aJ,aK,aL,aH],x4] w3 (λe w8=>∃(x9 br bV bT cD:Int)(sw jG kz:Sl)(cP:Int),e=Value.tuple #[.agg #[x9,br,bV,bT,cD,sw,jG,kz],cP]/\K3 w w0 w1 w3 w8 (
 Aw w8 #[af,af,af,af,af,.slice none 0 0,.slice none 0 0,.slice none 0 0] 30 λdJ=>
 Sw dJ w8 #[x9,br,bV,bT,cD,sw,jG,kz] λfD=>
 Br (cP !=0)
 (Sw fD w1 #[x9,br,bV,bT,cD,sw,jG,kz] λeC=>
 R (Value.tuple #[.agg #[x9,br,bV,bT,cD,sw,jG,kz],cP]) eC)
 (ah 78 #[.agg #[x9,br,bV,bT,cD,sw,jG,kz],x4] fD (λe ea=>∃(eY de di cW dV:Int)(lV sB mc:Sl),e=Value.agg #[eY,de,di,cW,dV,lV,sB,mc]/\K4 w w0 w1 w8 fD ea (
 Sw ea w1 #[eY,de,di,cW,dV,lV,sB,mc] λg8=>
 R (Value.tuple #[.agg #[eY,de,di,cW,dV,lV,sB,mc],(0:Int)]) g8))))))))))):ah 64 #[.agg #[aq,ar,au,aI,aJ,aK,aL,aH],.agg #[ao,aj]] w R:=
 cq cf Tryz.func64 h
def Ks.vc{aK:Sl}{aL:Sl}{aH:Sl}(h:
 Aw w #[aq,ar,au,aI,aJ,aK,aL,aH] 30 λw0=>
 Aw w0 #[ao,aj] 89 λw1=>
 ∃I2:Nat->Int->World->Prop,
 (∃n3,aP [aq,ar,au,aI,aJ,aK,aL,aH]/\aP [ao,aj]/\I2 n3 (0) w1)/\
 ∀(n3:Nat)(U3:Nat->Value)(x5:Int)(w6:World),I2 n3 x5 w6->
 Br (decide (x5<((aH.n:Nat):Int)))
 (cB aH.a x5 aH.n/\bn (eQ (ae aH.a ((x5:Int).toNat*5))) (bn (eQ (ae (ae aH.a ((x5:Int).toNat*5)) 0)) (∃(x8 x9:Int),av w6.drew (ae (ae (ae aH.a ((x5:Int).toNat*5)) 0) 0) 0 [x8,x9]/\
 Br ((x8==ao) &&(x9==aj))
 (R x5 w6.drew)
 (∃n7,n7<n3/\aP [aq,ar,au,aI,aJ,aK,aL,aH]/\aP [ao,aj]/\I2 n7 ((ai (x5+1))) w6.drew))))
 (R (Value.int .i64 (-1)) w6)):ah 49 #[.agg #[aq,ar,au,aI,aJ,aK,aL,aH],.agg #[ao,aj]] w R:=
 cq ⟨[(2,⟨[(5,.int .i64)],[],[]⟩)],[],[]⟩ Tryz.func49 h
def N8.vc(h:
 Aw w #[af,af,af,.slice none 0 0,.slice none 0 0] 27 λw0=>
 Sw w0 w #[.int .i64 (if 1048576<(if 0>a0 then 0 else a0) then 1048576 else (if 0>a0 then 0 else a0)),af,af,.slice none 0 0,.slice none 0 0] λw1=>
 R (Value.agg #[.int .i64 (if 1048576<(if 0>a0 then 0 else a0) then 1048576 else (if 0>a0 then 0 else a0)),af,af,.slice none 0 0,.slice none 0 0]) w1):ah 112 #[a0] w R:=
 cq cf Tryz.func112 h
def N9.vc{aK:Sl}{aL:Sl}{aH:Sl}(h:
 Aw w #[aq,ar,au,aI,aJ,aK,aL,aH] 30 λw0=>
 Aw w0 #[ao,aj,aw] 23 λw1=>
 Aw w1 #[af,af,af,af,af,.slice none 0 0,.slice none 0 0,.slice none 0 0] 30 λw2=>
 ah 50 #[.agg #[ao,aj,aw]] w2.drew (Xz λx4 x5 w3=>K3 w w0 w1 w2.drew w3 (
 av w3 w 0 [aq,ar,au,aI,aJ,aK,aL,aH]/\ah 49 #[.agg #[aq,ar,au,aI,aJ,aK,aL,aH],.agg #[x4,x5]] w3 (Ri λx7 w6=>K3 w w0 w1 w3 w6 (
 ah 146 #[a2] w6 (Rb λb9 w8=>K3 w w0 w1 w6 w8 (
 Br (x7<0)
 (Sw w8 w1 #[aq,ar,au,aI,aJ,aK,aL,aH] λbL=>
 R (Value.tuple #[.agg #[aq,ar,au,aI,aJ,aK,aL,aH],(11:Int)]) bL)
 (Br (aj<0)
 (Sw w8 w1 #[aq,ar,au,aI,aJ,aK,aL,aH] λcH=>
 R (Value.tuple #[.agg #[aq,ar,au,aI,aJ,aK,aL,aH],(5:Int)]) cH)
 (Br (aj>31)
 (Sw w8 w1 #[aq,ar,au,aI,aJ,aK,aL,aH] λbR=>
 R (Value.tuple #[.agg #[aq,ar,au,aI,aJ,aK,aL,aH],(5:Int)]) bR)
 (Br (!b9)
 (Sw w8 w1 #[aq,ar,au,aI,aJ,aK,aL,aH] λcA=>
 R (Value.tuple #[.agg #[aq,ar,au,aI,aJ,aK,aL,aH],(1:Int)]) cA)
 (cB aH.a x7 aH.n/\∃(cl bA:Int)(kz:Sl)(b17:Bool)(cn:Int),av w8 (ae aH.a ((x7:Int).toNat*5)) 0 [cl,bA,kz,b17,cn]/\
 Aw w8 #[af,af,.slice none 0 0,false,af] 110 λfD=>
 Sw fD w8 #[cl,bA,kz,b17,cn] λeC=>
 Br b17
 (Sw eC w8 #[cl,bA,kz,true,cn] λea=>
 ah 147 #[.agg #[cl,bA,kz],.agg #[ao,aj,aw],a2] ea (λe cx=>∃(de di:Int)(mb:Sl)(dV:Int),e=Value.tuple #[.agg #[de,di,mb],dV]/\K4 w w0 w1 w8 ea cx (
 Aw cx #[af,af,.slice none 0 0] 108 λjb=>
 Sw jb cx #[de,di,mb] λeI=>
 Sw eI w8 #[de,di,mb,true,cn] λfJ=>
 ah 78 #[.agg #[aq,ar,au,aI,aJ,aK,aL,aH],x7] fJ.drew (λe g8=>∃(iK jA gn fX jy:Int)(o4 E2 vO:Sl),e=Value.agg #[iK,jA,gn,fX,jy,o4,E2,vO]/\K5 w w0 w1 w8 cx fJ.drew g8 (
 av g8 (bu w8) 0 [de,di,mb,true,cn]/\ah 77 #[.agg #[iK,jA,gn,fX,jy,o4,E2,vO],.agg #[de,di,mb,true,cn]] g8 (λe iP=>∃(nz kK lU ky jF:Int)(AY LD uj:Sl),e=Value.agg #[nz,kK,lU,ky,jF,AY,LD,uj]/\K5 w w0 w1 w8 cx g8 iP (
 Sw iP w1 #[nz,kK,lU,ky,jF,AY,LD,uj] λuh=>
 R (Value.tuple #[.agg #[nz,kK,lU,ky,jF,AY,LD,uj],(0:Int)]) uh)))))))
 (ah 51 #[.agg #[cl,bA,kz],.agg #[ao,aj,aw]] eC (Ri λB9 Bq=>K4 w w0 w1 w8 eC Bq (
 Sw Bq w8 #[cl,bA,kz,.bool (B9 !=a2),cn] λw51=>
 ah 147 #[.agg #[cl,bA,kz],.agg #[ao,aj,aw],a2] w51 (λe Jr=>∃(uk wW:Int)(E7:Sl)(Dp:Int),e=Value.tuple #[.agg #[uk,wW,E7],Dp]/\K4 w w0 w1 w8 w51 Jr (
 Aw Jr #[af,af,.slice none 0 0] 108 λU4=>
 Sw U4 Jr #[uk,wW,E7] λA8=>
 Sw A8 w8 #[uk,wW,E7,.bool (B9 !=a2),cn] λWU=>
 ah 78 #[.agg #[aq,ar,au,aI,aJ,aK,aL,aH],x7] WU.drew (λe Bo=>∃(pa B3 lQ E8 wX:Int)(s66 EY s68:Sl),e=Value.agg #[pa,B3,lQ,E8,wX,s66,EY,s68]/\K5 w w0 w1 w8 Jr WU.drew Bo (
 av Bo (bu w8) 0 [uk,wW,E7,.bool (B9 !=a2),cn]/\ah 77 #[.agg #[pa,B3,lQ,E8,wX,s66,EY,s68],.agg #[uk,wW,E7,.bool (B9 !=a2),cn]] Bo (λe lA=>∃(jB rX qy re qc:Int)(yl IQ Ds:Sl),e=Value.agg #[jB,rX,qy,re,qc,yl,IQ,Ds]/\K5 w w0 w1 w8 Jr Bo lA (
 Sw lA w1 #[jB,rX,qy,re,qc,yl,IQ,Ds] λw78=>
 R (Value.tuple #[.agg #[jB,rX,qy,re,qc,yl,IQ,Ds],(0:Int)]) w78)))))))))))))))))))):ah 99 #[.agg #[aq,ar,au,aI,aJ,aK,aL,aH],.agg #[ao,aj,aw],a2] w R:=
 cq cf Tryz.func99 h
def Kl.vc{aI:Sl}{aJ:Sl}{a2:Sl}(h:
 Aw w #[aq,ar,au,aI,aJ] 27 λw0=>
 Aw w0 #[af,af,af,.slice none 0 0,.slice none 0 0] 27 λw1=>
 Br (a1<0)
 (Sw w1 w0 #[aq,ar,au,aI,aJ] λw2=>
 R (Value.tuple #[.agg #[aq,ar,au,aI,aJ],(1:Int)]) w2)
 (Br (a1>1099511627776)
 (Sw w1 w0 #[aq,ar,au,aI,aJ] λw3=>
 R (Value.tuple #[.agg #[aq,ar,au,aI,aJ],(1:Int)]) w3)
 (ah 125 #[.agg #[aq,ar,au,aI,aJ],a1] w1 (λe w4=>∃(x5 x6:Int)(s7:Sl),e=Value.tuple #[x5,x6,s7]/\K2 w w0 w1 w4 (
 ah 168 #[(ai (x6+1)),a2] w4 (λe w8=>∃(s9:Sl)(br:Int),e=Value.tuple #[s9,br]/\K2 w w0 w4 w8 (
 Br (br !=0)
 (Sw w8 w0 #[aq,ar,au,aI,aJ] λcH=>
 R (Value.tuple #[.agg #[aq,ar,au,aI,aJ],br]) cH)
 (ah 169 #[.agg #[aq,ar,au,aI,aJ],(ai ((ai ((ai (4*a1))+1))-x5)),s9] w8 (λe bR=>∃(cD cl bA:Int)(kz gZ:Sl)(cn:Int),e=Value.tuple #[.agg #[cD,cl,bA,kz,gZ],cn]/\K2 w w0 w8 bR (
 Aw bR #[af,af,af,.slice none 0 0,.slice none 0 0] 27 λfD=>
 Sw fD bR #[cD,cl,bA,kz,gZ] λeC=>
 Br (cn !=0)
 (Sw eC w0 #[cD,cl,bA,kz,gZ] λea=>
 R (Value.tuple #[.agg #[cD,cl,bA,kz,gZ],cn]) ea)
 (ah 170 #[.agg #[cD,cl,bA,kz,gZ]] eC (λe cx=>∃(de di cW:Int)(vH lV:Sl)(eM:Int),e=Value.tuple #[.agg #[de,di,cW,vH,lV],eM]/\K3 w w0 bR eC cx (
 Sw cx w0 #[de,di,cW,vH,lV] λfJ=>
 R (Value.tuple #[.agg #[de,di,cW,vH,lV],eM]) fJ))))))))))))):ah 123 #[.agg #[aq,ar,au,aI,aJ],a1,a2] w R:=
 cq cf Tryz.func123 h
def Kk.vc{aI:Sl}{aJ:Sl}(h:
 Aw w #[aq,ar,au,aI,aJ] 27 λw0=>
 Br (a1<0)
 (R (Value.tuple #[.slice none 0 0,af,false]) w0)
 (Br (a1>1099511627776)
 (R (Value.tuple #[.slice none 0 0,af,false]) w0)
 (ah 125 #[.agg #[aq,ar,au,aI,aJ],a1] w0 (λe w1=>∃(x2 x3:Int)(s4:Sl),e=Value.tuple #[x2,x3,s4]/\Kp w w0 w1/\
 R (Value.tuple #[s4,x3,.bool (decide (x3>0))]) w1)))):ah 80 #[.agg #[aq,ar,au,aI,aJ],a1] w R:=
 cq cf Tryz.func80 h
def Kt.vc{aK:Sl}{aL:Sl}{aH:Sl}{aw:Sl}{dO:Bool}(h:
 Aw w #[aq,ar,au,aI,aJ,aK,aL,aH] 30 λw0=>
 Aw w0 #[ao,aj,aw,dO,ic] 110 λw1=>
 Aw w1 #[af,af,af,af,af,.slice none 0 0,.slice none 0 0,.slice none 0 0] 30 λw2=>
 ∃l3:LV,Rd w2 aH.a l3/\aF 56 5 w2 ⟨none,0,0⟩ aH.n l3/\∀(s4:Sl)(w5:World),aD 110 5 w2 ⟨none,0,0⟩ aH.n l3 s4 w5->K3 w w0 w1 w2 w5 (
 Aw w5 #[ao,aj,aw,dO,ic] 110 λw6=>
 aF 56 5 w6 s4 1 [ao,aj,aw,dO,ic]/\∀(s7:Sl)(w8:World),aD 110 5 w6 s4 1 [ao,aj,aw,dO,ic] s7 w8->K4 w w0 w1 w5 w6 w8 (
 Sw w8 w #[aq,ar,au,aI,aJ,aK,aL,s7] λw9=>
 Sw w9 w1 #[aq,ar,au,aI,aJ,aK,aL,s7] λbL=>
 R (Value.agg #[aq,ar,au,aI,aJ,aK,aL,s7]) bL))):ah 77 #[.agg #[aq,ar,au,aI,aJ,aK,aL,aH],.agg #[ao,aj,aw,dO,ic]] w R:=
 cq cf Tryz.func77 h
def BI.vc{aK:Sl}{aL:Sl}{aH:Sl}(h:
 Aw w #[aq,ar,au,aI,aJ,aK,aL,aH] 30 λw0=>
 Aw w0 #[af,af,af,af,af,.slice none 0 0,.slice none 0 0,.slice none 0 0] 30 λw1=>
 (0:Int)<=a1/\a1<=((aH.c:Nat):Int)/\∃l2:LV,Rd w1 (aA aH.a (0) (aH.c) 5) l2/\aF 56 5 w1 ⟨none,0,0⟩ ((a1:Int).toNat-0) l2/\∀(s3:Sl)(w4:World),aD 110 5 w1 ⟨none,0,0⟩ ((a1:Int).toNat-0) l2 s3 w4->K2 w w0 w1 w4 (
 (0:Int)<=(ai (a1+1))/\(ai (a1+1))<=((aH.n:Nat):Int)/\∃l5:LV,Rd w4 (aA aH.a (((ai (a1+1)):Int).toNat) (aH.c) 5) l5/\aF 56 5 w4 s3 (aH.n-((ai (a1+1)):Int).toNat) l5/\∀(s6:Sl)(w7:World),aD 110 5 w4 s3 (aH.n-((ai (a1+1)):Int).toNat) l5 s6 w7->K2 w w0 w4 w7 (
 Sw w7 w #[aq,ar,au,aI,aJ,aK,aL,s6] λw8=>
 Sw w8 w0 #[aq,ar,au,aI,aJ,aK,aL,s6] λw9=>
 R (Value.agg #[aq,ar,au,aI,aJ,aK,aL,s6]) w9))):ah 78 #[.agg #[aq,ar,au,aI,aJ,aK,aL,aH],a1] w R:=
 cq cf Tryz.func78 h
def Ku.vc{aK:Sl}{aL:Sl}{aH:Sl}(h:
 Aw w #[aq,ar,au,aI,aJ,aK,aL,aH] 30 λw0=>
 Aw w0 #[af,af,af,af,af,.slice none 0 0,.slice none 0 0,.slice none 0 0] 30 λw1=>
 cB aH.a a1 aH.n/\∃(x2 x3:Int)(s4:Sl)(b5:Bool)(x6:Int),av w1 (ae aH.a ((a1:Int).toNat*5)) 0 [x2,x3,s4,b5,x6]/\
 Aw w1 #[af,af,.slice none 0 0,false,af] 110 λw7=>
 Sw w7 w1 #[x2,x3,s4,b5,x6] λw8=>
 Br (!b5)
 (Sw w8 w0 #[aq,ar,au,aI,aJ,aK,aL,aH] λw9=>
 R (Value.tuple #[.agg #[aq,ar,au,aI,aJ,aK,aL,aH],(0:Int)]) w9)
 (ah 122 #[s4] w8 (λe bL=>∃(eJ:Sl)(bT:Int),e=Value.tuple #[eJ,bT]/\K3 w w0 w1 w8 bL (
 (ah 76 #[.agg #[x2,x3]] bL.drew (Ri λcl cA=>K3 w w0 w1 bL.drew cA (
 av cA (pd w 2) 0 [au,aI,aJ,aK,aL]/\(ah 123 #[.agg #[au,aI,aJ,aK,aL],cl,eJ] cA (λe cS=>∃(cY cP cn:Int)(oW rZ:Sl)(fW:Int),e=Value.tuple #[.agg #[cY,cP,cn,oW,rZ],fW]/\K3 w w0 w1 cA cS (
 Aw cS #[af,af,af,.slice none 0 0,.slice none 0 0] 27 λcx=>
 Sw cx cS #[cY,cP,cn,oW,rZ] λgi=>
 Sw gi w #[aq,ar,cY,cP,cn,oW,rZ,aH] λfu=>
 Sw fu w1 #[x2,x3,s4,.bool (fW !=0),x6] λeg=>
 ah 124 #[.agg #[aq,ar,cY,cP,cn,oW,rZ,aH],a1,.agg #[x2,x3,s4,.bool (fW !=0),x6]] eg (λe g7=>∃(dc eM iL oL iK:Int)(iR Js U5:Sl),e=Value.agg #[dc,eM,iL,oL,iK,iR,Js,U5]/\K4 w w0 w1 cS eg g7 (
 Sw g7 w0 #[dc,eM,iL,oL,iK,iR,Js,U5] λwP=>
 R (Value.tuple #[.agg #[dc,eM,iL,oL,iK,iR,Js,U5],fW]) wP)))))/\(Aw cA #[af,af,af,.slice none 0 0,.slice none 0 0] 27 λnv=>
 ah 123 #[.agg #[au,aI,aJ,aK,aL],cl,eJ] nv (λe jj=>∃(ja kq nz:Int)(s41 nA:Sl)(ky:Int),e=Value.tuple #[.agg #[ja,kq,nz,s41,nA],ky]/\K4 w w0 w1 cA nv jj (
 Sw jj cA #[ja,kq,nz,s41,nA] λjz=>
 Sw jz w #[aq,ar,ja,kq,nz,s41,nA,aH] λDr=>
 Sw Dr w1 #[x2,x3,s4,.bool (ky !=0),x6] λDn=>
 ah 124 #[.agg #[aq,ar,ja,kq,nz,s41,nA,aH],a1,.agg #[x2,x3,s4,.bool (ky !=0),x6]] Dn (λe oO=>∃(rW jY B9 U6 wS:Int)(WV Bn E7:Sl),e=Value.agg #[rW,jY,B9,U6,wS,WV,Bn,E7]/\K4 w w0 w1 cA Dn oO (
 Sw oO w0 #[rW,jY,B9,U6,wS,WV,Bn,E7] λMX=>
 R (Value.tuple #[.agg #[rW,jY,B9,U6,wS,WV,Bn,E7],ky]) MX))))))))/\(Aw bL.drew #[af,af,af,.slice none 0 0,.slice none 0 0] 27 λU4=>
 ah 76 #[.agg #[x2,x3]] U4 (Ri λwQ A8=>K3 w w0 w1 U4 A8 (
 A8.heap[bL.drew.heap.size]? =U4.heap[bL.drew.heap.size]?/\
 av A8 (pd w 2) 0 [au,aI,aJ,aK,aL]/\ah 123 #[.agg #[au,aI,aJ,aK,aL],wQ,eJ] A8 (λe Bo=>∃(pa B3 lQ:Int)(E3 TL:Sl)(lP:Int),e=Value.tuple #[.agg #[pa,B3,lQ,E3,TL],lP]/\K3 w w0 w1 A8 Bo (
 Bo.heap[bL.drew.heap.size]? =A8.heap[bL.drew.heap.size]?/\
 Sw Bo bL.drew.heap.size #[pa,B3,lQ,E3,TL] λum=>
 Sw um w #[aq,ar,pa,B3,lQ,E3,TL,aH] λJh=>
 Sw Jh w1 #[x2,x3,s4,.bool (lP !=0),x6] λlA=>
 ah 124 #[.agg #[aq,ar,pa,B3,lQ,E3,TL,aH],a1,.agg #[x2,x3,s4,.bool (lP !=0),x6]] lA (λe vI=>∃(rX qy re qc x75:Int)(IQ Ds uE:Sl),e=Value.agg #[rX,qy,re,qc,x75,IQ,Ds,uE]/\K3 w w0 w1 lA vI (
 vI.heap[bL.drew.heap.size]? =lA.heap[bL.drew.heap.size]?/\
 Sw vI w0 #[rX,qy,re,qc,x75,IQ,Ds,uE] λw79=>
 R (Value.tuple #[.agg #[rX,qy,re,qc,x75,IQ,Ds,uE],lP]) w79))))))))))):ah 79 #[.agg #[aq,ar,au,aI,aJ,aK,aL,aH],a1] w R:=
 cq cf Tryz.func79 h
def Kv.vc{aK:Sl}{aL:Sl}{aH:Sl}{dU:Sl}{lg:Bool}(h:
 Aw w #[aq,ar,au,aI,aJ,aK,aL,aH] 30 λw0=>
 Aw w0 #[dj,dZ,dU,lg,lO] 110 λw1=>
 Aw w1 #[af,af,af,af,af,.slice none 0 0,.slice none 0 0,.slice none 0 0] 30 λw2=>
 ∃l3:LV,Rd w2 aH.a l3/\aF 56 5 w2 ⟨none,0,0⟩ aH.n l3/\∀(s4:Sl)(w5:World),aD 110 5 w2 ⟨none,0,0⟩ aH.n l3 s4 w5->K3 w w0 w1 w2 w5 (
 cB s4.a a1 s4.n/\(((ae s4.a ((a1:Int).toNat*5))).isSome=true/\Wr w5 (ae s4.a ((a1:Int).toNat*5)) 5)/\cQ (ae s4.a ((a1:Int).toNat*5))≠some w.heap.size/\cQ (ae s4.a ((a1:Int).toNat*5))≠some w0.heap.size/\cQ (ae s4.a ((a1:Int).toNat*5))≠some w1.heap.size/\(∀w6,w6=aZ w5 (ae s4.a ((a1:Int).toNat*5)) [dj,dZ,dU,lg,lO]->
 Sw w6 w #[aq,ar,au,aI,aJ,aK,aL,s4] λw7=>
 Sw w7 w1 #[aq,ar,au,aI,aJ,aK,aL,s4] λw8=>
 R (Value.agg #[aq,ar,au,aI,aJ,aK,aL,s4]) w8))):ah 124 #[.agg #[aq,ar,au,aI,aJ,aK,aL,aH],a1,.agg #[dj,dZ,dU,lg,lO]] w R:=
 cq cf Tryz.func124 h
def Rl.vc{aI:Sl}{aJ:Sl}(h:
 Aw w #[aq,ar,au,aI,aJ] 27 λw0=>
 ah 171 #[.agg #[aq,ar,au,aI,aJ],(ai (2*a1))] w0 (λe w1=>∃(s2:Sl)(b3:Bool),e=Value.tuple #[s2,b3]/\Kp w w0 w1/\
 ah 171 #[.agg #[aq,ar,au,aI,aJ],(ai ((ai (2*a1))+1))] w1 (λe w4=>∃(s5:Sl)(b6:Bool),e=Value.tuple #[s5,b6]/\Kp w w1 w4/\
 ah 172 #[s2] w4 (λe w7=>∃(x8:Int)(s9:Sl)(br:Int),e=Value.tuple #[x8,s9,br]/\Kp w w4 w7/\
 ah 172 #[s5] w7 (λe cH=>∃(bT:Int)(gf:Sl)(cl:Int),e=Value.tuple #[bT,gf,cl]/\Kp w w7 cH/\
 Br (br !=0)
 (Br (cl !=0)
 (R (Value.tuple #[(ai ((ai (2*a1))+1)),af,.slice none 0 0]) cH)
 (Br (cl !=0)
 (R (Value.tuple #[(ai (2*a1)),x8,s9]) cH)
 (Br (br==0)
 (Br (x8>=bT)
 (R (Value.tuple #[(ai (2*a1)),x8,s9]) cH)
 (R (Value.tuple #[(ai ((ai (2*a1))+1)),bT,gf]) cH))
 (R (Value.tuple #[(ai ((ai (2*a1))+1)),bT,gf]) cH))))
 (Br (cl !=0)
 (R (Value.tuple #[(ai (2*a1)),x8,s9]) cH)
 (Br (br==0)
 (Br (x8>=bT)
 (R (Value.tuple #[(ai (2*a1)),x8,s9]) cH)
 (R (Value.tuple #[(ai ((ai (2*a1))+1)),bT,gf]) cH))
 (R (Value.tuple #[(ai ((ai (2*a1))+1)),bT,gf]) cH)))))))):ah 125 #[.agg #[aq,ar,au,aI,aJ],a1] w R:=
 cq cf Tryz.func125 h
def G6.vc{a1:Sl}(h:
 Br (a0<1)
 (R (Value.tuple #[.slice none 0 0,(1:Int)]) w)
 (Br (a0>1073741824)
 (R (Value.tuple #[.slice none 0 0,(1:Int)]) w)
 (Br (decide ((((a1.n:Nat):Int):Int)>65536))
 (R (Value.tuple #[.slice none 0 0,(1:Int)]) w)
 (ah 211 #[a0,(4:Int)] w (λe w0=>∃(s1:Sl),e=s1/\
 ah 211 #[((a1.n:Nat):Int),(3:Int)] w0 (λe w2=>∃(s3:Sl),e=s3/\
 ∃l4:LV,Rd w2 s3.a l4/\aF 1 1 w2 s1 s3.n l4/\∀(s5:Sl)(w6:World),aD 5 1 w2 s1 s3.n l4 s5 w6->
 ∃l7:LV,Rd w6 a1.a l7/\aF 1 1 w6 s5 a1.n l7/\∀(s8:Sl)(w9:World),aD 5 1 w6 s5 a1.n l7 s8 w9->
 ah 212 #[s8] w9 (λe bL=>∃(eJ:Sl),e=eJ/\
 R (Value.tuple #[eJ,af]) bL))))))):ah 168 #[a0,a1] w R:=
 cq cf Tryz.func168 h
def Oa.vc{aI:Sl}{aJ:Sl}{a2:Sl}(h:
 Aw w #[aq,ar,au,aI,aJ] 27 λw0=>
 Aw w0 #[af,af,af,.slice none 0 0,.slice none 0 0] 27 λw1=>
 ah 213 #[.agg #[aq,ar,au,aI,aJ]] w1 (λe w2=>∃(x3 x4 x5:Int)(s6 s7:Sl)(b8:Bool),e=Value.tuple #[.agg #[x3,x4,x5,s6,s7],b8]/\K2 w w0 w1 w2 (
 Sw w2 w #[x3,x4,x5,s6,s7] λw9=>
 Br b8
 (Sw w9 w0 #[x3,x4,x5,s6,s7] λbL=>
 R (Value.tuple #[.agg #[x3,x4,x5,s6,s7],(9:Int)]) bL)
 (Aw w9 #[af,.slice none 0 0] 274 λcH=>
 Sw cH w9 #[a1,a2] λbR=>
 ah 216 #[.agg #[x3,x4,x5,s6,s7]] bR.drew (Rs λsw cA=>K3 w w0 w9 bR.drew cA (
 av cA w 0 [x3]/\av cA (bu w9) 0 [a1,a2]/\ah 215 #[sw,.agg #[a1,a2]] cA (Rs λkz cS=>K3 w w0 w9 cA cS (
 av cS w 0 [x3]/\ah 214 #[kz] cS (Ri λcn cC=>K3 w w0 w9 cS cC (
 av cC w 0 [x3]/\Br (cn>x3)
 (Sw cC w0 #[x3,x4,x5,s6,s7] λfD=>
 R (Value.tuple #[.agg #[x3,x4,x5,s6,s7],(8:Int)]) fD)
 (∃l20:LV,Rd cC s7.a l20/\aF 32 2 cC ⟨none,0,0⟩ s7.n l20/\∀(jk:Sl)(cx:World),aD 274 2 cC ⟨none,0,0⟩ s7.n l20 jk cx->K3 w w0 w9 cC cx (
 Aw cx #[a1,a2] 274 λgi=>
 aF 32 2 gi jk 1 [a1,a2]/\∀(kL:Sl)(eg:World),aD 274 2 gi jk 1 [a1,a2] kL eg->K4 w w0 w9 cx gi eg (
 Sw eg w #[x3,x4,x5,s6,kL] λg7=>
 Sw g7 w0 #[x3,x4,x5,s6,kL] λjb=>
 R (Value.tuple #[.agg #[x3,x4,x5,s6,kL],(0:Int)]) jb))))))))))))):ah 169 #[.agg #[aq,ar,au,aI,aJ],a1,a2] w R:=
 cq cf Tryz.func169 h
def Kw.vc{aI:Sl}{aJ:Sl}(h:
 Aw w #[aq,ar,au,aI,aJ] 27 λw0=>
 Aw w0 #[af,af,af,.slice none 0 0,.slice none 0 0] 27 λw1=>
 ah 213 #[.agg #[aq,ar,au,aI,aJ]] w1 (λe w2=>∃(x3 x4 x5:Int)(s6 s7:Sl)(b8:Bool),e=Value.tuple #[.agg #[x3,x4,x5,s6,s7],b8]/\K2 w w0 w1 w2 (
 Sw w2 w #[x3,x4,x5,s6,s7] λw9=>
 Br b8
 (Sw w9 w0 #[x3,x4,x5,s6,s7] λbL=>
 R (Value.tuple #[.agg #[x3,x4,x5,s6,s7],(9:Int)]) bL)
 (ah 216 #[.agg #[x3,x4,x5,s6,s7]] w9 (Rs λeH cH=>K2 w w0 w9 cH (
 Sw cH w #[x3,x4,x5,eH,s7] λcA=>
 Sw cA w #[x3,x4,x5,eH,.slice none 0 0] λcm=>
 Sw cm w0 #[x3,x4,x5,eH,.slice none 0 0] λcS=>
 R (Value.tuple #[.agg #[x3,x4,x5,eH,.slice none 0 0],(0:Int)]) cS)))))):ah 170 #[.agg #[aq,ar,au,aI,aJ]] w R:=
 cq cf Tryz.func170 h
def Ob.vc{aI:Sl}{aJ:Sl}(h:
 Aw w #[aq,ar,au,aI,aJ] 27 λw0=>
 ah 216 #[.agg #[aq,ar,au,aI,aJ]] w0 (Rs λs2 w1=>Kp w w0 w1/\
 ∃I3:Nat->Int->World->Prop,
 (∃n4,aP [aq,ar,au,aI,aJ]/\I3 n4 (0) w1)/\
 ∀(n4:Nat)(us5:Nat->Value)(x6:Int)(w7:World),I3 n4 x6 w7->
 Br (decide (x6<((s2.n:Nat):Int)))
 (cB s2.a x6 s2.n/\bn (eQ (ae s2.a ((x6:Int).toNat*2))) (∃(x9:Int),ld w7 (ae (ae s2.a ((x6:Int).toNat*2)) 0)=some (.int .i64 x9)/\
 Br (x9==a1)
 (cB s2.a x6 s2.n/\bn (eQ (ae s2.a ((x6:Int).toNat*2))) (∃(cL:Sl),ld w7 (ae (ae s2.a ((x6:Int).toNat*2)) 1)=some (.slice cL.a cL.n cL.c)/\
 R (Value.tuple #[cL,true]) w7))
 (∃n8,n8<n4/\aP [aq,ar,au,aI,aJ]/\I3 n8 ((ai (x6+1))) w7)))
 (R (Value.tuple #[.slice none 0 0,false]) w7))):ah 171 #[.agg #[aq,ar,au,aI,aJ],a1] w R:=
 cq ⟨[(3,⟨[(7,.int .i64)],[],[]⟩)],[],[]⟩ Tryz.func171 h
def Kx.vc{a0:Sl}(h:
 ah 217 #[a0] w (λe w0=>∃(s1:Sl)(x2:Int),e=Value.tuple #[s1,x2]/\
 Br (x2 !=0)
 (R (Value.tuple #[af,.slice none 0 0,x2]) w0)
 (Br (decide ((((s1.n:Nat):Int):Int)<7))
 (R (Value.tuple #[af,.slice none 0 0,(3:Int)]) w0)
 ((0:Int)<=4/\4<=((s1.c:Nat):Int)/\ah 218 #[.slice (aA s1.a (0) (s1.c) 1) ((4:Int).toNat-0) (s1.c-0)] w0 (λe w3=>∃(x4:Int),e=x4/\
 (0:Int)<=7/\7<=((s1.c:Nat):Int)/\(0:Int)<=4/\(4:Int)<=7/\ah 218 #[.slice (aA s1.a ((4:Int).toNat) (s1.c) 1) ((7:Int).toNat-(4:Int).toNat) (s1.c-(4:Int).toNat)] w3 (λe w5=>∃(x6:Int),e=x6/\
 Br (x4<1)
 (R (Value.tuple #[af,.slice none 0 0,(2:Int)]) w5)
 (Br (x4>1073741824)
 (R (Value.tuple #[af,.slice none 0 0,(2:Int)]) w5)
 (Br (x6>65536)
 (R (Value.tuple #[af,.slice none 0 0,(2:Int)]) w5)
 (Br (x6 !=(ai (((s1.n:Nat):Int)-7)))
 (R (Value.tuple #[af,.slice none 0 0,(2:Int)]) w5)
 ((0:Int)<=7/\7<=((s1.n:Nat):Int)/\R (Value.tuple #[x4,.slice (aA s1.a ((7:Int).toNat) (s1.c) 1) (s1.n-(7:Int).toNat) (s1.c-(7:Int).toNat),af]) w5.drew)))))))))):ah 172 #[a0] w R:=
 cq cf Tryz.func172 h
def Ea.vc(h:
 ∃I0:Nat->Int->Int->World->Prop,
 (∃n1,I0 n1 (1) (1) w)/\
 ∀(n1:Nat)(oX:Nat->Value)(x3 x4:Int)(w5:World),I0 n1 x3 x4 w5->
 Br (x3<a1)
 (∃n6,n6<n1/\I0 n6 ((ai (x3+1))) ((ai (x4*256))) w5)
 (∃I7:Nat->Int->Sl->Int->World->Prop,
 (∃n8,I7 n8 (0) ⟨none,0,0⟩ (x4) w5)/\
 ∀(n8:Nat)(us9:Nat->Value)(br:Int)(eJ:Sl)(bT:Int)(cA:World),I7 n8 br eJ bT cA->
 Br (br<a1)
 (bn (Na bT) (Aw cA #[.int .u8 (me (Int.tmod (ai (Int.tdiv a0 bT)) 256))] 5 λcS=>
 aF 1 1 cS eJ 1 [.int .u8 (me (Int.tmod (ai (Int.tdiv a0 bT)) 256))]/\∀(kz:Sl)(cC:World),aD 5 1 cS eJ 1 [.int .u8 (me (Int.tmod (ai (Int.tdiv a0 bT)) 256))] kz cC->Kp cA cS cC/\
 ∃MV,MV<n8/\I7 MV ((ai (br+1))) kz ((ai (Int.tdiv bT 256))) cC))
 (R eJ cA))):ah 211 #[a0,a1] w R:=
 cq ⟨[(8,⟨[(8,.int .i64),(5,.slice),(6,.int .i64)],[],[]⟩),(4,⟨[(7,.int .i64),(6,.int .i64)],[],[]⟩)],[],[]⟩ Tryz.func211 h
def Od.vc{a0:Sl}(h:
 ah 240 #[a0] w (λe w0=>∃(x1:Int),e=x1/\
 ∃l2:LV,Rd w0 a0.a l2/\aF 1 1 w0 ⟨none,0,0⟩ a0.n l2/\∀(s3:Sl)(w4:World),aD 5 1 w0 ⟨none,0,0⟩ a0.n l2 s3 w4->
 Aw w4 #[.int .u8 (me (ai (Int.tdiv x1 256))),.int .u8 (me (Int.tmod x1 256))] 5 λw5=>
 aF 1 1 w5 s3 2 [.int .u8 (me (ai (Int.tdiv x1 256))),.int .u8 (me (Int.tmod x1 256))]/\∀(s6:Sl)(w7:World),aD 5 1 w5 s3 2 [.int .u8 (me (ai (Int.tdiv x1 256))),.int .u8 (me (Int.tmod x1 256))] s6 w7->Kp w4 w5 w7/\
 R s6 w7)):ah 212 #[a0] w R:=
 cq cf Tryz.func212 h
def G8.vc{aI:Sl}{aJ:Sl}(h:
 Aw w #[aq,ar,au,aI,aJ] 27 λw0=>
 Aw w0 #[af,af,af,.slice none 0 0,.slice none 0 0] 27 λw1=>
 Br (au>0)
 (Sw w1 w #[aq,ar,af,aI,aJ] λw2=>
 Sw w2 w0 #[aq,ar,af,aI,aJ] λw3=>
 R (Value.tuple #[.agg #[aq,ar,af,aI,aJ],false]) w3)
 (Br (ar>0)
 (Sw w1 w #[aq,(ai (ar-1)),au,aI,aJ] λw4=>
 Sw w4 w0 #[aq,(ai (ar-1)),au,aI,aJ] λw5=>
 R (Value.tuple #[.agg #[aq,(ai (ar-1)),au,aI,aJ],true]) w5)
 (Sw w1 w0 #[aq,ar,au,aI,aJ] λw6=>
 R (Value.tuple #[.agg #[aq,ar,au,aI,aJ],false]) w6))):ah 213 #[.agg #[aq,ar,au,aI,aJ]] w R:=
 cq cf Tryz.func213 h
def Oe.vc{a0:Sl}(h:
 ∃I0:Nat->Int->Int->World->Prop,
 (∃n1,I0 n1 (0) (0) w)/\
 ∀(n1:Nat)(oX:Nat->Value)(x3 x4:Int)(w5:World),I0 n1 x3 x4 w5->
 Br (decide (x3<((a0.n:Nat):Int)))
 (cB a0.a x3 a0.n/\bn (eQ (ae a0.a ((x3:Int).toNat*2))) (∃(s7:Sl),ld w5 (ae (ae a0.a ((x3:Int).toNat*2)) 1)=some (.slice s7.a s7.n s7.c)/\
 ∃n6,n6<n1/\I0 n6 ((ai (x3+1))) ((ai (x4+((s7.n:Nat):Int)))) w5))
 (R x4 w5)):ah 214 #[a0] w R:=
 cq ⟨[(3,⟨[(4,.int .i64),(3,.int .i64)],[],[]⟩)],[],[]⟩ Tryz.func214 h
def Of.vc{a0:Sl}{aj:Sl}(h:
 Aw w #[ao,aj] 274 λw0=>
 ∃I1:Nat->Int->Bool->Sl->World->Prop,
 (∃n2,aP [ao,aj]/\I1 n2 (0) false ⟨none,0,0⟩ w0)/\
 ∀(n2:Nat)(Ww:Nat->Value)(x4:Int)(b5:Bool)(s6:Sl)(w7:World),I1 n2 x4 b5 s6 w7->
 Br (decide (x4<((a0.n:Nat):Int)))
 (Br (!b5)
 (cB a0.a x4 a0.n/\bn (eQ (ae a0.a ((x4:Int).toNat*2))) (∃(x9:Int),ld w7.drew (ae (ae a0.a ((x4:Int).toNat*2)) 0)=some (.int .i64 x9)/\
 Br (x9>=ao)
 (Aw w7.drew #[ao,aj] 274 λbL=>
 aF 32 2 bL s6 1 [ao,aj]/\∀(eJ:Sl)(bR:World),aD 274 2 bL s6 1 [ao,aj] eJ bR->Kp w bL bR/\bR.heap[w7.drew.heap.size]? =bL.heap[w7.drew.heap.size]?/\
 cB a0.a x4 a0.n/\bn (eQ (ae a0.a ((x4:Int).toNat*2))) (∃(cD:Int),ld bR.drew (ae (ae a0.a ((x4:Int).toNat*2)) 0)=some (.int .i64 cD)/\
 Br (cD !=ao)
 (cB a0.a x4 a0.n/\∃(cl:Int)(jG:Sl),av bR.drew (ae a0.a ((x4:Int).toNat*2)) 0 [cl,jG]/\
 Aw bR.drew #[cl,jG] 274 λdy=>
 aF 32 2 dy eJ 1 [cl,jG]/\∀(gZ:Sl)(dJ:World),aD 274 2 dy eJ 1 [cl,jG] gZ dJ->Kp w dy dJ/\dJ.heap[w7.drew.heap.size]? =dy.heap[w7.drew.heap.size]?/\dJ.heap[bR.drew.heap.size]? =dy.heap[bR.drew.heap.size]?/\
 ∃n8,n8<n2/\aP [ao,aj]/\I1 n8 ((ai (x4+1))) true gZ dJ)
 (∃n8,n8<n2/\aP [ao,aj]/\I1 n8 ((ai (x4+1))) true eJ bR.drew)))
 (cB a0.a x4 a0.n/\bn (eQ (ae a0.a ((x4:Int).toNat*2))) (∃(cN:Int),ld w7.drew.drew (ae (ae a0.a ((x4:Int).toNat*2)) 0)=some (.int .i64 cN)/\
 Br (cN !=ao)
 (cB a0.a x4 a0.n/\∃(dK:Int)(jk:Sl),av w7.drew.drew (ae a0.a ((x4:Int).toNat*2)) 0 [dK,jk]/\
 Aw w7.drew.drew #[dK,jk] 274 λcx=>
 aF 32 2 cx s6 1 [dK,jk]/\∀(B4:Sl)(fu:World),aD 274 2 cx s6 1 [dK,jk] B4 fu->Kp w cx fu/\fu.heap[w7.drew.drew.heap.size]? =cx.heap[w7.drew.drew.heap.size]?/\
 ∃n8,n8<n2/\aP [ao,aj]/\I1 n8 ((ai (x4+1))) b5 B4 fu)
 (∃n8,n8<n2/\aP [ao,aj]/\I1 n8 ((ai (x4+1))) b5 s6 w7.drew.drew)))))
 (cB a0.a x4 a0.n/\bn (eQ (ae a0.a ((x4:Int).toNat*2))) (∃(cW:Int),ld w7.drew.drew (ae (ae a0.a ((x4:Int).toNat*2)) 0)=some (.int .i64 cW)/\
 Br (cW !=ao)
 (cB a0.a x4 a0.n/\∃(dV:Int)(lV:Sl),av w7.drew.drew (ae a0.a ((x4:Int).toNat*2)) 0 [dV,lV]/\
 Aw w7.drew.drew #[dV,lV] 274 λeI=>
 aF 32 2 eI s6 1 [dV,lV]/\∀(mc:Sl)(g8:World),aD 274 2 eI s6 1 [dV,lV] mc g8->Kp w eI g8/\g8.heap[w7.drew.drew.heap.size]? =eI.heap[w7.drew.drew.heap.size]?/\
 ∃n8,n8<n2/\aP [ao,aj]/\I1 n8 ((ai (x4+1))) b5 mc g8)
 (∃n8,n8<n2/\aP [ao,aj]/\I1 n8 ((ai (x4+1))) b5 s6 w7.drew.drew))))
 (Br (!b5)
 (Aw w7 #[ao,aj] 274 λig=>
 aF 32 2 ig s6 1 [ao,aj]/\∀(iR:Sl)(lz:World),aD 274 2 ig s6 1 [ao,aj] iR lz->K2 w w7 ig lz (
 R iR lz))
 (R s6 w7))):ah 215 #[a0,.agg #[ao,aj]] w R:=
 cq ⟨[(4,⟨[(7,.int .i64),(6,.bool),(5,.slice)],[],[]⟩)],[],[]⟩ Tryz.func215 h
def Og.vc{aI:Sl}{aJ:Sl}(h:
 Aw w #[aq,ar,au,aI,aJ] 27 λw0=>
 ∃I1:Nat->Int->Sl->World->Prop,
 (∃n2,aP [aq,ar,au,aI,aJ]/\I1 n2 (0) aI w0)/\
 ∀(n2:Nat)(Ww:Nat->Value)(x4:Int)(s5:Sl)(w6:World),I1 n2 x4 s5 w6->
 Br (decide (x4<((aJ.n:Nat):Int)))
 (cB aJ.a x4 aJ.n/\∃(x8:Int)(s9:Sl),av w6 (ae aJ.a ((x4:Int).toNat*2)) 0 [x8,s9]/\
 ah 215 #[s5,.agg #[x8,s9]] w6 (Rs λeJ bL=>Kp w w6 bL/\
 ∃n7,n7<n2/\aP [aq,ar,au,aI,aJ]/\I1 n7 ((ai (x4+1))) eJ bL))
 (R s5 w6)):ah 216 #[.agg #[aq,ar,au,aI,aJ]] w R:=
 cq ⟨[(3,⟨[(4,.int .i64),(3,.slice)],[],[]⟩)],[],[]⟩ Tryz.func216 h
def Ky.vc{a0:Sl}(h:
 Br (decide (((ai (((a0.n:Nat):Int)-2)):Int)<0))
 (R (Value.tuple #[.slice none 0 0,(3:Int)]) w)
 (cB a0.a (ai (((a0.n:Nat):Int)-2)) a0.n/\∃(x0:Int),ld w.drew (ae a0.a (((ai (((a0.n:Nat):Int)-2)):Int).toNat*1))=some (.int .u8 x0)/\
 cB a0.a (ai ((ai (((a0.n:Nat):Int)-2))+1)) a0.n/\∃(x1:Int),ld w.drew (ae a0.a (((ai ((ai (((a0.n:Nat):Int)-2))+1)):Int).toNat*1))=some (.int .u8 x1)/\
 (0:Int)<=(ai (((a0.n:Nat):Int)-2))/\(ai (((a0.n:Nat):Int)-2))<=((a0.c:Nat):Int)/\ah 240 #[.slice (aA a0.a (0) (a0.c) 1) (((ai (((a0.n:Nat):Int)-2)):Int).toNat-0) (a0.c-0)] w.drew (λe w2=>∃(x3:Int),e=x3/\
 av w2 (ae a0.a (((ai ((ai (((a0.n:Nat):Int)-2))+1)):Int).toNat*1)) 0 [.int .u8 x1]/\av w2 (ae a0.a (((ai (((a0.n:Nat):Int)-2)):Int).toNat*1)) 0 [.int .u8 x0]/\Br (((ai ((ai ((ai x0)*256))+(ai x1))):Int) !=x3)
 (R (Value.tuple #[.slice none 0 0,(4:Int)]) w2)
 ((0:Int)<=(ai (((a0.n:Nat):Int)-2))/\(ai (((a0.n:Nat):Int)-2))<=((a0.c:Nat):Int)/\R (Value.tuple #[.slice (aA a0.a (0) (a0.c) 1) (((ai (((a0.n:Nat):Int)-2)):Int).toNat-0) (a0.c-0),af]) w2)))):ah 217 #[a0] w R:=
 cq cf Tryz.func217 h
def Oh.vc{a0:Sl}(h:
 ∃I0:Nat->Int->Int->World->Prop,
 (∃n1,I0 n1 (0) (0) w)/\
 ∀(n1:Nat)(oX:Nat->Value)(x3 x4:Int)(w5:World),I0 n1 x3 x4 w5->
 Br (decide (x3<((a0.n:Nat):Int)))
 (cB a0.a x3 a0.n/\∃(x7:Int),ld w5 (ae a0.a ((x3:Int).toNat*1))=some (.int .u8 x7)/\
 ∃n6,n6<n1/\I0 n6 ((ai (x3+1))) ((ai ((ai (x4*256))+(ai x7)))) w5)
 (R x4 w5)):ah 218 #[a0] w R:=
 cq ⟨[(3,⟨[(4,.int .i64),(3,.int .i64)],[],[]⟩)],[],[]⟩ Tryz.func218 h
def Ru.vc{a0:Sl}(h:
 ah 248 #[(65535:Int),a0] w (λe w0=>∃(x1:Int),e=x1/\
 R x1 w0)):ah 240 #[a0] w R:=
 cq cf Tryz.func240 h
def Oi.vc{a1:Sl}(h:
 ∃I0:Nat->Int->Int->World->Prop,
 (∃n1,I0 n1 (0) a0 w)/\
 ∀(n1:Nat)(oX:Nat->Value)(x3 x4:Int)(w5:World),I0 n1 x3 x4 w5->
 Br (decide (x3<((a1.n:Nat):Int)))
 (cB a1.a x3 a1.n/\∃(x7:Int),ld w5 (ae a1.a ((x3:Int).toNat*1))=some (.int .u8 x7)/\
 ∃I8:Nat->Int->Int->World->Prop,
 (∃n9,I8 n9 (0) ((gw .i64 x4 (ai ((ai x7)*256)))) w5)/\
 ∀(n9:Nat)(WI:Nat->Value)(bV bT:Int)(cA:World),I8 n9 bV bT cA->
 Br (bV<8)
 (Br (decide (((ai (bT*2)):Int)>=65536))
 (∃MV,MV<n9/\I8 MV ((ai (bV+1))) ((gw .i64 (ai ((ai (bT*2))-65536)) 4129)) cA)
 (∃MV,MV<n9/\I8 MV ((ai (bV+1))) ((ai (bT*2))) cA))
 (∃n6,n6<n1/\I0 n6 ((ai (x3+1))) bT cA))
 (R x4 w5)):ah 248 #[a0,a1] w R:=
 cq ⟨[(6,⟨[(6,.int .i64),(0,.int .i64)],[],[]⟩),(2,⟨[(5,.int .i64),(0,.int .i64)],[],[]⟩)],[],[]⟩ Tryz.func248 h
end Go.Proofs.YtalpkjfpmdpbiaaGreatDoor
