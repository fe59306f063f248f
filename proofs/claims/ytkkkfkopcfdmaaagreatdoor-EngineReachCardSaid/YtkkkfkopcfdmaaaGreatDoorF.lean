import Derived.Test.YtkkkfkopcfdmaaaGreatDoorE
import Derived.Test.YtkkkfkopcfdmaaaGreatDoorC
import Derived.Test.YtkkkfkopcfdmaaaGreatDoorD
set_option linter.all false
namespace Go.Proofs.YtkkkfkopcfdmaaaGreatDoor
open Go Go.Vc Go.RowKit Go.Proofs
set_option maxRecDepth 100000
set_option maxHeartbeats 8000000
set_option linter.unusedVariables false
variable {R:Ending->World->Prop} {w:World} {a0 a1 a2 a3 a4 a5 a6 a7 a8 a9 aA aq au aS aT aW bM bG bH Cr ak ao aw bz bT bR eW eX eD Cs bq bA bo wL wM uS uT wN wO wP Ct Cu Cv Cw Cx Cy Cz CA CB CC:Int}
theorem U0.vc(h:
 ∀w0,w0=w.alloc (.map #[] 0)->
 Aw w0 #[.int .i64 (if 4096<(if 1>a0 then 1 else a0) then 4096 else (if 1>a0 then 1 else a0)),aa,.slice none 0 0,.map (some w.heap.size)] 226 λw1=>
 R (Value.pointer (some ⟨w0,0,none⟩)) w1):ah 97 #[a0] w R:=
 cq bV Tryz.func97 h
theorem Cf.vc{a0:Addr}(h:
 Aw w #[ak,ao,aw] 41 λw0=>
 ah 262 #[a0,.agg #[ak,ao,aw]] w0 (λe w1=>∃(x2:Int)(b3:Bool),e=Value.tuple #[x2,b3]/\Kp w w0 w1/\
 Br b3
 (Br (x2<=a2)
 (R false w1)
 (Br b3
 (ah 263 #[a0,.agg #[ak,ao,aw]] w1 (Rb λb5 w4=>Kp w w1 w4/\
 ah 264 #[a0,.agg #[a2,ak,ao,aw]] w4 (Rt λw6=>Kp w w4 w6/\
 R true w6)))
 (∃(s7:Sl),ld w1.drew (af (some a0) 2)=some (.slice s7.a s7.n s7.c)/\
 ∃(x8:Int),ld w1.drew (af (some a0) 0)=some (.int .i64 x8)/\
 Br ((((s7.n:Nat):Int):Int)==x8)
 (∃(x9:Int),ld w1.drew (af (some a0) 1)=some (.int .i64 x9)/\
 (true=true/\Wr w1.drew (af (some a0) 1) 1)/\bD (af (some a0) 1)≠some w.heap.size/\(∀bO,bO=aH w1.drew (af (some a0) 1) [(aj (x9+1))]->
 R false bO))
 (ah 264 #[a0,.agg #[a2,ak,ao,aw]] w1.drew (Rt λaY=>Kp w w1.drew aY/\
 R true aY)))))
 (Br b3
 (ah 263 #[a0,.agg #[ak,ao,aw]] w1 (Rb λFg cR=>Kp w w1 cR/\
 ah 264 #[a0,.agg #[a2,ak,ao,aw]] cR (Rt λbP=>Kp w cR bP/\
 R true bP)))
 (∃(lj:Sl),ld w1.drew (af (some a0) 2)=some (.slice lj.a lj.n lj.c)/\
 ∃(cD:Int),ld w1.drew (af (some a0) 0)=some (.int .i64 cD)/\
 Br ((((lj.n:Nat):Int):Int)==cD)
 (∃(cY:Int),ld w1.drew (af (some a0) 1)=some (.int .i64 cY)/\
 (true=true/\Wr w1.drew (af (some a0) 1) 1)/\bD (af (some a0) 1)≠some w.heap.size/\(∀dG,dG=aH w1.drew (af (some a0) 1) [(aj (cY+1))]->
 R false dG))
 (ah 264 #[a0,.agg #[a2,ak,ao,aw]] w1.drew (Rt λfP=>Kp w w1.drew fP/\
 R true fP)))))):ah 211 #[a0,.agg #[ak,ao,aw],a2] w R:=
 cq bV Tryz.func211 h
theorem B9.vc{a0:Addr}(h:
 ∃I0:Nat->Int->World->Prop,
 (∃n1,I0 n1 (0) w)/\
 ∀(n1:Nat)(wX:Nat->Value)(x3:Int)(w4:World),I0 n1 x3 w4->
 ∃(s6:Sl),ld w4 (af (some a0) 2)=some (.slice s6.a s6.n s6.c)/\
 Br (decide (x3<((s6.n:Nat):Int)))
 (Br (x3<a2)
 (∃(s7:Sl),ld w4 (af (some a0) 2)=some (.slice s7.a s7.n s7.c)/\
 eo s7.a x3 s7.n/\aP (dv (af s7.a ((x3:Int).toNat*4))) (∃(x8:Int),ld w4 (af (af s7.a ((x3:Int).toNat*4)) 0)=some (.int .i64 x8)/\
 Br (x8<=a1)
 (∃n5,n5<n1/\I0 n5 ((aj (x3+1))) w4)
 (∃(s9:Sl),ld w4 (af (some a0) 2)=some (.slice s9.a s9.n s9.c)/\
 (0:Int)<=x3/\x3<=((s9.c:Nat):Int)/\(0:Int)<=x3/\x3<=x3/\∃CI:Nat->Int->Sl->World->Prop,
 (∃sb,CI sb (0) ⟨none,0,0⟩ w4)/\
 ∀(sb:Nat)(ag0:Nat->Value)(cm:Int)(ZR:Sl)(eA:World),CI sb cm ZR eA->
 Br (decide (cm<((((x3:Int).toNat-0):Nat):Int)))
 (eo (aJ s9.a (0) ((x3:Int).toNat) 4) cm ((x3:Int).toNat-0)/\∃(cY cp cn cW:Int),ag eA (af (aJ s9.a (0) ((x3:Int).toNat) 4) ((cm:Int).toNat*4)) 0 [cY,cp,cn,cW]/\
 Aw eA #[aa,aa,aa,aa] 157 λeK=>
 Sw eK eA #[cY,cp,cn,cW] λdT=>
 Aw dT #[cp,cn,cW] 41 λeh=>
 ba 24 3 eh ZR 1 [cp,cn,cW]/\∀(rN:Sl)(cU:World),aV 41 3 eh ZR 1 [cp,cn,cW] rN cU->K2 eA dT eh cU (
 ∃(m26:Option Nat),ld cU.drew (af (some a0) 3)=some (.map m26)/\
 ∃(G27:Value->Prop)(kvs28:List (Value × Value)),iF Tryz.prog 41 G27/\(m26:Option Nat).isSome=true/\cl G27 cU.drew m26 kvs28/\G27 (.agg #[cp,cn,cW])/\∀dR:World,Rec ((m26:Option Nat).getD 0) cU.drew dR->cl G27 dR m26 (EB kvs28 (.agg #[cp,cn,cW]))->
 ∃Ke,Ke<sb/\CI Ke ((aj (cm+1))) rN dR))
 (∃(sS:Sl),ld eA (af (some a0) 2)=some (.slice sS.a sS.n sS.c)/\
 ah 241 #[sS,aa,x3] eA (λe fJ=>∃(oL:Sl),e=oL/\
 (true=true/\Wr fJ (af (some a0) 2) 1)/\(∀eM,eM=aH fJ (af (some a0) 2) [oL]->
 R ZR eM))))))
 (∃(s34:Sl),ld w4 (af (some a0) 2)=some (.slice s34.a s34.n s34.c)/\
 (0:Int)<=x3/\x3<=((s34.c:Nat):Int)/\(0:Int)<=x3/\x3<=x3/\∃I35:Nat->Int->Sl->World->Prop,
 (∃n36,I35 n36 (0) ⟨none,0,0⟩ w4)/\
 ∀(n36:Nat)(azT:Nat->Value)(gA:Int)(S1:Sl)(jr:World),I35 n36 gA S1 jr->
 Br (decide (gA<((((x3:Int).toNat-0):Nat):Int)))
 (eo (aJ s34.a (0) ((x3:Int).toNat) 4) gA ((x3:Int).toNat-0)/\∃(lh oE jY nq:Int),ag jr (af (aJ s34.a (0) ((x3:Int).toNat) 4) ((gA:Int).toNat*4)) 0 [lh,oE,jY,nq]/\
 Aw jr #[aa,aa,aa,aa] 157 λqC=>
 Sw qC jr #[lh,oE,jY,nq] λlg=>
 Aw lg #[oE,jY,nq] 41 λfY=>
 ba 24 3 fY S1 1 [oE,jY,nq]/\∀(s49:Sl)(mi:World),aV 41 3 fY S1 1 [oE,jY,nq] s49 mi->K2 jr lg fY mi (
 ∃(m51:Option Nat),ld mi.drew (af (some a0) 3)=some (.map m51)/\
 ∃(G52:Value->Prop)(kvs53:List (Value × Value)),iF Tryz.prog 41 G52/\(m51:Option Nat).isSome=true/\cl G52 mi.drew m51 kvs53/\G52 (.agg #[oE,jY,nq])/\∀AS:World,Rec ((m51:Option Nat).getD 0) mi.drew AS->cl G52 AS m51 (EB kvs53 (.agg #[oE,jY,nq]))->
 ∃n41,n41<n36/\I35 n41 ((aj (gA+1))) s49 AS))
 (∃(s55:Sl),ld jr (af (some a0) 2)=some (.slice s55.a s55.n s55.c)/\
 ah 241 #[s55,aa,x3] jr (λe pH=>∃(s57:Sl),e=s57/\
 (true=true/\Wr pH (af (some a0) 2) 1)/\(∀kr,kr=aH pH (af (some a0) 2) [s57]->
 R S1 kr)))))
 (∃(s59:Sl),ld w4 (af (some a0) 2)=some (.slice s59.a s59.n s59.c)/\
 (0:Int)<=x3/\x3<=((s59.c:Nat):Int)/\(0:Int)<=x3/\x3<=x3/\∃I60:Nat->Int->Sl->World->Prop,
 (∃n61,I60 n61 (0) ⟨none,0,0⟩ w4)/\
 ∀(n61:Nat)(azU:Nat->Value)(sR:Int)(s64:Sl)(GL:World),I60 n61 sR s64 GL->
 Br (decide (sR<((((x3:Int).toNat-0):Nat):Int)))
 (eo (aJ s59.a (0) ((x3:Int).toNat) 4) sR ((x3:Int).toNat-0)/\∃(mP mI oM nG:Int),ag GL (af (aJ s59.a (0) ((x3:Int).toNat) 4) ((sR:Int).toNat*4)) 0 [mP,mI,oM,nG]/\
 Aw GL #[aa,aa,aa,aa] 157 λw71=>
 Sw w71 GL #[mP,mI,oM,nG] λw72=>
 Aw w72 #[mI,oM,nG] 41 λM8=>
 ba 24 3 M8 s64 1 [mI,oM,nG]/\∀(s74:Sl)(qD:World),aV 41 3 M8 s64 1 [mI,oM,nG] s74 qD->K2 GL w72 M8 qD (
 ∃(m76:Option Nat),ld qD.drew (af (some a0) 3)=some (.map m76)/\
 ∃(G77:Value->Prop)(kvs78:List (Value × Value)),iF Tryz.prog 41 G77/\(m76:Option Nat).isSome=true/\cl G77 qD.drew m76 kvs78/\G77 (.agg #[mI,oM,nG])/\∀W4:World,Rec ((m76:Option Nat).getD 0) qD.drew W4->cl G77 W4 m76 (EB kvs78 (.agg #[mI,oM,nG]))->
 ∃n66,n66<n61/\I60 n66 ((aj (sR+1))) s74 W4))
 (∃(s80:Sl),ld GL (af (some a0) 2)=some (.slice s80.a s80.n s80.c)/\
 ah 241 #[s80,aa,x3] GL (λe uW=>∃(s82:Sl),e=s82/\
 (true=true/\Wr uW (af (some a0) 2) 1)/\(∀w83,w83=aH uW (af (some a0) 2) [s82]->
 R s64 w83))))):ah 172 #[a0,a1,a2] w R:=
 cq ⟨[(6,⟨[(45,.int .i64),(8,.slice)],[],[]⟩),(6,⟨[(45,.int .i64),(8,.slice)],[],[]⟩),(6,⟨[(45,.int .i64),(8,.slice)],[],[]⟩),(2,⟨[(7,.int .i64)],[],[]⟩)],[],[]⟩ Tryz.func172 h
theorem EC.vc{a0:Addr}(h:
 Aw w #[ak,ao,aw] 41 λw0=>
 ∃(m1:Option Nat),ld w0.drew (af (some a0) 3)=some (.map m1)/\
 ∃(G2:Value->Prop)(kvs3:List (Value × Value)),iF Tryz.prog 41 G2/\cl G2 w0.drew m1 kvs3/\G2 (.agg #[ak,ao,aw])/\∃(x4:Int),∃b5:Bool,Gi kvs3 (.agg #[ak,ao,aw]) (0:Int) x4 b5/\
 R (Value.tuple #[x4,b5]) w0.drew):ah 262 #[a0,.agg #[ak,ao,aw]] w R:=
 cq bV Tryz.func262 h
theorem Aq.vc{a0:Addr}(h:
 Aw w #[ak,ao,aw] 41 λw0=>
 ∃(m1:Option Nat),ld w0.drew (af (some a0) 3)=some (.map m1)/\
 ∃(G2:Value->Prop)(kvs3:List (Value × Value)),iF Tryz.prog 41 G2/\cl G2 w0.drew m1 kvs3/\G2 (.agg #[ak,ao,aw])/\∃(x4:Int),∃b5:Bool,Gi kvs3 (.agg #[ak,ao,aw]) (0:Int) x4 b5/\
 Br (!b5)
 (R false w0.drew)
 (∃(m6:Option Nat),ld w0.drew.drew (af (some a0) 3)=some (.map m6)/\
 ∃(G7:Value->Prop)(kvs8:List (Value × Value)),iF Tryz.prog 41 G7/\(m6:Option Nat).isSome=true/\cl G7 w0.drew.drew m6 kvs8/\G7 (.agg #[ak,ao,aw])/\∀w9:World,Rec ((m6:Option Nat).getD 0) w0.drew.drew w9->cl G7 w9 m6 (EB kvs8 (.agg #[ak,ao,aw]))->
 ∃(xf:Sl),ld w9 (af (some a0) 2)=some (.slice xf.a xf.n xf.c)/\
 ah 286 #[xf,.func (.func 287) #[] #[w]] w9 (λe aY=>∃(jJ:Sl),e=jJ/\
 (true=true/\Wr aY (af (some a0) 2) 1)/\(∀bJ,bJ=aH aY (af (some a0) 2) [jJ]->
 R true bJ)))):ah 263 #[a0,.agg #[ak,ao,aw]] w R:=
 cq bV Tryz.func263 h
theorem An.vc{a0:Addr}(h:
 Aw w #[ak,ao,aw,bz] 157 λw0=>
 ∃(s1:Sl),ld w0.drew (af (some a0) 2)=some (.slice s1.a s1.n s1.c)/\
 ah 288 #[s1,.agg #[ak,ao,aw,bz],.func (.func 289) #[] #[]] w0.drew (λe w2=>∃(x3:Int)(b4:Bool),e=Value.tuple #[x3,b4]/\Kp w w0.drew w2/\
 ∃(s5:Sl),ld w2.drew (af (some a0) 2)=some (.slice s5.a s5.n s5.c)/\
 Aw w2.drew #[ak,ao,aw,bz] 157 λw6=>
 ah 292 #[s5,x3,.slice (some ⟨w2.drew.heap.size,0,none⟩) 1 1] w6 (Rs λs8 w7=>Kp w w6 w7/\
 (true=true/\Wr w7 (af (some a0) 2) 1)/\bD (af (some a0) 2)≠some w.heap.size/\(∀w9,w9=aH w7 (af (some a0) 2) [s8]->
 ∃(m10:Option Nat),ld w9.drew (af (some a0) 3)=some (.map m10)/\
 ∃(G11:Value->Prop)(kvs12:List (Value × Value)),iF Tryz.prog 41 G11/\(m10:Option Nat).isSome=true/\cl G11 w9.drew m10 kvs12/\G11 (.agg #[ao,aw,bz])/\∀bJ:World,Rec ((m10:Option Nat).getD 0) w9.drew bJ->cl G11 bJ m10 (vQ kvs12 (.agg #[ao,aw,bz]) ak)->
 R sY bJ)))):ah 264 #[a0,.agg #[ak,ao,aw,bz]] w R:=
 cq bV Tryz.func264 h
theorem vE.vc{a0:Sl}(h:
 (0:Int)<=((a0.n:Nat):Int)/\((a0.n:Nat):Int)<=((a0.c:Nat):Int)/\(0:Int)<=a2/\a2<=((a0.n:Nat):Int)/\(0:Int)<=a1/\a1<=a2/\Br (a1==a2)
 (R a0 w)
 ((0:Int)<=a1/\a1<=((a0.c:Nat):Int)/\(0:Int)<=a2/\a2<=((a0.n:Nat):Int)/\∃l0:LV,Rd w.drew (aJ a0.a ((a2:Int).toNat) (a0.c) 4) l0/\ba 32 4 w.drew ⟨(aJ a0.a (0) (a0.c) 4),((a1:Int).toNat-0),(a0.c-0)⟩ (a0.n-(a2:Int).toNat) l0/\∀(s1:Sl)(w2:World),aV 157 4 w.drew ⟨(aJ a0.a (0) (a0.c) 4),((a1:Int).toNat-0),(a0.c-0)⟩ (a0.n-(a2:Int).toNat) l0 s1 w2->
 (0:Int)<=((a0.n:Nat):Int)/\((a0.n:Nat):Int)<=((s1.c:Nat):Int)/\(0:Int)<=((s1.n:Nat):Int)/\(((s1.n:Nat):Int):Int)<=((a0.n:Nat):Int)/\Wr w2 (aJ s1.a ((((s1.n:Nat):Int):Int).toNat) (s1.c) 4) (((((a0.n:Nat):Int):Int).toNat-(((s1.n:Nat):Int):Int).toNat)*4)/\(∀w3,w3=aH w2 (aJ s1.a ((((s1.n:Nat):Int):Int).toNat) (s1.c) 4) (bu [aa,aa,aa,aa] ((((a0.n:Nat):Int):Int).toNat-(((s1.n:Nat):Int):Int).toNat))->
 R s1 w3))):ah 241 #[a0,a1,a2] w R:=
 cq bV Tryz.func241 h
theorem B8.vc{a0:Addr}(h:
 ∃(s0:Sl),ld w (af (some a0) 2)=some (.slice s0.a s0.n s0.c)/\
 ah 191 #[s0] w (λe w1=>∃(s2:Sl),e=s2/\
 R s2 w1)):ah 138 #[a0] w R:=
 cq bV Tryz.func138 h
theorem qP.vc{a0:Sl}{a1:Value}(h:
 ah 304 #[a0,a1] w (λe w0=>∃(x1:Int),e=x1/\
 Br (x1==(-1))
 (R a0 w0)
 (∃I2:Nat->Int->Int->World->Prop,
 (∃n3,I2 n3 ((aj (x1+1))) x1 w0)/\
 ∀(n3:Nat)(us4:Nat->Value)(x5 x6:Int)(w7:World),I2 n3 x5 x6 w7->
 Br (decide (x5<((a0.n:Nat):Int)))
 (eo a0.a x5 a0.n/\∃(x9 bh bC bN:Int),ag w7 (af a0.a ((x5:Int).toNat*4)) 0 [x9,bh,bC,bN]/\
 Aw w7 #[aa,aa,aa,aa] 157 λbJ=>
 Sw bJ w7 #[x9,bh,bC,bN] λbP=>
 cr Tryz.prog a1 [.agg #[x9,bh,bC,bN]] bP (Rb λb16 eA=>Kp w7 bP eA/\
 Br (!b16)
 (eo a0.a x6 a0.n/\(((af a0.a ((x6:Int).toNat*4))).isSome=true/\Wr eA (af a0.a ((x6:Int).toNat*4)) 4)/\bD (af a0.a ((x6:Int).toNat*4))≠some w7.heap.size/\(∀cL,cL=aH eA (af a0.a ((x6:Int).toNat*4)) [x9,bh,bC,bN]->
 ∃n8,n8<n3/\I2 n8 ((aj (x5+1))) ((aj (x6+1))) cL))
 (∃n8,n8<n3/\I2 n8 ((aj (x5+1))) x6 eA)))
 ((0:Int)<=x6/\x6<=((a0.n:Nat):Int)/\Wr w7 (aJ a0.a ((x6:Int).toNat) (a0.c) 4) ((a0.n-(x6:Int).toNat)*4)/\(∀dG,dG=aH w7 (aJ a0.a ((x6:Int).toNat) (a0.c) 4) (bu [aa,aa,aa,aa] (a0.n-(x6:Int).toNat))->
 (0:Int)<=x6/\x6<=((a0.c:Nat):Int)/\R (Value.slice (aJ a0.a (0) (a0.c) 4) ((x6:Int).toNat-0) (a0.c-0)) dG))))):ah 286 #[a0,a1] w R:=
 cq ⟨[(5,⟨[(6,.int .i64),(5,.int .i64)],[],[]⟩)],[],[]⟩ Tryz.func286 h
theorem wB.vc{c0:Addr}(h:
 Aw w #[aA,aq,au,aS] 157 λw0=>
 ∃(x1 x2 x3:Int),ag w0 (some c0) 0 [x1,x2,x3]/\
 R (Value.bool ((aq==x1) &&((au==x2) &&(aS==x3)))) w0):ah 287 #[.agg #[aA,aq,au,aS],c0] w R:=
 cq bV Tryz.func287 h
theorem mE.vc{a0:Sl}{a2:Value}(h:
 Aw w #[ak,ao,aw,bz] 157 λw0=>
 ∃I1:Nat->Int->Int->World->Prop,
 (∃n2,aO [ak,ao,aw,bz]/\I1 n2 (0) (((a0.n:Nat):Int)) w0)/\
 ∀(n2:Nat)(us3:Nat->Value)(x4 x5:Int)(w6:World),I1 n2 x4 x5 w6->
 Br (x4<x5)
 (eo a0.a (aj (((cX (aj (x4+x5))):Int).fdiv (2 ^(min (1:Int).toNat 64)))) a0.n/\∃(x8 x9 bh bC:Int),ag w6.drew (af a0.a (((aj (((cX (aj (x4+x5))):Int).fdiv (2 ^(min (1:Int).toNat 64)))):Int).toNat*4)) 0 [x8,x9,bh,bC]/\
 cr Tryz.prog a2 [.agg #[x8,x9,bh,bC],.agg #[ak,ao,aw,bz]] w6.drew (Ri λcm cR=>Kp w w6.drew cR/\
 Br (cm<0)
 (∃n7,n7<n2/\aO [ak,ao,aw,bz]/\I1 n7 ((aj ((aj (((cX (aj (x4+x5))):Int).fdiv (2 ^(min (1:Int).toNat 64))))+1))) x5 cR)
 (∃n7,n7<n2/\aO [ak,ao,aw,bz]/\I1 n7 x4 ((aj (((cX (aj (x4+x5))):Int).fdiv (2 ^(min (1:Int).toNat 64))))) cR)))
 (Br (decide (x4<((a0.n:Nat):Int)))
 (eo a0.a x4 a0.n/\∃(bX cA cD cY:Int),ag w6.drew (af a0.a ((x4:Int).toNat*4)) 0 [bX,cA,cD,cY]/\
 cr Tryz.prog a2 [.agg #[bX,cA,cD,cY],.agg #[ak,ao,aw,bz]] w6.drew (Ri λcn dG=>Kp w w6.drew dG/\
 R (Value.tuple #[x4,.bool (cn==0)]) dG))
 (R (Value.tuple #[x4,false]) w6.drew))):ah 288 #[a0,.agg #[ak,ao,aw,bz],a2] w R:=
 cq ⟨[(3,⟨[(9,.int .i64),(10,.int .i64)],[],[]⟩)],[],[]⟩ Tryz.func288 h
theorem wC.vc(h:
 Aw w #[aA,aq,au,aS] 157 λw0=>
 Aw w0 #[ak,ao,aw,bz] 157 λw1=>
 ah 291 #[aA,ak] w1 (Ri λx3 w2=>K2 w w0 w1 w2 (
 Aw w2 #[x3,(-1:Int)] 3 λw4=>
 ah 290 #[.slice (some ⟨w2,0,none⟩) 2 2] w4 (Ri λx6 w5=>K2 w w0 w4 w5 (
 R x6 w5))))):ah 289 #[.agg #[aA,aq,au,aS],.agg #[ak,ao,aw,bz]] w R:=
 cq bV Tryz.func289 h
theorem QJ.vc{a0:Sl}(h:
 ∃I0:Nat->Int->World->Prop,
 (∃n1,I0 n1 (0) w)/\
 ∀(n1:Nat)(wX:Nat->Value)(x3:Int)(w4:World),I0 n1 x3 w4->
 Br (decide (x3<((a0.n:Nat):Int)))
 (eo a0.a x3 a0.n/\∃(x6:Int),ld w4 (af a0.a ((x3:Int).toNat*1))=some (.int .i64 x6)/\
 Br (x6 !=0)
 (R x6 w4)
 (∃n5,n5<n1/\I0 n5 ((aj (x3+1))) w4))
 (R (0:Int) w4)):ah 290 #[a0] w R:=
 cq ⟨[(3,⟨[(8,.int .i64)],[],[]⟩)],[],[]⟩ Tryz.func290 h
theorem Cj.vc(h:
 ah 305 #[a0] w (λe w0=>∃(b1:Bool),e=b1/\
 ah 305 #[a1] w0 (λe w2=>∃(b3:Bool),e=b3/\
 Br b1
 (Br b3
 (R (0:Int) w2)
 (R (Value.int .i64 (-1)) w2))
 (Br b3
 (R (1:Int) w2)
 (Br (a0<a1)
 (R (Value.int .i64 (-1)) w2)
 (Br (a0>a1)
 (R (1:Int) w2)
 (R (0:Int) w2))))))):ah 291 #[a0,a1] w R:=
 cq bV Tryz.func291 h
theorem wD.vc{a0:Sl}{a2:Sl}(h:
 (0:Int)<=a1/\a1<=((a0.n:Nat):Int)/\Br ((((a2.n:Nat):Int):Int)==0)
 (R a0 w)
 (Br (a1==((a0.n:Nat):Int))
 (∃l0:LV,Rd w a2.a l0/\ba 32 4 w a0 a2.n l0/\∀(s1:Sl)(w2:World),aV 157 4 w a0 a2.n l0 s1 w2->
 R s1 w2)
 (Br (decide (((aj (((a0.n:Nat):Int)+((a2.n:Nat):Int))):Int)>((a0.c:Nat):Int)))
 ((0:Int)<=a1/\a1<=((a0.c:Nat):Int)/\((0:Int)<=(aj ((aj (((a0.n:Nat):Int)+((a2.n:Nat):Int)))-a1))/\aj (aj ((aj (((a0.n:Nat):Int)+((a2.n:Nat):Int)))-a1))=(aj ((aj (((a0.n:Nat):Int)+((a2.n:Nat):Int)))-a1))/\((aj ((aj (((a0.n:Nat):Int)+((a2.n:Nat):Int)))-a1)):Int)*32<=281474976710656)/\ba 32 4 w ⟨(aJ a0.a (0) (a0.c) 4),((a1:Int).toNat-0),(a0.c-0)⟩ ((aj ((aj (((a0.n:Nat):Int)+((a2.n:Nat):Int)))-a1)):Int).toNat (bu [aa,aa,aa,aa] ((aj ((aj (((a0.n:Nat):Int)+((a2.n:Nat):Int)))-a1)):Int).toNat)/\∀(s3:Sl)(w4:World),aV 157 4 w ⟨(aJ a0.a (0) (a0.c) 4),((a1:Int).toNat-0),(a0.c-0)⟩ ((aj ((aj (((a0.n:Nat):Int)+((a2.n:Nat):Int)))-a1)):Int).toNat (bu [aa,aa,aa,aa] ((aj ((aj (((a0.n:Nat):Int)+((a2.n:Nat):Int)))-a1)):Int).toNat) s3 w4->
 (0:Int)<=a1/\a1<=((s3.n:Nat):Int)/\∃l5:LV,(l5.length=min a2.n (s3.n-(a1:Int).toNat)*4/\Rd w4 a2.a l5/\One l5/\Wr w4 (aJ s3.a ((a1:Int).toNat) (s3.c) 4) l5.length)/\(∀w6,w6=aH w4 (aJ s3.a ((a1:Int).toNat) (s3.c) 4) l5->
 (0:Int)<=(aj (a1+((a2.n:Nat):Int)))/\(aj (a1+((a2.n:Nat):Int)))<=((s3.n:Nat):Int)/\(0:Int)<=a1/\a1<=((a0.n:Nat):Int)/\∃l7:LV,(l7.length=min (a0.n-(a1:Int).toNat) (s3.n-((aj (a1+((a2.n:Nat):Int))):Int).toNat)*4/\Rd w6.drew (aJ a0.a ((a1:Int).toNat) (a0.c) 4) l7/\One l7/\Wr w6.drew (aJ s3.a (((aj (a1+((a2.n:Nat):Int))):Int).toNat) (s3.c) 4) l7.length)/\(∀w8,w8=aH w6.drew (aJ s3.a (((aj (a1+((a2.n:Nat):Int))):Int).toNat) (s3.c) 4) l7->
 R s3 w8)))
 ((0:Int)<=(aj (((a0.n:Nat):Int)+((a2.n:Nat):Int)))/\(aj (((a0.n:Nat):Int)+((a2.n:Nat):Int)))<=((a0.c:Nat):Int)/\(0:Int)<=(aj (a1+((a2.n:Nat):Int)))/\(aj (a1+((a2.n:Nat):Int)))<=(((((aj (((a0.n:Nat):Int)+((a2.n:Nat):Int))):Int).toNat-0):Nat):Int)/\X3 Tryz.prog 306 [a2,.slice (aJ (aJ a0.a (0) (a0.c) 4) (((aj (a1+((a2.n:Nat):Int))):Int).toNat) ((a0.c-0)) 4) ((((aj (((a0.n:Nat):Int)+((a2.n:Nat):Int))):Int).toNat-0)-((aj (a1+((a2.n:Nat):Int))):Int).toNat) ((a0.c-0)-((aj (a1+((a2.n:Nat):Int))):Int).toNat)] w (λe w9=>∃(b10:Bool),e=b10/\
 Br (!b10)
 ((0:Int)<=(aj (a1+((a2.n:Nat):Int)))/\(aj (a1+((a2.n:Nat):Int)))<=(((((aj (((a0.n:Nat):Int)+((a2.n:Nat):Int))):Int).toNat-0):Nat):Int)/\(0:Int)<=a1/\a1<=(((((aj (((a0.n:Nat):Int)+((a2.n:Nat):Int))):Int).toNat-0):Nat):Int)/\∃l11:LV,(l11.length=min ((((aj (((a0.n:Nat):Int)+((a2.n:Nat):Int))):Int).toNat-0)-(a1:Int).toNat) ((((aj (((a0.n:Nat):Int)+((a2.n:Nat):Int))):Int).toNat-0)-((aj (a1+((a2.n:Nat):Int))):Int).toNat)*4/\Rd w9.drew (aJ (aJ a0.a (0) (a0.c) 4) ((a1:Int).toNat) ((a0.c-0)) 4) l11/\One l11/\Wr w9.drew (aJ (aJ a0.a (0) (a0.c) 4) (((aj (a1+((a2.n:Nat):Int))):Int).toNat) ((a0.c-0)) 4) l11.length)/\(∀cR,cR=aH w9.drew (aJ (aJ a0.a (0) (a0.c) 4) (((aj (a1+((a2.n:Nat):Int))):Int).toNat) ((a0.c-0)) 4) l11->
 (0:Int)<=a1/\a1<=(((((aj (((a0.n:Nat):Int)+((a2.n:Nat):Int))):Int).toNat-0):Nat):Int)/\∃l13:LV,(l13.length=min a2.n ((((aj (((a0.n:Nat):Int)+((a2.n:Nat):Int))):Int).toNat-0)-(a1:Int).toNat)*4/\Rd cR a2.a l13/\One l13/\Wr cR (aJ (aJ a0.a (0) (a0.c) 4) ((a1:Int).toNat) ((a0.c-0)) 4) l13.length)/\(∀bP,bP=aH cR (aJ (aJ a0.a (0) (a0.c) 4) ((a1:Int).toNat) ((a0.c-0)) 4) l13->
 R (Value.slice (aJ a0.a (0) (a0.c) 4) (((aj (((a0.n:Nat):Int)+((a2.n:Nat):Int))):Int).toNat-0) (a0.c-0)) bP)))
 ((0:Int)<=((a0.n:Nat):Int)/\((a0.n:Nat):Int)<=(((((aj (((a0.n:Nat):Int)+((a2.n:Nat):Int))):Int).toNat-0):Nat):Int)/\∃l15:LV,(l15.length=min a2.n ((((aj (((a0.n:Nat):Int)+((a2.n:Nat):Int))):Int).toNat-0)-(((a0.n:Nat):Int):Int).toNat)*4/\Rd w9 a2.a l15/\One l15/\Wr w9 (aJ (aJ a0.a (0) (a0.c) 4) ((((a0.n:Nat):Int):Int).toNat) ((a0.c-0)) 4) l15.length)/\(∀cJ,cJ=aH w9 (aJ (aJ a0.a (0) (a0.c) 4) ((((a0.n:Nat):Int):Int).toNat) ((a0.c-0)) 4) l15->
 (0:Int)<=a1/\a1<=(((((aj (((a0.n:Nat):Int)+((a2.n:Nat):Int))):Int).toNat-0):Nat):Int)/\ah 307 #[.slice (aJ (aJ a0.a (0) (a0.c) 4) ((a1:Int).toNat) ((a0.c-0)) 4) ((((aj (((a0.n:Nat):Int)+((a2.n:Nat):Int))):Int).toNat-0)-(a1:Int).toNat) ((a0.c-0)-(a1:Int).toNat),((a2.n:Nat):Int)] cJ (λe cL=>e=sY/\
 R (Value.slice (aJ a0.a (0) (a0.c) 4) (((aj (((a0.n:Nat):Int)+((a2.n:Nat):Int))):Int).toNat-0) (a0.c-0)) cL)))))))):ah 292 #[a0,a1,a2] w R:=
 cq bV Tryz.func292 h
theorem yl.vc{a0:Sl}(h:
 Br (a0.a).isNone
 (R (Value.slice none 0 0) w)
 (Aw w #[] 157 λw0=>
 ∃l1:LV,Rd w0 a0.a l1/\ba 32 4 w0 ⟨(some ⟨w,0,none⟩),0,0⟩ a0.n l1/\∀(s2:Sl)(w3:World),aV 157 4 w0 ⟨(some ⟨w,0,none⟩),0,0⟩ a0.n l1 s2 w3->Kp w w0 w3/\
 R s2 w3)):ah 191 #[a0] w R:=
 cq bV Tryz.func191 h
theorem sH.vc{a0:Sl}{a1:Value}(h:
 ∃I0:Nat->Int->World->Prop,
 (∃n1,I0 n1 (0) w)/\
 ∀(n1:Nat)(wX:Nat->Value)(x3:Int)(w4:World),I0 n1 x3 w4->
 Br (decide (x3<((a0.n:Nat):Int)))
 (eo a0.a x3 a0.n/\∃(x6 x7 x8 x9:Int),ag w4 (af a0.a ((x3:Int).toNat*4)) 0 [x6,x7,x8,x9]/\
 cr Tryz.prog a1 [.agg #[x6,x7,x8,x9]] w4 (λe bO=>∃(W3:Bool),e=W3/\
 Br W3
 (R x3 bO)
 (∃n5,n5<n1/\I0 n5 ((aj (x3+1))) bO)))
 (R (Value.int .i64 (-1)) w4)):ah 304 #[a0,a1] w R:=
 cq ⟨[(2,⟨[(8,.int .i64)],[],[]⟩)],[],[]⟩ Tryz.func304 h
theorem Gx.vc(h:
 R (Value.bool (a0 !=a0)) w):ah 305 #[a0] w R:=
 cq bV Tryz.func305 h
end Go.Proofs.YtkkkfkopcfdmaaaGreatDoor
namespace Go.Proofs.YtkkkfkopcfdmaaaGreatDoor.Q
open Go Go.Vc Go.RowKit Go.Proofs Go.gg
set_option maxRecDepth 100000
abbrev tg:TypeId:=41
abbrev cC:TypeId:=157
abbrev gK:TypeId:=226
def GC(v:Value):Prop:=∃c:Cl,v=cv c
theorem rj:iF Tryz.prog tg GC:=by
 refine ⟨?_,?_,?_⟩
 ·rintro x y ⟨a,rfl⟩ ⟨b,rfl⟩;refine ⟨a.1==b.1 &&(a.2.1==b.2.1 && a.2.2==b.2.2),by kernel_rfl,?_⟩;simp only [fm,beq_iff_eq];constructor
  ·rintro ⟨h1,h2,h3⟩;unfold cv;rw [h1,h2,h3]
  ·intro h;rw [Er h];simp
 ·rintro x ⟨a,rfl⟩ b w;kernel_rfl
 ·rintro x ⟨a,rfl⟩;simp [cv,Instr.sameBits]
theorem EW(a:Int)(w:World):ah 305 #[a] w λe w'=>e=false/\w'=w:=by apply Gx.vc;simp
theorem JF(a b:Int)(w:World):ah 291 #[a,b] w λe w'=>e=Value.int .i64 (if a<b then -1 else if b<a then 1 else 0)/\w'=w:=by
 apply Cj.vc;refine (EW a w).mono ?_;rintro e w1 ⟨rfl,rfl⟩;refine ⟨_,rfl,(EW b w1).mono ?_⟩;rintro e w2 ⟨rfl,rfl⟩;refine ⟨_,rfl,Br.mk (λh=>by cases h) (λ_=>Br.mk (λh=>by cases h) (λ_=>Br.mk (λh=> ?_) (λh=>Br.mk (λh2=> ?_) (λh2=> ?_))))⟩
 ·replace h:=mh h;rw [if_pos h];exact ⟨rfl,rfl⟩
 ·simp only [cQ,fa] at h h2;rw [if_neg h,if_pos h2];exact ⟨rfl,rfl⟩
 ·simp only [fa] at h h2;rw [if_neg h,if_neg h2];exact ⟨rfl,rfl⟩
theorem Zr(a b:Int)(g:Nat)(w:World)(hr:Row w g [a,b] 3):
  ah 290 #[.slice (some ⟨g,0,none⟩) 2 2] w λe w'=>e=Value.int .i64 (if a=0 then b else a)/\w'=w:=by
 apply (QJ.vc (a0:=⟨some ⟨g,0,none⟩,2,2⟩));refine ⟨λn x wr=>wr=w/\∃k:Nat,x=k/\k+n=2/\(1<=k->a=0)/\(2<=k->b=0),⟨2,rfl,0,rfl,rfl,by omega,by omega⟩,?_⟩;rintro n us x wr ⟨rfl,k,rfl,hk,h1,h2⟩;have hw:=aK (n:=(k:Int)+1) (by unfold inI;omega);rw [hw];apply Br.mk<;>intro h<;>simp only [cQ,fa] at h
 ·refine ⟨⟨rfl,by omega,by omega⟩,if k=0 then a else b,?_,Br.mk (λh3=> ?_) (λh3=> ?_)⟩
  ·show ld wr (af (some ⟨g,0,none⟩) _)=_;rw [bf,hr.ld];have:k=0\/k=1:=by simp at h;omega
   rcases this with rfl|rfl<;>rfl
  ·simp only [bne_iff_ne,ne_eq] at h3;have:k=0\/k=1:=by simp at h;omega
   rcases this with rfl|rfl
   ·rw [if_pos rfl] at h3 ⊢;rw [if_neg h3];exact ⟨rfl,rfl⟩
   ·rw [if_neg (show ¬((1:Nat)=0) by omega)] at h3 ⊢;rw [if_pos (h1 ab)];exact ⟨rfl,rfl⟩
  ·simp only [bne_eq_false_iff_eq] at h3;have:k=0\/k=1:=by simp at h;omega
   rcases this with rfl|rfl
   ·rw [if_pos rfl] at h3;exact ⟨n-1,by omega,rfl,1,by omega,by omega,λ_=>h3,by omega⟩
   ·rw [if_neg (show ¬((1:Nat)=0) by omega)] at h3;exact ⟨n-1,by omega,rfl,2,by omega,by omega,λ_=>h1 ab,λ_=>h3⟩
 ·have:k=2:=by simp at h;omega
  subst this;rw [if_pos (h1 ab),h2 ab];exact ⟨rfl,rfl⟩
theorem EV(x y:It)(w:World):ah 289 #[.agg (fI x).toArray,.agg (fI y).toArray] w λe w'=>(∃z:Int,e=z/\(z<0 ↔ x.1<=y.1))/\Ext w w':=by
 apply wC.vc;intro w0 e0 w1 e1;have x1:Ext w w1:=by rw [e1,e0];exact (Ext.al _ _).tr (Ext.al _ _)
 refine (JF x.1 y.1 _).mono ?_;intro e w2 hh;obtain ⟨rfl,ew⟩:=hh;have x2:Ext w w2:=by rw [ew];exact x1
 refine ⟨_,rfl,by rw [ew],by rw [ew],?_⟩;intro w4 e4;have x4:Ext w w4:=x2.bn e4;have cO:Row w4 w2 [.int .i64 (if x.1<y.1 then -1 else if y.1<x.1 then 1 else 0),(-1:Int)] 3:=by rw [e4];exact Row.new w2 [_,_] _
 refine (Zr _ _ _ _ cO).mono ?_;intro e w5 hh;obtain ⟨rfl,ew5⟩:=hh;refine ⟨_,rfl,by rw [ew5],by rw [ew5],⟨_,rfl,?_⟩,by rw [ew5];exact x4⟩;by_cases h1:x.1<y.1
 ·rw [if_pos h1];simp;omega
 ·by_cases h2:y.1<x.1
  ·rw [if_neg h1,if_pos h2];simp;omega
  ·rw [if_neg h1,if_neg h2];simp;omega
theorem fw(l:List It):∀r ∈ l.map fI,r.length=4:=by intro r hr;obtain ⟨x,_,rfl⟩:=aZ.1 hr;rfl
theorem ke(l:List It):∀r ∈ l.map fI,One r:=by intro r hr;obtain ⟨x,_,rfl⟩:=aZ.1 hr;intro u hu;simp at hu;rcases hu with rfl|rfl|rfl|rfl<;>rfl
theorem qO(x:It):One (fI x):=by intro u hu;simp at hu;rcases hu with rfl|rfl|rfl|rfl<;>rfl
theorem Hj(l:List It)(i:Nat):(l.map fI).flatten.take (i*4)=((l.take i).map fI).flatten:=by
 have hw:=fw (l.take i);rcases Nat.lt_or_ge i l.length with h|h
 ·conv=>lhs;rw [<-List.take_append_drop i l,bU,List.flatten_append]
  rw [List.take_left' (by rw [bK hw];simp;omega)]
 ·rw [fC h,fC];rw [bK (fw l)];simp;omega
theorem Hk(l:List It)(i:Nat):(l.map fI).flatten.drop (i*4)=((l.drop i).map fI).flatten:=by
 rcases Nat.lt_or_ge i l.length with h|h
 ·conv=>lhs;rw [<-List.take_append_drop i l,bU,List.flatten_append]
  rw [List.drop_left' (by rw [bK (fw _)];simp;omega)]
 ·rw [List.drop_of_length_le h,List.drop_of_length_le]
  ·rfl
  ·rw [bK (fw l)];simp;omega
theorem Dw{cs:LV}{l:List It}{n:Nat}(ht:cs.take (n*4)=(l.map fI).flatten)(hn:n=l.length)(i j:Nat)(hj:j<((l.drop i).map fI).flatten.length):cs[i*4+j]? =((l.drop i).map fI).flatten[j]? :=by rw [<-Hk,List.getElem?_drop,<-ht,List.getElem?_take,if_pos];rw [bK (fw _)] at hj;simp at hj;omega
set_option maxRecDepth 100000 in
theorem Gr{w:World}{g g':Nat}{x cs:LV}(hx:Row w g x cC)(hr:Row w g' cs cC)(iM:g≠g')(hc:cs.length≠0)(o:Nat)(la ca lb cb:Nat){R:Ending->World->Prop}(h:R (.returned (.bool false)) w):
  X3 Tryz.prog 306 [.slice (some ⟨g,0,none⟩) la ca,.slice (some ⟨g',o,none⟩) lb cb] w R:=by
 refine ⟨_,⟨_,rfl,by kernel_rfl,by kernel_rfl,by kernel_rfl⟩,_,_,Lib.run_overlaps_apart w 153 0 cC (by kernel_rfl) 4 (λw=>by kernel_rfl) ⟨g,0,none⟩ ⟨g',o,none⟩ la ca lb cb iM cC cC x.length cs.length ?_ ?_ hc ?_ ?_,h⟩
 ·simp [World.shape?,show w.heap[g]? =_ from hx]
 ·simp [World.shape?,show w.heap[g']? =_ from hr]
 ·simp [World.frozen?,show w.heap[g]? =_ from hx]
 ·simp [World.frozen?,show w.heap[g]? =_ from hx]
theorem Em{w:World}{g g':Nat}{x cs:LV}(hx:Row w g x cC)(hr:Row w g' cs cC)(iM:g≠g')(hc:cs.length≠0){p:Option Addr}{o:Nat}(hp:p=some ⟨g',o,none⟩)(la ca lb cb:Nat){R:Ending->World->Prop}(h:R (.returned (.bool false)) w):
  X3 Tryz.prog 306 [.slice (some ⟨g,0,none⟩) la ca,.slice p lb cb] w R:=by
 subst hp;exact Gr hx hr iM hc o la ca lb cb h
theorem A9(n:Nat):bu [aa,aa,aa,aa] n=((List.replicate n ((0,0,0,0):It)).map fI).flatten:=by unfold bu;simp
theorem LI{w:World}{s:Sl}{l:List It}{i g:Nat}{x:It}(ho:aC 0 cC 4 w s (l.map fI))(hx:Row w g (fI x) cC)(hi:i<=l.length)(hl:l.length<=5000)(iM:s.aX≠some g):
  ah 292 #[s,(i:Int),.slice (some ⟨g,0,none⟩) 1 1] w λe w'=>∃s':Sl,e=Value.slice s'.a s'.n s'.c/\aC 0 cC 4 w' s' ((l.take i++x::l.drop i).map fI)/\Mod (λb=>s.aX=some b) w w'/\(∀b,s'.aX=some b->s.aX=some b\/w.heap.size<=b):=by
 have hn:s.n=l.length:=by rw [(ho.rd aF).n,aN]
 apply wD.vc (a2:=⟨some ⟨g,0,none⟩,1,1⟩);have Ru:aj (((s.n:Nat):Int)+((1:Nat):Int))=((s.n+1:Nat):Int):=by rw [wI];omega
 have AQ:aj ((i:Int)+((1:Nat):Int))=((i+1:Nat):Int):=by rw [wI];omega
 have Ol:aj (((s.n+1:Nat):Int)-(i:Int))=((s.n+1-i:Nat):Int):=by rw [wI];omega
 have hw4:aj ((s.n+1-i:Nat):Int)=((s.n+1-i:Nat):Int):=wI;have hrx:Rd w (some ⟨g,0,none⟩) (fI x):=hx.rd0 λj hj=>rfl
 dsimp only;rw [Ru,AQ,Ol,hw4];simp only [ej,Nat.sub_zero,ed];refine ⟨by omega,by omega,Br.mk (λh=>by cases h) (λ_=>Br.mk (λh=> ?_) (λh=> ?_))⟩
 ·
  have he:i=l.length:=by simp at h;omega
  obtain ⟨hp,hr⟩:=ho.append (bytes:=32) (news:=fI x) (Nat.zero_le _) rfl (qO x) ab ab;refine ⟨fI x,hrx,hp,λs' w' bw=> ?_⟩;obtain ⟨h1,h2,h3,h4,h5⟩:=hr s' w' bw;refine ⟨s',rfl,?_,Mod.vA h3 h4,?_⟩
  ·rw [he,iA,List.drop_length,bU];exact h1
  ·intro b hb;rcases h5 with h5|h5
   ·exact .inl (h5▸hb)
   ·rw [h5] at hb;cases hb;exact .inr (aB _)
 ·have gZ:i<l.length:=by
   have:i≠l.length:=λe=>by subst e;simp [hn] at h
   omega
  rcases ho.form aF with ⟨hs,Co⟩|⟨g0,cs,ha,hg0,hr,hc,M4,ht,hn'⟩
  ·have:l=[]:=by simpa using Co
   subst this;simp at gZ
  have aeu:g0≠g:=λe=>iM (by unfold Sl.aX;rw [ha,e];rfl)
  have ik:s.aX=some g0:=by unfold Sl.aX;rw [ha];rfl
  have se:cs.take (i*4)=((l.take i).map fI).flatten:=by rw [<-Hj,<-ht,List.take_take,Nat.min_eq_left ab]
  rw [ha];apply Br.mk<;>intro h2
  ·
   replace h2:=mh h2;have aik:aC 0 cC 4 w ⟨some ⟨g0,0,none⟩,i,s.c⟩ ((l.take i).map fI):=aC.jg (Nat.zero_le _) hr hc ab se (fw _);obtain ⟨hp,-⟩:=aik.FY (bytes:=32) (more:=(List.replicate (s.n+1-i) ((0,0,0,0):It)).map fI) (Nat.zero_le _) (fw _) (ke _) (by simp;omega) (by simp;omega);have dI:((List.replicate (s.n+1-i) ((0,0,0,0):It)).map fI).length=s.n+1-i:=by simp
   rw [dI] at hp;rw [A9];refine ⟨by omega,by omega,⟨by omega,trivial,by omega⟩,hp,λs3 w4 bw=> ?_⟩;generalize hz:((List.replicate (s.n+1-i) ((0,0,0,0):It)).map fI).flatten=zs at bw;have N7:zs.length=(s.n+1-i)*4:=by rw [<-hz,bK (fw _)];simp
   cases bw with
   |fits hf=>simp only at hf;omega
   |A3 hg fz rest cap q1 q2 q3 q4=>
    simp only at q1 q2 q3;have Fe:fz=cs.take (i*4):=by
     refine TM q2 (hr.rd0 (vs:=cs.take (i*4)) λj hj=> ?_) ?_
     ·rw [du] at hj;rw [List.getElem?_take,if_pos ab]
     ·rw [q1,du];omega
    have hR:Row (w.drew.alloc (.cells (fz++zs++rest).toArray cC)) w.heap.size (fz++zs++rest) cC:=Row.new w.drew _ _;generalize atF:w.drew.alloc (.cells (fz++zs++rest).toArray cC)=w4 at hR;have x4:Ext w w4:=by rw [<-atF];exact (Ext.dr w).tr (Ext.al _ _)
    have hr4:=hr.ext x4;have hlt0:=hr.lt;have hn3:i+(s.n+1-i)=s.n+1:=by omega
    have hCl:(s.n+1)*4<=(fz++zs++rest).length:=by rw [q4];exact Nat.mul_le_mul_right _ ab
    dsimp only;rw [hn3];have hx4:=hx.ext x4;have oC:((l.drop i).map fI).flatten.length=(s.n-i)*4:=by rw [bK (fw _)];simp;omega
    have hm1:min 1 (s.n+1-i)*4=4:=by
     have:min 1 (s.n+1-i)=1:=by omega
     rw [this]
    have BG:min (s.n-i) (s.n+1-(i+1))=s.n-i:=by omega
    obtain ⟨p1,p2,p3⟩:=hR.XA (vs:=fI x) (l:=i) (m:=cap) (size:=4) (by intro e;omega) (by simp;omega) (qO x);refine ⟨by omega,by omega,fI x,⟨hm1.symm,hx4.rd0 λj hj=>rfl,qO x,p1⟩,?_⟩;intro w6 e6;rw [<-e6] at p2 p3;have hr6:Row w6.drew g0 cs cC:=(p3.row hr4 ab).ext (Ext.dr _);have p2':Row w6.drew w _ cC:=p2.ext (Ext.dr _);obtain ⟨u1,u2,u3⟩:=p2'.XA (vs:=((l.drop i).map fI).flatten) (l:=i+1) (m:=cap) (size:=4) (by intro e;rw [List.drop_of_length_le ab];rfl) (by rw [oC,Go.Vc.dq];omega) (fN (ke _));refine ⟨by omega,by omega,by omega,by omega,((l.drop i).map fI).flatten,⟨by rw [BG,oC],hr6.afV (by intro e;rw [List.drop_of_length_le ab];rfl) (Dw ht hn i),fN (ke _),u1⟩,?_⟩;intro w8 e8;rw [<-e8] at u2 u3;refine ⟨⟨some ⟨w.heap.size,0,none⟩,s.n+1,cap⟩,rfl,aC.jg (Nat.zero_le _) u2 (by rw [Go.Vc.dq,Go.Vc.dq,q4];exact aB _) ab ?_ (fw _),?_,?_⟩
    ·rw [Zj (by simp;omega) (by rw [oC];omega) hCl,gE,gE,List.take_left' (by rw [q1]),Fe,se];simp
    ·refine ((Mod.aD x4).tr p3 (λb hb=> .inr ab)).tr (F':=λb=>b=w.heap.size) ?_ (λb hb=> .inr ab);exact (Mod.aD (Ext.dr _)).trans u3
    ·intro b hb;have:w.heap.size=b:=by simpa [Sl.aX] using hb
     exact .inr ab
  ·
   replace h2:=my h2;have hCl:(s.n+1)*4<=cs.length:=gj (Nat.mul_le_mul_right _ ab) hc;have oC:((l.drop i).map fI).flatten.length=(s.n-i)*4:=by rw [bK (fw _)];simp;omega
   refine ⟨by omega,by omega,by omega,by omega,?_⟩;refine Em hx hr (Ne.symm aeu) ab (by rw [qU,if_neg ab]) _ _ _ _ ⟨_,rfl,Br.mk (λ_=> ?_) (λh=>by cases h)⟩;have BG:min (s.n+1-i) (s.n+1-(i+1))=s.n-i:=by omega
   have hm1:min 1 (s.n+1-i)*4=4:=by
    have:min 1 (s.n+1-i)=1:=by omega
    rw [this]
   have hr':=hr.ext (Ext.dr w);obtain ⟨u1,u2,u3⟩:=hr'.XA (vs:=((l.drop i).map fI).flatten) (l:=i+1) (m:=s.c) (size:=4) (by intro e;omega) (by rw [oC];omega) (fN (ke _));refine ⟨by omega,by omega,by omega,by omega,((l.drop i).map fI).flatten,⟨by rw [BG,oC],hr'.afV (by intro e;omega) (Dw ht hn i),fN (ke _),u1⟩,?_⟩;intro cR Og;rw [<-Og] at u2 u3;obtain ⟨p1,p2,p3⟩:=u2.XA (vs:=fI x) (l:=i) (m:=s.c) (size:=4) (by intro e;omega) (by rw [Go.Vc.dq];simp;omega) (qO x);have atG:Row cR g (fI x) cC:=u3.row (hx.ext (Ext.dr w)) (Ne.symm aeu);refine ⟨by omega,by omega,fI x,⟨hm1.symm,atG.rd0 λj hj=>rfl,qO x,p1⟩,?_⟩;intro bP ux;rw [<-ux] at p2 p3;refine ⟨⟨some ⟨g0,0,none⟩,s.n+1,s.c⟩,rfl,aC.jg (Nat.zero_le _) p2 (by rw [Go.Vc.dq,Go.Vc.dq];exact hc) ab ?_ (fw _),?_,?_⟩
   ·rw [Vo (by simp;omega) (by rw [oC];omega) hCl,se];simp
   ·refine (((Mod.aD (Ext.dr w)).trans u3).trans p3).mono λb _ hb=> ?_
    rw [ik,hb]
   ·intro b hb;exact .inl (ik.trans hb)
theorem RdK.item{w:World}{s:Sl}{l:List It}(h:RdK w s 4 (l.map fI)){i:Nat}{x:It}(hi:l[i]? =some x):ag w (af s.a (i*4)) 0 (fI x):=
 h.bZ (by rw [aU,hi];rfl)
theorem Yw{w:World}{s:Sl}{l:List It}(x:It)(h:RdK w s 4 (l.map fI))(hs:l.Pairwise λa b=>a.1<=b.1)(hl:l.length<=5000):
  ah 288 #[s,.agg (fI x).toArray,.func (.func 289) #[] #[]] w λe w'=>(∃b,e=Value.tuple #[.int .i64 ((l.takeWhile λy=>y.1<=x.1).length:Nat),.bool b])/\Ext w w':=by
 have hn:s.n=l.length:=by rw [h.n,aN]
 apply mE.vc;intro w0 e0;have x0:=aL e0;have Kq:w0.heap.size=w.heap.size+1:=by rw [e0];simp [World.alloc_eq]
 have hk:(l.takeWhile λy=>decide (y.1<=x.1)).length<=l.length:=(List.takeWhile_sublist _).length_le;generalize hkk:(l.takeWhile λy=>decide (y.1<=x.1)).length=k at hk;have FM:∀{i:Nat} {y:It},l[i]? =some y->(i<k ↔ y.1<=x.1):=λhi=>by rw [<-hkk];exact yi hs x.1 hi
 refine ⟨λn a b wr=>Ext w0 wr/\∃lo hi:Nat,a=lo/\b=hi/\lo<=k/\k<=hi/\hi<=l.length/\n=hi-lo,⟨_,rfl,Ext.cE _,0,s.n,rfl,rfl,Nat.zero_le _,by omega,by omega,rfl⟩,?_⟩;rintro n us a b wr ⟨xr,lo,hi,rfl,rfl,h1,h2,h3,rfl⟩;refine Br.mk (λgZ=> ?_) (λQW=> ?_)<;>simp only [cQ,fa] at*
 ·rw [agE ab];have aml:(lo+hi) / 2<l.length:=by omega
  have eN:l[(lo+hi) / 2]? =some l[(lo+hi) / 2]:=cZ aml;generalize l[(lo+hi) / 2]=y at eN;have hr:=(h.ext (x0.tr xr)).ext (Ext.dr wr);have V7:=xr.size;refine ⟨⟨?_,by omega,by omega⟩,y.1,y.2.1,y.2.2.1,y.2.2.2,RdK.item hr eN,?_⟩
  ·exact h.isSome aF (i:=(lo+hi) / 2) (by simpa using aml)
  refine cS (by kernel_rfl) rfl ((EV y x _).mono ?_);rintro e w2 ⟨⟨z,rfl,hz⟩,x2⟩;have hz':=(FM eN).trans hz.symm;have x3:=(xr.tr (Ext.dr wr)).tr x2;refine ⟨z,rfl,(x2.heap ?_),Br.mk (λhb=> ?_) (λhb=> ?_)⟩
  ·show w.heap.size<wr.heap.size;omega
  ·replace hb:=mh hb;have:=hz'.2 hb;have hw:aj ((((lo+hi) / 2:Nat):Int)+1)=(((lo+hi) / 2+1:Nat):Int):=by rw [wI];omega
   rw [hw];exact ⟨_,by omega,trivial,x3,(lo+hi) / 2+1,hi,rfl,rfl,by omega,h2,h3,rfl⟩
  ·replace hb:=my hb;have:¬(lo+hi) / 2<k:=λh=>hb (hz'.1 h)
   exact ⟨_,by omega,trivial,x3,lo,(lo+hi) / 2,rfl,rfl,h1,by omega,by omega,rfl⟩
 ·have:lo=k:=by omega
  subst this;have hr:=(h.ext (x0.tr xr)).ext (Ext.dr wr);have V7:=xr.size;refine Br.mk (λhb=> ?_) (λhb=>⟨⟨_,rfl⟩,x0.tr (xr.tr (Ext.dr _))⟩);replace hb:=mh hb;have eN:l[lo]? =some (l[lo]'ab):=cZ ab;generalize l[lo]'ab=y at eN;refine ⟨⟨h.isSome aF (i:=lo) (by simp;omega),by omega,by omega⟩,y.1,y.2.1,y.2.2.1,y.2.2.2,RdK.item hr eN,?_⟩;refine cS (by kernel_rfl) rfl ((EV y x _).mono ?_);rintro e w2 ⟨⟨z,rfl,hz⟩,x2⟩;refine ⟨z,rfl,x2.heap (show w.heap.size<wr by omega),⟨_,rfl⟩,(x0.tr (xr.tr (Ext.dr wr))).tr x2⟩
theorem Dv(x:It){b:Nat}{c:Cl}{w:World}(hb:Row w b (dA c) tg):ah 287 #[.agg (fI x).toArray,b] w λe w'=>e=Value.bool (x.2==c)/\Ext w w':=by apply wB.vc;intro w0 e0;have x0:=aL e0;exact ⟨c.1,c.2.1,c.2.2,(hb.ext x0).bZ (λj hj=>by rw [ep]),rfl,x0⟩
theorem vD{w:World}{s:Sl}{l:List It}{b:Nat}{c:Cl}(h:RdK w s 4 (l.map fI))(hb:Row w b (dA c) tg)(hl:l.length<=5000):
  ah 304 #[s,.func (.func 287) #[] #[b]] w λe w'=>(∃i:Int,e=i/\((i= -1/\∀x ∈ l,x.2≠c)\/∃k:Nat,i=k/\k<l.length/\(∀x ∈ l.take k,x.2≠c)/\∀x,l[k]? =some x->x.2=c))/\Ext w w':=by
 have hn:s.n=l.length:=by rw [h.n,aN]
 apply sH.vc;refine ⟨λn a wr=>Ext w wr/\∃k:Nat,a=k/\k+n=l.length/\(∀x ∈ l.take k,x.2≠c),⟨l.length,Ext.cE _,0,rfl,by omega,by simp⟩,?_⟩;rintro n us a wr ⟨xr,k,rfl,h1,h2⟩;refine Br.mk (λgZ=> ?_) (λQW=> ?_)<;>simp only [cQ,fa] at*
 ·have eN:l[k]? =some (l[k]'ab):=cZ ab;generalize l[k]'ab=y at eN;refine ⟨⟨h.isSome aF (i:=k) (by simp;omega),by omega,by omega⟩,y.1,y.2.1,y.2.2.1,y.2.2.2,RdK.item (h.ext xr) eN,?_⟩;refine cS (by kernel_rfl) rfl ((Dv y (hb.ext xr)).mono ?_);rintro e w2 ⟨rfl,x2⟩;refine ⟨_,rfl,Br.mk (λhb=> ?_) (λhb=> ?_)⟩
  ·refine ⟨⟨_,rfl,.inr ⟨k,rfl,by omega,h2,λx hx=> ?_⟩⟩,xr.tr x2⟩;rw [eN] at hx;cases hx;simpa using hb
  ·have hw:=mz (j:=k);rw [hw];refine ⟨n-1,by omega,xr.tr x2,k+1,rfl,by omega,λx hx=> ?_⟩;rw [dD,eN] at hx;rcases di.1 hx with hx|hx
   ·exact h2 x hx
   ·simp at hx;subst hx;simpa using hb
 ·refine ⟨⟨_,rfl,.inl ⟨rfl,?_⟩⟩,xr⟩;rw [fC ab] at h2;exact h2
theorem Du{w:World}{s:Sl}{l:List It}(ho:aC 0 cC 4 w s (l.map fI)){i:Nat}(hi:i<=l.length):
  Wr w (aJ s.a i s.c 4) ((s.n-i)*4)/\∀w',w'=aH w (aJ s.a i s.c 4) (bu [aa,aa,aa,aa] (s.n-i))->
   aC 0 cC 4 w' ⟨s.a,i,s.c⟩ ((l.take i).map fI)/\Mod (λb=>s.aX=some b) w w':=by
 have hn:s.n=l.length:=by rw [(ho.rd aF).n,aN]
 rw [A9];rcases ho.form aF with ⟨hs,Co⟩|⟨g0,cs,ha,hg0,hr,hc,M4,ht,hn'⟩
 ·have:l=[]:=by simpa using Co
  subst this;have:i=0:=by simpa using hi
  subst this;subst hs;refine ⟨λj hj=>by simp at hj,λw' e=> ?_⟩;have:w'=w:=by rw [e];rfl
  subst this;exact ⟨aC.nil,Mod.refl _ _⟩
 ·have ik:s.aX=some g0:=by unfold Sl.aX;rw [ha];rfl
  have N7:((List.replicate (s.n-i) ((0,0,0,0):It)).map fI).flatten.length=(s.n-i)*4:=by rw [bK (fw _)];simp
  have hcl:s.n*4<=cs.length:=gj (Nat.mul_le_mul_right _ M4) hc;rw [ha];have hz0:s.c=i->((List.replicate (s.n-i) ((0,0,0,0):It)).map fI).flatten=[]:=λe=>by
   have:s.n-i=0:=by omega
   rw [this];rfl
  obtain ⟨p1,p2,p3⟩:=hr.XA (l:=i) (m:=s.c) (size:=4) hz0 (by rw [N7];omega) (fN (ke _));rw [N7] at p1;refine ⟨p1,λw' e=> ?_⟩;rw [<-e] at p2 p3;refine ⟨aC.jg (Nat.zero_le _) p2 (by rw [Go.Vc.dq];exact hc) ab ?_ (fw _),p3.mono λb _ hb=>by rw [ik,hb]⟩;rw [dj _ _ _ (by rw [N7];omega),gE,List.take_left' (by rw [du];omega),<-Hj,<-ht,List.take_take,Nat.min_eq_left ab]
theorem XB{w:World}{s:Sl}{l:List It}(ho:aC 0 cC 4 w s (l.map fI)){i:Nat}(hi:i<l.length)(x:It):
  (af s.a (i*4)).isSome=true/\Wr w (af s.a (i*4)) 4/\∀w',w'=aH w (af s.a (i*4)) (fI x)->aC 0 cC 4 w' s ((l.set i x).map fI)/\Mod (λb=>s.aX=some b) w w':=by
 obtain ⟨h1,h2,h3,h4,h5⟩:=ho.put (i:=i) (r:=fI x) (by simpa using hi) aF rfl (qO x);refine ⟨h1,h2,λw' e=> ?_⟩;subst e;exact ⟨by rw [List.map_set];exact h3,h4.os,h4.tape,h4.output,h4.size,λj _ hn=>h5 j hn⟩
theorem BK{w:World}{s:Sl}{l:List It}{b:Nat}{c:Cl}(ho:aC 0 cC 4 w s (l.map fI))(hb:Row w b (dA c) tg)(hl:l.length<=5000):
  ah 286 #[s,.func (.func 287) #[] #[.pointer (some ⟨b,0,none⟩)]] w λe w'=>∃s':Sl,e=s'/\aC 0 cC 4 w' s' ((gl l c).map fI)/\Mod (λb=>s.aX=some b) w w'/\s'.aX=s.aX:=by
 have hn:s.n=l.length:=by rw [(ho.rd aF).n,aN]
 have yN:s.aX≠some b:=λe=>by
  rcases ho.form aF with ⟨hs,Co⟩|⟨g0,cs,ha,hg0,hr,hc,M4,ht,hn'⟩
  ·rw [hs] at e;cases e
  ·have:g0=b:=by unfold Sl.aX at e;rw [ha] at e;simpa using e
   exact hr.ne hb aF this
 apply qP.vc;refine (vD (ho.rd aF) hb hl).mono ?_;rintro e w1 ⟨⟨i,rfl,hi⟩,x1⟩;refine ⟨i,rfl,Br.mk (λh=> ?_) (λh=> ?_)⟩
 ·have hm:i= -1:=by simpa using h
  rcases hi with ⟨-,qA⟩|⟨k,hk,-⟩
  ·refine ⟨s,rfl,?_,Mod.aD x1,rfl⟩;have:gl l c=l:=by unfold gl;rw [List.filter_eq_self];intro x hx;simpa using qA x hx
   rw [this];exact ho.ext x1
  ·omega
 ·have hm:i≠-1:=by simpa using h
  rcases hi with ⟨hi,-⟩|⟨k,rfl,hk,apu,hkc⟩
  ·exact absurd hi hm
  have hw:=mz (j:=k);have hq:gl (l.take (k+1)) c=l.take k:=by
   unfold gl;rw [dD,oY];have e1:(l.take k).filter (λx=>x.2 !=c)=l.take k:=by rw [List.filter_eq_self];intro x hx;simpa using apu x hx
   have eN:l[k]? =some (l[k]'hk):=cZ hk;have:=hkc _ eN;rw [e1,eN];simp [this]
  refine ⟨λn a d wr=>Mod (λb=>s.aX=some b) w wr/\∃(j m:Nat)(l':List It),a=j/\d=m/\j+n=l.length/\m<j/\m=(gl (l.take j) c).length/\aC 0 cC 4 wr s (l'.map fI)/\l'.length=l.length/\l'.take m=gl (l.take j) c/\l'.drop j=l.drop j,⟨l.length-(k+1),Mod.aD x1,k+1,k,l,hw,rfl,by omega,by omega,?_,ho.ext x1,rfl,hq.symm,rfl⟩,?_⟩
  ·rw [hq,du];omega
  rintro n us a d wr ⟨jl,j,m,l',rfl,rfl,h1,h2,h3,ho',h4,h5,h6⟩;have hbr:Row wr b (dA c) tg:=jl.row hb yN;refine Br.mk (λgZ=> ?_) (λQW=> ?_)
  ·replace gZ:=mh gZ;have eN:l[j]? =some (l[j]'ab):=cZ ab;generalize l[j]'ab=y at eN;have aka:l'[j]? =some y:=by have:=congrArg (λq:List It=>q[0]?) h6;simpa [List.getElem?_drop,eN] using this
   refine ⟨⟨(ho'.rd aF).isSome aF (i:=j) (by simp;omega),by omega,by omega⟩,y.1,y.2.1,y.2.2.1,y.2.2.2,RdK.item (ho'.rd aF) aka,?_⟩;intro bJ Cp bP ux;have bX:Ext wr bP:=(Ext.cE wr|>.bn Cp).ae ux (aB _);have ag2:wr.heap.size<bP:=by rw [ux,setRow_size,Cp];simp
   refine cS (by kernel_rfl) rfl ((Dv y (hbr.ext bX)).mono ?_);rintro e w2 ⟨rfl,x2⟩;have x3:=bX.tr x2;have hwj:=mz (j:=j);have hwm:=mz (j:=m);have hqj:gl (l.take (j+1)) c=gl (l.take j) c++(if y.2=c then [] else [y]):=by unfold gl;rw [dD,eN,oY];congr 1;by_cases hy:y.2=c<;>simp [hy]
   refine ⟨_,rfl,x2.heap ag2,Br.mk (λjC=> ?_) (λjC=> ?_)⟩
   ·have hy:y.2≠c:=by simpa using jC
    obtain ⟨p1,p2,p3⟩:=XB (ho'.ext x3) (i:=m) ab y;refine ⟨⟨(ho'.rd aF).isSome aF (i:=m) (by simp;omega),by omega,by omega⟩,⟨p1,p2⟩,?_,?_⟩
    ·rw [cV];intro e;have:=ho'.own.lt (g:=wr.heap.size) e;omega
    ·intro cL ze;obtain ⟨q1,q2⟩:=p3 cL ze;rw [hwj,hwm];refine ⟨n-1,by omega,(jl.trans (Mod.aD x3)).trans q2,j+1,m+1,l'.set m y,rfl,rfl,by omega,by omega,?_,q1,by rw [iq,h4],?_,?_⟩
     ·rw [hqj,if_neg hy,dm,<-h3];rfl
     ·rw [hqj,if_neg hy,<-h5,dD,List.take_set_of_le (aB _),oP ab];rfl
     ·rw [List.drop_set_of_lt ab];have:=congrArg (List.drop 1) h6;simpa [List.drop_drop] using this
   ·have hy:y.2=c:=by simpa using jC
    rw [hwj];refine ⟨n-1,by omega,jl.trans (Mod.aD x3),j+1,m,l',rfl,rfl,by omega,by omega,?_,ho'.ext x3,h4,?_,?_⟩
    ·rw [hqj,if_pos hy,rS];exact h3
    ·rw [hqj,if_pos hy,rS];exact h5
    ·have:=congrArg (List.drop 1) h6;simpa [List.drop_drop] using this
  ·replace QW:=my QW;have hj:j=l.length:=by omega
   have Wc:=(ho'.form aF);have M4:s.n<=s.c:=by
    rcases Wc with ⟨hs,-⟩|⟨g0,cs,ha,hg0,hr,hc,M4,ht,hn'⟩
    ·rw [hs];exact aB _
    ·exact M4
   obtain ⟨p1,p2⟩:=Du ho' (i:=m) ab;refine ⟨by omega,by omega,p1,λdG We=> ?_⟩;obtain ⟨q1,q2⟩:=p2 dG We;refine ⟨by omega,by omega,⟨s.a,m,s.c⟩,?_,?_,jl.trans q2,rfl⟩
   ·rw [ed];rfl
   ·rw [h5,hj,iA] at q1;exact q1
theorem ti{w:World}{s:Sl}{l:List It}{n:Nat}(ho:aC 0 cC 4 w s (l.map fI))(hi:n<=l.length)(hl:l.length<=5000):
  ah 241 #[s,aa,(n:Int)] w λe w'=>∃s':Sl,e=s'/\aC 0 cC 4 w' s' ((l.drop n).map fI)/\Mod (λb=>s.aX=some b) w w'/\s'.aX=s.aX:=by
 have hn:s.n=l.length:=by rw [(ho.rd aF).n,aN]
 have M4:s.n<=s.c:=by
  rcases ho.form aF with ⟨hs,-⟩|⟨g0,cs,ha,hg0,hr,hc,M4,ht,hn'⟩
  ·rw [hs];exact aB _
  ·exact M4
 apply vE.vc;refine ⟨by omega,by omega,by omega,by omega,by omega,by omega,Br.mk (λh=> ?_) (λh=> ?_)⟩
 ·have:n=0:=by
   have:(0:Int)=n:=by simpa using h
   omega
  subst this;exact ⟨s,rfl,ho,Mod.refl _ _,rfl⟩
 ·have AL:0<n:=by
   have:(0:Int)≠n:=by simpa using h
   omega
  rcases ho.form aF with ⟨hs,Co⟩|⟨g0,cs,ha,hg0,hr,hc,M4,ht,hn'⟩
  ·have:l=[]:=by simpa using Co
   subst this;simp at hi;omega
  have ik:s.aX=some g0:=by unfold Sl.aX;rw [ha];rfl
  have oC:((l.drop n).map fI).flatten.length=(s.n-n)*4:=by rw [bK (fw _)];simp;omega
  have hcl:s.n*4<=cs.length:=gj (Nat.mul_le_mul_right _ M4) hc;have hr':=hr.ext (Ext.dr w);simp only [ej,Nat.sub_zero,ed,Int.toNat_zero];rw [ha];refine ⟨by omega,by omega,by omega,by omega,((l.drop n).map fI).flatten,?_,?_,?_⟩
  ·exact hr'.afV (by intro e;rw [List.drop_of_length_le ab];rfl) (Dw ht hn n)
  ·refine ⟨λ_=> ?_,λh=> ?_,λh=> ?_,oC,fN (ke _)⟩
   ·show Wr _ (af (some ⟨g0,0,none⟩) (0*4)) _;rw [bf];exact hr'.wr (by rw [oC];omega)
   ·simp only at h;omega
   ·simp only at h;omega
  ·intro s1 w2 bw
   cases bw with
   |A3 hg=>simp only at hg;omega
   |fits hf=>
    dsimp only;have e0:af (some (⟨g0,0,none⟩:Addr)) (0*4)=some ⟨g0,0,none⟩:=by rw [bf]
    rw [e0];have oJ:=hr'.aH (o:=0) (vs:=((l.drop n).map fI).flatten) (by rw [oC];omega) (fN (ke _));have pP:Row (Go.Vc.aH w.drew (some ⟨g0,0,none⟩) ((l.drop n).map fI).flatten) g0 (aR cs 0 ((l.drop n).map fI).flatten) cC:=by rw [oJ];exact hr'.set _
    have BG:Mod (λi=>i=g0) w (Go.Vc.aH w.drew (some ⟨g0,0,none⟩) ((l.drop n).map fI).flatten):=by rw [oJ];exact (Mod.aD (Ext.dr w)).trans ⟨rfl,rfl,rfl,by rw [setRow_size];exact aB _,λi _ hn=>setRow_other _ _ _ _ hn⟩
    generalize Go.Vc.aH w.drew (some ⟨g0,0,none⟩) ((l.drop n).map fI).flatten=w2 at pP BG;have hz:0+(s.n-n)=s.n-n:=by omega
    rw [hz];have qB:aC 0 cC 4 w2 ⟨some ⟨g0,0,none⟩,s.n,s.c⟩ ((l.drop n++l.drop (l.length-n)).map fI):=by refine aC.jg (Nat.zero_le _) pP (by rw [Go.Vc.dq];exact hc) M4 ?_ (fw _);rw [dj _ _ _ (by rw [oC];omega),bU,List.flatten_append,Ba,XC];rw [List.take_append,fC (by rw [oC];omega),oC,ep,<-Hk l (l.length-n),<-ht];congr 1;rw [List.drop_take,hn]
    obtain ⟨p1,p2⟩:=Du qB (i:=s.n-n) (by simp;omega);have hnn:((s.n:Nat):Int).toNat-(((s.n-n:Nat):Nat):Int).toNat=s.n-(s.n-n):=by omega
    refine ⟨by omega,by omega,by omega,by omega,p1,λw3 e3=> ?_⟩;obtain ⟨q1,q2⟩:=p2 w3 e3;refine ⟨⟨some ⟨g0,0,none⟩,s.n-n,s.c⟩,rfl,?_,?_,ik.symm⟩
    ·rw [List.take_left' (by simp;omega)] at q1;exact q1
    ·refine (BG.mono λb _ hb=>by rw [ik,hb]).trans (q2.mono λb _ hb=> ?_);have:g0=b:=by simpa [Sl.aX] using hb
     rw [ik,this]
def gW(g m:Nat)(s:Sl):Nat->Prop:=λi=>i=g\/i=m\/s.aX=some i
abbrev pB(q:QS)(s:Sl)(m:Nat):LV:=[.int .i64 q.room,.int .i64 q.lost,.slice s.a s.n s.c,.map (some m)]
def mO(kvs:List (Value × Value))(l:List It):Prop:=(∀c t,(cv c,tv t) ∈ kvs ↔(t,c) ∈ l)/\∀e ∈ kvs,∃c t,e=(cv c,tv t)
structure vk(w:World)(g m:Nat)(s:Sl)(q:QS):Prop where
 row:Row w g (pB q s m) gK
 own:aC 0 cC 4 w s (q.l.map fI)
 map:∃kvs,cl GC w (some m) kvs/\mO kvs q.l
theorem vk.dO{w:World}{g m:Nat}{s:Sl}{q:QS}(h:vk w g m s q){b:Nat}{cs:LV}{E:TypeId}(hb:Row w b cs E)(h1:E≠gK)(h2:E≠cC):¬gW g m s b:=by
 rintro (rfl|rfl|e)
 ·exact hb.ne h.row h1 rfl
 ·obtain ⟨kvs,hm,-⟩:=h.map;exact hb.jj hm rfl
 ·obtain ⟨cs',hr⟩:=bc h.own aF e;exact hb.ne hr h2 rfl
theorem vk.YR{w:World}{g m:Nat}{s:Sl}{q:QS}(h:vk w g m s q){B E k:Nat}{s':Sl}{rows:List (LV)}(ho:aC B E k w s' rows)(hk:0<k)(h1:E≠gK)(h2:E≠cC):∀b,s'.aX=some b->¬gW g m s b:=λb hb=>by
 obtain ⟨cs,hr⟩:=bc ho hk hb
 exact h.dO hr h1 h2
theorem vk.lt{w:World}{g m:Nat}{s:Sl}{q:QS}(h:vk w g m s q):∀i,gW g m s i->i<w.heap.size:=by
 rintro i (rfl|rfl|e)
 ·exact h.row.lt
 ·obtain ⟨kvs,hm,-⟩:=h.map;exact hm.lt
 ·exact (h.own.own.lt e).2
theorem vk.c5{w w':World}{g m:Nat}{s:Sl}{q:QS}(h:vk w g m s q){F:Nat->Prop}(hm:Mod F w w')(hn:∀i,gW g m s i->¬F i):vk w' g m s q:=by obtain ⟨kvs,h1,h2⟩:=h.map;exact ⟨hm.row h.row (hn g (.inl rfl)),hm.fk h.own λb hb=>hn b (.inr (.inr hb)),kvs,hm.map h1 (hn m (.inr (.inl rfl))),h2⟩
theorem vk.ext{w w':World}{g m:Nat}{s:Sl}{q:QS}(h:vk w g m s q)(x:Ext w w'):vk w' g m s q:=
 h.c5 (F:=λ_=>False) ⟨x.os,x.tape,x.output,x.size,λi hi _=>x.heap hi⟩ λ_ _ hf=>hf
theorem vk.od{w:World}{g m:Nat}{s:Sl}{q:QS}(h:vk w g m s q):g≠m:=by obtain ⟨kvs,hm,-⟩:=h.map;exact h.row.jj hm
theorem vk.pC{w:World}{g m:Nat}{s:Sl}{q:QS}(h:vk w g m s q):s.aX≠some m:=λe=>by
 obtain ⟨kvs,hm,-⟩:=h.map
 obtain ⟨cs,hr⟩:=bc h.own aF e
 exact hr.jj hm rfl
theorem vk.Ao{w:World}{g m:Nat}{s:Sl}{q:QS}(h:vk w g m s q):s.aX≠some g:=λe=>by
 obtain ⟨cs,hr⟩:=bc h.own aF e
 exact hr.ne h.row aF rfl
theorem mO.look{kvs:List (Value × Value)}{l:List It}(h:mO kvs l)(hn:(l.map (·.2)).Nodup)(c:Cl):Gi kvs (cv c) (tv 0) (tv ((oe l c).getD 0)) (oe l c).isSome:=by
 cases hq:oe l c with
 |some t=>exact .inl ⟨rfl,(h.1 c t).2 (Es hq)⟩
 |none=>
  refine .inr ⟨rfl,rfl,λe he hk=> ?_⟩;obtain ⟨c',t,rfl⟩:=h.2 e he;exact rn hq (t,c') ((h.1 _ _).1 he) (Er hk)
open Classical in
theorem mO.del{kvs:List (Value × Value)}{l:List It}(h:mO kvs l)(c:Cl):mO (EB kvs (cv c)) (gl l c):=by
 refine ⟨λc' t=> ?_,λe he=>h.2 e (List.mem_filter.1 he).1⟩;unfold EB gl;rw [List.mem_filter,List.mem_filter,h.1];refine and_congr_right λ_=> ?_
 rw [bne_iff_ne];refine decide_eq_true_iff.trans ?_;exact not_congr ⟨λe=>Er e,λe=>by rw [show c'=c from e]⟩
theorem mO.ins{kvs:List (Value × Value)}{l:List It}(h:mO kvs l){x:It}(hx:∀y ∈ l,y.2≠x.2):mO (vQ kvs (cv x.2) (tv x.1)) (wg l x):=by
 unfold vQ;rw [if_neg]
 ·refine ⟨λc t=> ?_,λe he=> ?_⟩
  ·rw [di,h.1,Et,List.mem_singleton];constructor
   ·rintro (h1|h1)
    ·exact .inr h1
    ·obtain ⟨e1,e2⟩:=Prod.mk.inj h1;have:=Er e1;have h2:t=x.1:=by unfold tv at e2;injection e2
     left;rw [this,h2]
   ·rintro (h1|h1)
    ·right;rw [<-h1]
    ·exact .inl h1
  ·rcases di.1 he with he|he
   ·exact h.2 e he
   ·rw [List.mem_singleton] at he;exact ⟨_,_,he⟩
 ·rintro ⟨e,he,hk⟩;obtain ⟨c',t,rfl⟩:=h.2 e he;exact hx (t,c') ((h.1 _ _).1 he) (Er hk)
theorem mO.perm{kvs:List (Value × Value)}{l l':List It}(h:mO kvs l)(hl:∀x,x ∈ l ↔ x ∈ l'):mO kvs l':=⟨λc t=>(h.1 c t).trans (hl _),h.2⟩
theorem Eh(room:Int)(w:World):ah 97 #[room] w λe w'=>∃g m,e=Value.pointer (some ⟨g,0,none⟩)/\vk w' g m ⟨none,0,0⟩ ⟨min (max room 1) 4096,0,[]⟩/\Ext w w'/\w.heap.size<=g/\w.heap.size<=m:=by
 apply U0.vc;intro w0 e0 w1 e1;have hm:cl GC w0 (some w.heap.size) []:=by rw [e0];exact cl.new
 have x1:=aL e1;refine ⟨w0.heap.size,w.heap.size,rfl,⟨?_,aC.nil,[],?_,by simp [mO]⟩,(aL e0).tr x1,?_,aB _⟩
 ·have:(min (max room 1) 4096)=(if 4096<(if 1>room then 1 else room) then 4096 else (if 1>room then 1 else room)):=by split<;>split<;>omega
  rw [e1,this];exact Row.new w0 [_,_,_,_] _
 ·exact hm.same (x1.heap hm.lt)
 ·rw [e0];simp
theorem CR{w:World}{g m:Nat}{s:Sl}{q:QS}(h:vk w g m s q)(hq:Ji q)(c:Cl):ah 262 #[g,cv c] w λe w'=>e=Value.tuple #[.int .i64 ((oe q.l c).getD 0),.bool (oe q.l c).isSome]/\Ext w w':=by apply EC.vc;intro w0 e0;have x0:Ext w w0.drew:=(Ext.cE w|>.bn e0).drew;have h0:=h.ext x0;obtain ⟨kvs,hm,ht⟩:=h0.map;exact ⟨some m,h0.row.at 3 rfl,GC,kvs,rj,hm,⟨c,rfl⟩,_,_,ht.look hq.nodup c,rfl,x0⟩
theorem gW.pz{g m:Nat}{s s':Sl}{w w':World}(hm:Mod (gW g m s) w w')(hs:∀b,s'.aX=some b->s.aX=some b\/w.heap.size<=b):aM (gW g m s) (gW g m s') w w':=
 ⟨hm,λi hi=>by
  rcases hi with h|h|h
  ·exact .inl (.inl h)
  ·exact .inl (.inr (.inl h))
  ·rcases hs i h with h|h
   ·exact .inl (.inr (.inr h))
   ·exact .inr h⟩
theorem HD{w:World}{g m:Nat}{s:Sl}{q:QS}(h:vk w g m s q)(hsort:q.l.Pairwise λa b=>a.1<=b.1)(hl:q.l.length<=4998){x:It}(hx:∀y ∈ q.l,y.2≠x.2):
  ah 264 #[g,.agg (fI x).toArray] w λe w'=>e=sY/\∃s',vk w' g m s' {q with l:=wg q.l x}/\aM (gW g m s) (gW g m s') w w':=by
 apply An.vc;intro w0 e0;have x0:=aL e0;have Kq:=eG e0;have h0:=h.ext (x0.drew);refine ⟨s,h0.row.at 2 rfl,?_⟩;refine (Yw x (h0.own.rd aF) hsort ab).mono ?_;rintro e w2 ⟨⟨b,rfl⟩,x2⟩;refine ⟨_,b,rfl,x2.heap (show w.heap.size<w0 by omega),?_⟩;have h2:=(h0.ext x2).ext (Ext.dr _);refine ⟨s,h2.row.at 2 rfl,?_⟩;intro w6 e6;have x6:=aL e6;have h6:=h2.ext x6;have cO:Row w6 w2.drew.heap.size (fI x) cC:=by rw [e6];exact Row.new _ _ _
 have hz2:=x2.size;have V7:w.heap.size<w2.drew.heap.size:=j6 (show w.heap.size<w0 by omega) hz2;have hk:=(List.takeWhile_sublist (λy:It=>decide (y.1<=x.1)) (l:=q.l)).length_le;have yN:s.aX≠some w2.drew.heap.size:=λe=>by have:=h2.lt _ (.inr (.inr e));omega
 refine (LI h6.own cO hk ab yN).mono ?_;rintro e w7 ⟨s8,rfl,xc,hm8,hs8⟩;have ard:s.aX≠some w.heap.size:=λe=>by have:=h.lt _ (.inr (.inr e));omega
 have x06:Ext w w6:=((x0.drew).tr x2).tr ((Ext.dr _).tr x6);refine ⟨s8,rfl,hm8.same _ (by have:=x6.size;omega) ard,?_⟩;have hr7:Row w7 g (pB q s m) gK:=hm8.row h6.row h6.Ao;obtain ⟨p1,p2⟩:=hr7.je (j:=2) (v:=.slice s8.a s8.n s8.c) bB rfl;refine ⟨⟨rfl,p1⟩,?_,?_⟩
 ·rw [cV];intro e;have:=h.row.lt;have:g=w.heap.size:=by simpa [bD] using e
  omega
 intro w9 e9;obtain ⟨q1,q2⟩:=p2 w9 e9;have x9:=Ext.dr w9;have hr9:=q1.ext x9;refine ⟨some m,hr9.at 3 rfl,?_⟩;obtain ⟨kvs,FG,ht⟩:=h6.map;have hmap9:cl GC w9.drew (some m) kvs:=(Mod.aD (F:=λ_=>False) x9).map (q2.map (hm8.map FG h6.pC) (Ne.symm h.od)) bB;refine ⟨GC,kvs,rj,rfl,hmap9,⟨x.2,rfl⟩,?_⟩;intro bJ fQ hmap13;have ah0:=Mod.nX fQ;refine ⟨rfl,s8,⟨?_,?_,_,hmap13,ht.ins hx⟩,gW.pz ?_ ?_⟩
 ·exact ah0.row hr9 h.od
 ·have he:=acR q.l x;rw [he] at xc;have hrow8:=λb hb=>bc xc aF (b:=b) hb
  refine ah0.fk ((q2.fk xc λb hb hf=> ?_).ext x9) λb hb hf=> ?_
  ·obtain ⟨cs,hr⟩:=hrow8 b hb;exact hr.ne hr7 aF hf
  ·obtain ⟨cs,hr⟩:=hrow8 b hb;exact hr.jj (hm8.map FG h6.pC) hf
 ·refine ((((Mod.aD x06).trans (hm8.mono λb _ hb=> .inr (.inr hb))).trans (q2.mono λb _ hb=> .inl hb)).trans (Mod.aD x9)).trans (ah0.mono λb _ hb=> .inr (.inl hb))
 ·intro b hb;rcases hs8 b hb with h1|h1
  ·exact .inl h1
  ·exact .inr (gj x06.size h1)
theorem UH{w:World}{g m:Nat}{s:Sl}{q:QS}(h:vk w g m s q)(hq:Ji q)(c:Cl):
  ah 263 #[g,cv c] w λe w'=>e=Value.bool (oe q.l c).isSome/\∃s',vk w' g m s' {q with l:=gl q.l c}/\aM (gW g m s) (gW g m s') w w':=by
 apply Aq.vc;intro w0 e0;have x0:=aL e0;have hbox0:Row w0 w (dA c) tg:=by rw [e0];exact Row.new _ _ _
 have h0:=h.ext x0.drew;obtain ⟨kvs,hm,ht⟩:=h0.map;refine ⟨some m,h0.row.at 3 rfl,GC,kvs,rj,hm,⟨c,rfl⟩,_,_,ht.look hq.nodup c,Br.mk (λhb=> ?_) (λhb=> ?_)⟩
 ·have hn:oe q.l c=none:=by simpa using hb
  refine ⟨by rw [hn];rfl,s,?_,aM.aD x0.drew⟩;have:gl q.l c=q.l:=by unfold gl;rw [List.filter_eq_self];intro y hy;simpa using rn hn y hy
  rw [this];exact h0
 ·have hsome:(oe q.l c).isSome=true:=by simpa using hb
  have h1:=h0.ext (Ext.dr _);refine ⟨some m,h1.row.at 3 rfl,GC,kvs,rj,rfl,(Mod.aD (F:=λ_=>False) (Ext.dr _)).map hm bB,⟨c,rfl⟩,?_⟩;intro w9 fQ hmap9;have hm9:=Mod.nX fQ;have hr9:Row w9 g (pB q s m) gK:=hm9.row h1.row h.od;refine ⟨s,hr9.at 2 rfl,?_⟩;have dI:=hq.len;have hroom:=hq.room;have hbox9:Row w9 w (dA c) tg:=hm9.row (hbox0.ext (Ext.dr _|>.tr (Ext.dr _))) (λe=>by have:w.heap.size=m:=e;have:=h.lt m (.inr (.inl rfl));omega);have ho9:aC 0 cC 4 w9 s (q.l.map fI):=hm9.fk h1.own λb hb hf=>h1.pC (by rw [hb];exact congrArg some hf)
  refine (BK ho9 hbox9 ab).mono ?_;rintro e aY ⟨jJ,rfl,aeg,ah1,ahT⟩;have Nz:s.aX≠some m:=h.pC;have alD:Row aY g (pB q s m) gK:=ah1.row hr9 h.Ao;obtain ⟨p1,p2⟩:=alD.je (j:=2) (v:=.slice jJ.a jJ.n jJ.c) bB rfl;refine ⟨jJ,rfl,⟨rfl,p1⟩,λbJ Cp=> ?_⟩;obtain ⟨q1,q2⟩:=p2 bJ Cp;refine ⟨by rw [hsome],jJ,⟨q1,?_,_,q2.map (ah1.map hmap9 Nz) (Ne.symm h.od),ht.del c⟩,gW.pz ?_ ?_⟩
  ·refine q2.fk aeg λb hb hf=> ?_
   obtain ⟨cs,hr⟩:=bc aeg aF hb;exact hr.ne alD aF hf
  ·exact (((Mod.aD (x0.drew.drew)).trans (hm9.mono λb _ hb=> .inr (.inl hb))).trans (ah1.mono λb _ hb=> .inr (.inr hb))).trans (q2.mono λb _ hb=> .inl hb)
  ·intro b hb;exact .inl (ahT▸hb)
theorem LG{w:World}{g m:Nat}{s:Sl}{q:QS}(h:vk w g m s q)(hq:Ji q)(hl:0<=q.lost/\q.lost<=1000000)(c:Cl)(t:Int):
  ah 211 #[g,cv c,t] w λe w'=>e=Value.bool (oH q c t).2/\∃s',vk w' g m s' (oH q c t).1/\aM (gW g m s) (gW g m s') w w':=by
 apply Cf.vc;intro w0 e0;have x0:=aL e0;have Kq:=eG e0;have h0:=h.ext x0;have hn:s.n=q.l.length:=by rw [(h.own.rd aF).n,aN]
 have dI:=hq.len;have hroom:=hq.room;have hbg:g<w:=h.row.lt;have hbf:∀{s':Sl} {w1 w':World},w.heap.size<w1->aM (gW g m s) (gW g m s') w1 w'->w'.heap[w.heap.size]? =w1.heap[w.heap.size]? :=λgZ ht=>
  ht.mod.same _ gZ λhf=>by have:=h.lt _ hf;omega
 refine (CR h0 hq c).mono ?_;rintro e w1 ⟨rfl,x1⟩;have h1:=h0.ext x1;have jT:=x0.tr x1;have Om:w.heap.size<w1:=by have:=x1.size;omega
 refine ⟨_,_,rfl,x1.heap (show w.heap.size<w0 by omega),Br.mk (λhb=> ?_) (λhb=> ?_)⟩
 ·obtain ⟨was,hw⟩:=nH.1 hb;have hg:(oe q.l c).getD 0=was:=by rw [hw];rfl
  rw [hg];refine Br.mk (λhc=> ?_) (λhc=>Br.mk (λ_=> ?_) (λhn=>by rw [hb] at hn;cases hn))
  ·replace hc:=mh hc;have e:oH q c t=(q,false):=by unfold oH;rw [hw];simp [hc]
   rw [e];exact ⟨rfl,s,h1,aM.aD jT⟩
  ·replace hc:=my hc;have e:oH q c t=({q with l:=wg (gl q.l c) (t,c)},true):=by unfold oH;rw [hw];simp [hc]
   rw [e];refine (UH h1 hq c).mono ?_;rintro e w4 ⟨rfl,s4,h4,t4⟩;refine ⟨_,rfl,hbf Om t4,?_⟩;have hq4:=hq.drop c;have hl4:=hq4.len;have hz4:=t4.mod.size;refine (HD (x:=(t,c)) h4 hq4.sorted (by simp only at hl4 ⊢;omega) (λy hy=>by have:=(List.mem_filter.1 hy).2;simpa using this)).mono ?_;rintro e w6 ⟨rfl,s6,h6,t6⟩;refine ⟨rfl,t6.mod.same _ ab (λhf=> ?_),rfl,s6,h6,((aM.aD jT).trans t4).trans t6⟩;rcases t4.sub _ hf with hf|hf
   ·have:=h.lt _ hf;omega
   ·omega
 ·refine Br.mk (λhb'=>by rw [hb] at hb';cases hb') (λ_=> ?_);have hw:oe q.l c=none:=by simpa using hb
  have h1d:=h1.ext (Ext.dr w1);refine ⟨s,h1d.row.at 2 rfl,q.room,h1d.row.at 0 rfl,?_⟩;rw [hn];apply Br.mk<;>intro hc
  ·have hc':((q.l.length:Nat):Int)=q.room:=by simpa using hc
   have e:oH q c t=({q with lost:=q.lost+1},false):=by unfold oH;rw [hw];simp [hc']
   rw [e];obtain ⟨p1,p2⟩:=h1d.row.je (j:=1) (v:=.int .i64 (aj (q.lost+1))) bB rfl;refine ⟨q.lost,h1d.row.at 1 rfl,⟨rfl,p1⟩,?_,λbO vw=> ?_⟩
   ·rw [cV];intro e;have:g=w.heap.size:=by simpa [bD] using e
    omega
   ·obtain ⟨q1,q2⟩:=p2 bO vw;rw [wI] at q1;obtain ⟨kvs,hm,ht⟩:=h1d.map;refine ⟨rfl,s,⟨q1,q2.fk h1d.own λb hb hf=>h.Ao (by rw [hb];exact congrArg some hf),kvs,q2.map hm (Ne.symm h.od),ht⟩,(aM.aD jT.drew).trans (gW.pz (q2.mono λb _ hb=> .inl hb) λb hb=> .inl hb)⟩
  ·have hc':((q.l.length:Nat):Int)≠q.room:=by simpa using hc
   have e:oH q c t=({q with l:=wg q.l (t,c)},true):=by
    unfold oH;rw [hw];have:¬(q.l.length:Int)>=q.room:=by omega
    simp only;rw [if_neg this]
   rw [e];refine (HD (x:=(t,c)) h1d hq.sorted ab (rn hw)).mono ?_;rintro e w6 ⟨rfl,s6,h6,t6⟩;exact ⟨rfl,hbf Om t6,rfl,s6,h6,(aM.aD jT.drew).trans t6⟩
theorem Qb{w:World}{s:Sl}{l:List It}(ho:aC 0 cC 4 w s (l.map fI))(hl:l.length<=5000):
  ah 191 #[s] w λe w'=>∃s':Sl,e=s'/\aC w cC 4 w' s' (l.map fI)/\Ext w w':=by
 apply yl.vc;have hn:s.n=l.length:=by rw [(ho.rd aF).n,aN]
 apply Br.mk<;>intro h
 ·rcases ho.form aF with ⟨hs,Co⟩|⟨g0,cs,ha,-⟩
  ·exact ⟨⟨none,0,0⟩,rfl,by rw [Co];exact aC.nil,Ext.cE _⟩
  ·rw [ha] at h;cases h
 ·intro w0 e0;have x0:=aL e0;have Kq:=eG e0;have hr0:Row w0 w [] cC:=by rw [e0];exact Row.new _ _ _
  have qB:aC w cC 4 w0 ⟨some ⟨w.heap.size,0,none⟩,0,0⟩ []:=aC.jg (aB _) hr0 bB (aB _) rfl bB;obtain ⟨hp,hr⟩:=qB.FY (bytes:=32) (more:=l.map fI) x0.size (fw _) (ke _) (by simp;omega) (by simp;omega);rw [aN,<-hn] at hp hr;refine ⟨(l.map fI).flatten,((ho.ext x0).rd aF).flat aF,hp,λs2 w3 bw=> ?_⟩;obtain ⟨h1,h2,h3,h4,h5⟩:=hr s2 w3 bw;refine ⟨oW bw (by rw [bK (fw _),aN,hn]) ab,s2,rfl,h1,x0.trans h3⟩
theorem Yr{w:World}{g m:Nat}{s:Sl}{q:QS}(h:vk w g m s q)(hq:Ji q):ah 138 #[g] w λe w'=>∃s':Sl,e=s'/\aC w cC 4 w' s' (q.l.map fI)/\Ext w w':=by apply B8.vc;have:=hq.len;have:=hq.room;refine ⟨s,h.row.at 2 rfl,(Qb h.own ab).mono ?_⟩;rintro e w1 ⟨s',rfl,h1,x1⟩;exact ⟨s',rfl,s',rfl,h1,x1⟩
theorem YL{w:World}{g m:Nat}{s:Sl}{q:QS}(h:vk w g m s q)(hq:Ji q)(now many:Int):
  ah 172 #[g,now,many] w λe w'=>∃so:Sl,e=Value.slice so.a so.n so.c/\∃s',aC w tg 3 w' so ((Al q now many).2.map dA)/\vk w' g m s' (Al q now many).1/\aM (gW g m s) (gW g m s') w w':=by
 have hn:s.n=q.l.length:=by rw [(h.own.rd aF).n,aN]
 have dI:=hq.len;have hroom:=hq.room;have Wc:s.n<=s.c:=by
  rcases h.own.form aF with ⟨hs,-⟩|⟨g0,cs,ha,hg0,hr,hc,M4,-⟩
  ·rw [hs];exact aB _
  ·exact M4
 have hql:=UM q.l now many;apply B9.vc;refine ⟨λn x wr=>w=wr/\∃k:Nat,x=k/\k+n=iH q.l now many,⟨iH q.l now many,rfl,0,rfl,by omega⟩,?_⟩;rintro n0 us x wr ⟨rfl,k,rfl,hk⟩;have J0:k<=q.l.length:=by omega
 refine ⟨s,h.row.at 2 rfl,Br.mk (λhc=> ?_) (λhc=> ?_)⟩
 ·replace hc:=mh hc;have eN:q.l[k]? =some (q.l[k]'ab):=cZ ab;have FM:=UL hq now many eN;generalize q.l[k]'ab=y at eN FM;apply Br.mk<;>intro nE
  ·replace nE:=mh nE;have gS:=h.own.rd aF;refine ⟨s,h.row.at 2 rfl,⟨gS.isSome aF (i:=k) (by simp;omega),by omega,by omega⟩,?_⟩;have Nz:(af s.a ((k:Int).toNat*4)).isSome=true:=by rw [gF];exact gS.isSome aF (i:=k) (by simp;omega)
   refine bE.2 ⟨iN.2 Nz,y.1,?_,Br.mk (λTc=> ?_) (λTc=> ?_)⟩
   ·exact gS.at (i:=k) (r:=fI y) (by rw [aU,eN];rfl) rfl
   ·replace Tc:=mh Tc;have:=FM.2 ⟨nE,Tc⟩;have hw:=mz (j:=k);exact ⟨n0-1,by omega,rfl,k+1,hw,by omega⟩
   ·replace Tc:=my Tc;have hkq:k=iH q.l now many:=by
     have:¬k<iH q.l now many:=λgZ=>Tc (FM.1 gZ).2
     omega
    (
     refine ⟨s,h.row.at 2 rfl,by omega,by omega,by omega,by omega,λn x so wr=>∃j:Nat,x=j/\j+n=k/\Go.Vc.Mod (λi=>i=m) w wr/\aC w tg 3 wr so ((q.l.take j).map λy=>dA y.2)/\∃kvs,cl GC wr (some m) kvs/\mO kvs (q.l.drop j),⟨k,0,rfl,by omega,Go.Vc.Mod.refl _ _,aC.nil,by simpa using h.map⟩,?_⟩
     rintro n us x so wr ⟨j,rfl,hj,jl,iX,kvs,FG,se⟩
     have cO:Row wr g (pB q s m) gK:=jl.row h.row h.od
     have qB:aC 0 cC 4 wr s (q.l.map fI):=jl.fk h.own λb hb hf=>h.pC (by rw [hb];exact congrArg some hf)
     apply Br.mk<;>intro hc
     ·replace hc:=mh hc
      have Oa:j<q.l.length:=by omega
      have eN:q.l[j]? =some (q.l[j]'Oa):=cZ Oa
      generalize q.l[j]'Oa=y at eN
      have gS:=qB.rd aF
      refine ⟨⟨?_,by omega,by omega⟩,y.1,y.2.1,y.2.2.1,y.2.2.2,?_,?_⟩
      ·have:=gS.isSome aF (i:=j) (by simp;omega)
       unfold aJ;split<;>simpa using this
      ·rw [lN];exact RdK.item gS eN
      intro eK yY dT yX eh Ii
      have dh:=aL yY
      have dN:Ext wr dT:=dh.ae yX (aB _)
      have dz:Ext wr eh:=dN.bn Ii
      have alT:dT.heap.size=wr.heap.size+1:=by rw [yX,setRow_size,yY];simp
      have alU:=eG Ii
      have ZS:so.n=j:=by rw [(iX.rd aF).n,aN,du];omega
      have hzw:=jl.size
      obtain ⟨hp,hr⟩:=(iX.ext dz).append (bytes:=24) (news:=dA y.2) ab rfl (by intro u hu;simp at hu;rcases hu with rfl|rfl|rfl<;>rfl) ab ab
      refine ⟨hp,λrN cU bw=> ?_⟩
      obtain ⟨h1,h2,h3,h4,h5⟩:=hr rN cU bw
      have yN:∀b,so.aX=some b->b<wr.heap.size:=λb hb=>(iX.own.lt hb).2
      have abb:Go.Vc.Mod (λi=>so.aX=some i) eh cU:=⟨h3.os,h3.tape,h3.output,h3.size,λi hi hn=>h4 i hn hi⟩
      have Nz:so.aX≠some m:=λe=>by have h1:=(iX.own.lt e).1;have h2:=h.lt m (.inr (.inl rfl));omega
      refine ⟨h4 _ (λe=>by have:=yN _ e;omega) ab,h4 _ (λe=>by have:=yN _ e;omega) ab,?_⟩;have BG:Go.Vc.Mod (λi=>so.aX=some i) wr cU.drew:=((Go.Vc.Mod.aD dz).trans abb).trans (Go.Vc.Mod.aD (Ext.dr _));have hsg:so.aX≠some g:=λe=>by have h1:=(iX.own.lt e).1;have h2:=h.lt g (.inl rfl);omega
      refine ⟨some m,(BG.row cO hsg).at 3 rfl,GC,kvs,rj,rfl,BG.map FG Nz,⟨y.2,rfl⟩,?_⟩;intro dR fQ hmap29;have NI:=Go.Vc.Mod.nX fQ;have hwj:=mz (j:=j);rw [hwj];refine ⟨n-1,by omega,j+1,rfl,by omega,(jl.tr BG (λi hi=> .inr (iX.own.lt hi).1)).trans NI,?_,_,hmap29,?_⟩
      ·have e:(q.l.take (j+1)).map (λy=>dA y.2)=(q.l.take j).map (λy=>dA y.2)++ [dA y.2]:=by rw [dD,eN,bU];rfl
       rw [e];refine NI.fk (h1.ext (Ext.dr _)) λb hb hf=> ?_
       have hb':rN.aX=some m:=by rw [hb];exact congrArg some hf
       have:=h.lt m (.inr (.inl rfl));rcases h5 with h5|h5
       ·exact Nz (h5▸hb')
       ·rw [h5] at hb';have:eh.heap.size=m:=by simpa using hb'
        omega
      ·have hd:=se.del y.2;refine hd.perm λz=> ?_
       have hcons:q.l.drop j=y::q.l.drop (j+1):=by obtain ⟨gZ,he⟩:=cG.1 eN;rw [List.drop_eq_getElem_cons gZ,he]
       have hnd:((y::q.l.drop (j+1)).map (·.2)).Nodup:=by rw [<-hcons];exact ((List.drop_sublist j q.l).map _).nodup hq.nodup
       rw [hcons];unfold gl;rw [eP,List.nodup_cons] at hnd;constructor
       ·intro hz;obtain ⟨Om,hz2⟩:=List.mem_filter.1 hz;rcases cB.1 Om with rfl|Om
        ·simp at hz2
        ·exact Om
       ·intro hz;refine List.mem_filter.2 ⟨List.mem_cons_of_mem _ hz,?_⟩;have:z.2≠y.2:=λe=>hnd.1 (e▸List.mem_map_of_mem hz)
        simpa using this
     ·replace hc:=my hc;have Q0:j=k:=by omega
      subst Q0;refine ⟨s,cO.at 2 rfl,(ti qB J0 ab).mono ?_⟩;rintro e fJ ⟨oL,rfl,G0,yZ,abc⟩;have NJ:Row fJ g (pB q s m) gK:=yZ.row cO h.Ao;obtain ⟨p1,p2⟩:=NJ.je (j:=2) (v:=.slice oL.a oL.n oL.c) bB rfl;refine ⟨oL,rfl,⟨rfl,p1⟩,λeM M5=> ?_⟩;obtain ⟨q1,q2⟩:=p2 eM M5;have S9:∀b,so.aX=some b->w.heap.size<=b:=λb hb=>(iX.own.lt hb).1
      refine ⟨so,rfl,oL,?_,?_,?_⟩
      ·unfold Al;rw [<-hkq,List.map_map];refine q2.fk (yZ.fk iX λb hb hf=> ?_) λb hb hf=> ?_
       ·have:=S9 b hb;have:=h.lt b (.inr (.inr hf));omega
       ·have:=S9 b hb;have:=h.lt b (.inl hf);omega
      ·unfold Al;rw [<-hkq];refine ⟨q1,q2.fk G0 λb hb hf=> ?_,kvs,q2.map (yZ.map FG h.pC) (Ne.symm h.od),se⟩;obtain ⟨cs,hr⟩:=bc G0 aF hb;exact hr.ne NJ aF hf
      ·refine gW.pz (((jl.mono λb _ hb=> .inr (.inl hb)).trans (yZ.mono λb _ hb=> .inr (.inr hb))).trans (q2.mono λb _ hb=> .inl hb)) λb hb=> .inl (abc▸hb))
  ·replace nE:=my nE;have hkq:k=iH q.l now many:=by
    have:¬k<iH q.l now many:=λgZ=>nE (FM.1 gZ).1
    omega
   (
    refine ⟨s,h.row.at 2 rfl,by omega,by omega,by omega,by omega,λn x so wr=>∃j:Nat,x=j/\j+n=k/\Go.Vc.Mod (λi=>i=m) w wr/\aC w tg 3 wr so ((q.l.take j).map λy=>dA y.2)/\∃kvs,cl GC wr (some m) kvs/\mO kvs (q.l.drop j),⟨k,0,rfl,by omega,Go.Vc.Mod.refl _ _,aC.nil,by simpa using h.map⟩,?_⟩
    rintro n us x so wr ⟨j,rfl,hj,jl,iX,kvs,FG,se⟩
    have cO:Row wr g (pB q s m) gK:=jl.row h.row h.od
    have qB:aC 0 cC 4 wr s (q.l.map fI):=jl.fk h.own λb hb hf=>h.pC (by rw [hb];exact congrArg some hf)
    apply Br.mk<;>intro hc
    ·replace hc:=mh hc
     have Oa:j<q.l.length:=by omega
     have eN:q.l[j]? =some (q.l[j]'Oa):=cZ Oa
     generalize q.l[j]'Oa=y at eN
     have gS:=qB.rd aF
     refine ⟨⟨?_,by omega,by omega⟩,y.1,y.2.1,y.2.2.1,y.2.2.2,?_,?_⟩
     ·have:=gS.isSome aF (i:=j) (by simp;omega)
      unfold aJ;split<;>simpa using this
     ·rw [lN];exact RdK.item gS eN
     intro eK yY dT yX eh Ii
     have dh:=aL yY
     have dN:Ext wr dT:=dh.ae yX (aB _)
     have dz:Ext wr eh:=dN.bn Ii
     have alT:dT.heap.size=wr.heap.size+1:=by rw [yX,setRow_size,yY];simp
     have alU:=eG Ii
     have ZS:so.n=j:=by rw [(iX.rd aF).n,aN,du];omega
     have hzw:=jl.size
     obtain ⟨hp,hr⟩:=(iX.ext dz).append (bytes:=24) (news:=dA y.2) ab rfl (by intro u hu;simp at hu;rcases hu with rfl|rfl|rfl<;>rfl) ab ab
     refine ⟨hp,λrN cU bw=> ?_⟩
     obtain ⟨h1,h2,h3,h4,h5⟩:=hr rN cU bw
     have yN:∀b,so.aX=some b->b<wr.heap.size:=λb hb=>(iX.own.lt hb).2
     have abb:Go.Vc.Mod (λi=>so.aX=some i) eh cU:=⟨h3.os,h3.tape,h3.output,h3.size,λi hi hn=>h4 i hn hi⟩
     have Nz:so.aX≠some m:=λe=>by have h1:=(iX.own.lt e).1;have h2:=h.lt m (.inr (.inl rfl));omega
     refine ⟨h4 _ (λe=>by have:=yN _ e;omega) ab,h4 _ (λe=>by have:=yN _ e;omega) ab,?_⟩;have BG:Go.Vc.Mod (λi=>so.aX=some i) wr cU.drew:=((Go.Vc.Mod.aD dz).trans abb).trans (Go.Vc.Mod.aD (Ext.dr _));have hsg:so.aX≠some g:=λe=>by have h1:=(iX.own.lt e).1;have h2:=h.lt g (.inl rfl);omega
     refine ⟨some m,(BG.row cO hsg).at 3 rfl,GC,kvs,rj,rfl,BG.map FG Nz,⟨y.2,rfl⟩,?_⟩;intro dR fQ hmap29;have NI:=Go.Vc.Mod.nX fQ;have hwj:=mz (j:=j);rw [hwj];refine ⟨n-1,by omega,j+1,rfl,by omega,(jl.tr BG (λi hi=> .inr (iX.own.lt hi).1)).trans NI,?_,_,hmap29,?_⟩
     ·have e:(q.l.take (j+1)).map (λy=>dA y.2)=(q.l.take j).map (λy=>dA y.2)++ [dA y.2]:=by rw [dD,eN,bU];rfl
      rw [e];refine NI.fk (h1.ext (Ext.dr _)) λb hb hf=> ?_
      have hb':rN.aX=some m:=by rw [hb];exact congrArg some hf
      have:=h.lt m (.inr (.inl rfl));rcases h5 with h5|h5
      ·exact Nz (h5▸hb')
      ·rw [h5] at hb';have:eh.heap.size=m:=by simpa using hb'
       omega
     ·have hd:=se.del y.2;refine hd.perm λz=> ?_
      have hcons:q.l.drop j=y::q.l.drop (j+1):=by obtain ⟨gZ,he⟩:=cG.1 eN;rw [List.drop_eq_getElem_cons gZ,he]
      have hnd:((y::q.l.drop (j+1)).map (·.2)).Nodup:=by rw [<-hcons];exact ((List.drop_sublist j q.l).map _).nodup hq.nodup
      rw [hcons];unfold gl;rw [eP,List.nodup_cons] at hnd;constructor
      ·intro hz;obtain ⟨Om,hz2⟩:=List.mem_filter.1 hz;rcases cB.1 Om with rfl|Om
       ·simp at hz2
       ·exact Om
      ·intro hz;refine List.mem_filter.2 ⟨List.mem_cons_of_mem _ hz,?_⟩;have:z.2≠y.2:=λe=>hnd.1 (e▸List.mem_map_of_mem hz)
       simpa using this
    ·replace hc:=my hc;have Q0:j=k:=by omega
     subst Q0;refine ⟨s,cO.at 2 rfl,(ti qB J0 ab).mono ?_⟩;rintro e fJ ⟨oL,rfl,G0,yZ,abc⟩;have NJ:Row fJ g (pB q s m) gK:=yZ.row cO h.Ao;obtain ⟨p1,p2⟩:=NJ.je (j:=2) (v:=.slice oL.a oL.n oL.c) bB rfl;refine ⟨oL,rfl,⟨rfl,p1⟩,λeM M5=> ?_⟩;obtain ⟨q1,q2⟩:=p2 eM M5;have S9:∀b,so.aX=some b->w.heap.size<=b:=λb hb=>(iX.own.lt hb).1
     refine ⟨so,rfl,oL,?_,?_,?_⟩
     ·unfold Al;rw [<-hkq,List.map_map];refine q2.fk (yZ.fk iX λb hb hf=> ?_) λb hb hf=> ?_
      ·have:=S9 b hb;have:=h.lt b (.inr (.inr hf));omega
      ·have:=S9 b hb;have:=h.lt b (.inl hf);omega
     ·unfold Al;rw [<-hkq];refine ⟨q1,q2.fk G0 λb hb hf=> ?_,kvs,q2.map (yZ.map FG h.pC) (Ne.symm h.od),se⟩;obtain ⟨cs,hr⟩:=bc G0 aF hb;exact hr.ne NJ aF hf
     ·refine gW.pz (((jl.mono λb _ hb=> .inr (.inl hb)).trans (yZ.mono λb _ hb=> .inr (.inr hb))).trans (q2.mono λb _ hb=> .inl hb)) λb hb=> .inl (abc▸hb))
 ·replace hc:=my hc;have hkq:k=iH q.l now many:=by omega
  (
   refine ⟨s,h.row.at 2 rfl,by omega,by omega,by omega,by omega,λn x so wr=>∃j:Nat,x=j/\j+n=k/\Go.Vc.Mod (λi=>i=m) w wr/\aC w tg 3 wr so ((q.l.take j).map λy=>dA y.2)/\∃kvs,cl GC wr (some m) kvs/\mO kvs (q.l.drop j),⟨k,0,rfl,by omega,Go.Vc.Mod.refl _ _,aC.nil,by simpa using h.map⟩,?_⟩
   rintro n us x so wr ⟨j,rfl,hj,jl,iX,kvs,FG,se⟩
   have cO:Row wr g (pB q s m) gK:=jl.row h.row h.od
   have qB:aC 0 cC 4 wr s (q.l.map fI):=jl.fk h.own λb hb hf=>h.pC (by rw [hb];exact congrArg some hf)
   apply Br.mk<;>intro hc
   ·replace hc:=mh hc
    have Oa:j<q.l.length:=by omega
    have eN:q.l[j]? =some (q.l[j]'Oa):=cZ Oa
    generalize q.l[j]'Oa=y at eN
    have gS:=qB.rd aF
    refine ⟨⟨?_,by omega,by omega⟩,y.1,y.2.1,y.2.2.1,y.2.2.2,?_,?_⟩
    ·have:=gS.isSome aF (i:=j) (by simp;omega)
     unfold aJ;split<;>simpa using this
    ·rw [lN];exact RdK.item gS eN
    intro eK yY dT yX eh Ii
    have dh:=aL yY
    have dN:Ext wr dT:=dh.ae yX (aB _)
    have dz:Ext wr eh:=dN.bn Ii
    have alT:dT.heap.size=wr.heap.size+1:=by rw [yX,setRow_size,yY];simp
    have alU:=eG Ii
    have ZS:so.n=j:=by rw [(iX.rd aF).n,aN,du];omega
    have hzw:=jl.size
    obtain ⟨hp,hr⟩:=(iX.ext dz).append (bytes:=24) (news:=dA y.2) ab rfl (by intro u hu;simp at hu;rcases hu with rfl|rfl|rfl<;>rfl) ab ab
    refine ⟨hp,λrN cU bw=> ?_⟩
    obtain ⟨h1,h2,h3,h4,h5⟩:=hr rN cU bw
    have yN:∀b,so.aX=some b->b<wr.heap.size:=λb hb=>(iX.own.lt hb).2
    have abb:Go.Vc.Mod (λi=>so.aX=some i) eh cU:=⟨h3.os,h3.tape,h3.output,h3.size,λi hi hn=>h4 i hn hi⟩
    have Nz:so.aX≠some m:=λe=>by have h1:=(iX.own.lt e).1;have h2:=h.lt m (.inr (.inl rfl));omega
    refine ⟨h4 _ (λe=>by have:=yN _ e;omega) ab,h4 _ (λe=>by have:=yN _ e;omega) ab,?_⟩;have BG:Go.Vc.Mod (λi=>so.aX=some i) wr cU.drew:=((Go.Vc.Mod.aD dz).trans abb).trans (Go.Vc.Mod.aD (Ext.dr _));have hsg:so.aX≠some g:=λe=>by have h1:=(iX.own.lt e).1;have h2:=h.lt g (.inl rfl);omega
    refine ⟨some m,(BG.row cO hsg).at 3 rfl,GC,kvs,rj,rfl,BG.map FG Nz,⟨y.2,rfl⟩,?_⟩;intro dR fQ hmap29;have NI:=Go.Vc.Mod.nX fQ;have hwj:=mz (j:=j);rw [hwj];refine ⟨n-1,by omega,j+1,rfl,by omega,(jl.tr BG (λi hi=> .inr (iX.own.lt hi).1)).trans NI,?_,_,hmap29,?_⟩
    ·have e:(q.l.take (j+1)).map (λy=>dA y.2)=(q.l.take j).map (λy=>dA y.2)++ [dA y.2]:=by rw [dD,eN,bU];rfl
     rw [e];refine NI.fk (h1.ext (Ext.dr _)) λb hb hf=> ?_
     have hb':rN.aX=some m:=by rw [hb];exact congrArg some hf
     have:=h.lt m (.inr (.inl rfl));rcases h5 with h5|h5
     ·exact Nz (h5▸hb')
     ·rw [h5] at hb';have:eh.heap.size=m:=by simpa using hb'
      omega
    ·have hd:=se.del y.2;refine hd.perm λz=> ?_
     have hcons:q.l.drop j=y::q.l.drop (j+1):=by obtain ⟨gZ,he⟩:=cG.1 eN;rw [List.drop_eq_getElem_cons gZ,he]
     have hnd:((y::q.l.drop (j+1)).map (·.2)).Nodup:=by rw [<-hcons];exact ((List.drop_sublist j q.l).map _).nodup hq.nodup
     rw [hcons];unfold gl;rw [eP,List.nodup_cons] at hnd;constructor
     ·intro hz;obtain ⟨Om,hz2⟩:=List.mem_filter.1 hz;rcases cB.1 Om with rfl|Om
      ·simp at hz2
      ·exact Om
     ·intro hz;refine List.mem_filter.2 ⟨List.mem_cons_of_mem _ hz,?_⟩;have:z.2≠y.2:=λe=>hnd.1 (e▸List.mem_map_of_mem hz)
      simpa using this
   ·replace hc:=my hc;have Q0:j=k:=by omega
    subst Q0;refine ⟨s,cO.at 2 rfl,(ti qB J0 ab).mono ?_⟩;rintro e fJ ⟨oL,rfl,G0,yZ,abc⟩;have NJ:Row fJ g (pB q s m) gK:=yZ.row cO h.Ao;obtain ⟨p1,p2⟩:=NJ.je (j:=2) (v:=.slice oL.a oL.n oL.c) bB rfl;refine ⟨oL,rfl,⟨rfl,p1⟩,λeM M5=> ?_⟩;obtain ⟨q1,q2⟩:=p2 eM M5;have S9:∀b,so.aX=some b->w.heap.size<=b:=λb hb=>(iX.own.lt hb).1
    refine ⟨so,rfl,oL,?_,?_,?_⟩
    ·unfold Al;rw [<-hkq,List.map_map];refine q2.fk (yZ.fk iX λb hb hf=> ?_) λb hb hf=> ?_
     ·have:=S9 b hb;have:=h.lt b (.inr (.inr hf));omega
     ·have:=S9 b hb;have:=h.lt b (.inl hf);omega
    ·unfold Al;rw [<-hkq];refine ⟨q1,q2.fk G0 λb hb hf=> ?_,kvs,q2.map (yZ.map FG h.pC) (Ne.symm h.od),se⟩;obtain ⟨cs,hr⟩:=bc G0 aF hb;exact hr.ne NJ aF hf
    ·refine gW.pz (((jl.mono λb _ hb=> .inr (.inl hb)).trans (yZ.mono λb _ hb=> .inr (.inr hb))).trans (q2.mono λb _ hb=> .inl hb)) λb hb=> .inl (abc▸hb))
end Go.Proofs.YtkkkfkopcfdmaaaGreatDoor.Q
