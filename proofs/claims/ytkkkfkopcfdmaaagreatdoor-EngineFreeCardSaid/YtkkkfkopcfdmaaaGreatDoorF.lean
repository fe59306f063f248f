import Derived.Test.YtkkkfkopcfdmaaaGreatDoorE
import Derived.Test.YtkkkfkopcfdmaaaGreatDoorB
import Derived.Test.YtkkkfkopcfdmaaaGreatDoorD
set_option linter.all false
namespace Go.Proofs.YtkkkfkopcfdmaaaGreatDoor
open Go Go.Vc Go.RowKit Go.Proofs
set_option maxRecDepth 100000
set_option maxHeartbeats 8000000
set_option linter.unusedVariables false
variable {R:Ending->World->Prop} {w:World} {a0 a1 a2 a3 a4 a5 a6 a7 a8 a9 aw ao au aP aQ aR bM bH bI DV aq ar aA bz bR bQ fe fg eM DW bE bO bC yu yw vV vW yx yy yz DX DY DZ D3 D4 D5 D6 D7 D8 D9:Int}
def XJ.vc(h:
 ∀w0,w0=w.alloc (.map #[] 0)->
 Aw w0 #[.int .i64 (if 4096<(if 1>a0 then 1 else a0) then 4096 else (if 1>a0 then 1 else a0)),aa,.slice none 0 0,.map (some w.heap.size)] 226 λw1=>
 R (Value.pointer (aB w0)) w1):ah 97 #[a0] w R:=
 cq bU Tryz.func97 h
def DJ.vc{a0:Addr}(h:
 Aw w #[aq,ar,aA] 41 λw0=>
 ah 262 #[a0,.agg #[aq,ar,aA]] w0 (λe w1=>∃(x2:Int)(b3:Bool),e=Value.tuple #[x2,b3]/\Kp w w0 w1/\
 Br b3
 (Br (x2<=a2)
 (R false w1)
 (Br b3
 (ah 263 #[a0,.agg #[aq,ar,aA]] w1 (Rb λb5 w4=>Kp w w1 w4/\
 ah 264 #[a0,.agg #[a2,aq,ar,aA]] w4 (Rt λw6=>Kp w w4 w6/\
 R true w6)))
 (∃(s7:Sl),ld w1.drew (ae (some a0) 2)=some (.slice s7.a s7.n s7.c)/\
 ∃(x8:Int),ld w1.drew (ae (some a0) 0)=some (.int .i64 x8)/\
 Br ((((s7.n:Nat):Int):Int)==x8)
 (∃(x9:Int),ld w1.drew (ae (some a0) 1)=some (.int .i64 x9)/\
 (true=true/\Wr w1.drew (ae (some a0) 1) 1)/\bt (ae (some a0) 1)≠some w.heap.size/\(∀bN,bN=aK w1.drew (ae (some a0) 1) [(ak (x9+1))]->
 R false bN))
 (ah 264 #[a0,.agg #[a2,aq,ar,aA]] w1.drew (Rt λbc=>Kp w w1.drew bc/\
 R true bc)))))
 (Br b3
 (ah 263 #[a0,.agg #[aq,ar,aA]] w1 (Rb λHl cU=>Kp w w1 cU/\
 ah 264 #[a0,.agg #[a2,aq,ar,aA]] cU (Rt λbJ=>Kp w cU bJ/\
 R true bJ)))
 (∃(mA:Sl),ld w1.drew (ae (some a0) 2)=some (.slice mA.a mA.n mA.c)/\
 ∃(cp:Int),ld w1.drew (ae (some a0) 0)=some (.int .i64 cp)/\
 Br ((((mA.n:Nat):Int):Int)==cp)
 (∃(cZ:Int),ld w1.drew (ae (some a0) 1)=some (.int .i64 cZ)/\
 (true=true/\Wr w1.drew (ae (some a0) 1) 1)/\bt (ae (some a0) 1)≠some w.heap.size/\(∀du,du=aK w1.drew (ae (some a0) 1) [(ak (cZ+1))]->
 R false du))
 (ah 264 #[a0,.agg #[a2,aq,ar,aA]] w1.drew (Rt λgn=>Kp w w1.drew gn/\
 R true gn)))))):ah 211 #[a0,.agg #[aq,ar,aA],a2] w R:=
 cq bU Tryz.func211 h
def DE.vc{a0:Addr}(h:
 ∃I0:Nat->Int->World->Prop,
 (∃n1,I0 n1 (0) w)/\
 ∀(n1:Nat)(wg:Nat->Value)(x3:Int)(w4:World),I0 n1 x3 w4->
 ∃(s6:Sl),ld w4 (ae (some a0) 2)=some (.slice s6.a s6.n s6.c)/\
 Br (decide (x3<((s6.n:Nat):Int)))
 (Br (x3<a2)
 (∃(s7:Sl),ld w4 (ae (some a0) 2)=some (.slice s7.a s7.n s7.c)/\
 ez s7.a x3 s7.n/\aS (dK (ae s7.a ((x3:Int).toNat*4))) (∃(x8:Int),ld w4 (ae (ae s7.a ((x3:Int).toNat*4)) 0)=some (.int .i64 x8)/\
 Br (x8<=a1)
 (∃n5,n5<n1/\I0 n5 ((ak (x3+1))) w4)
 (∃(s9:Sl),ld w4 (ae (some a0) 2)=some (.slice s9.a s9.n s9.c)/\
 (0:Int)<=x3/\x3<=((s9.c:Nat):Int)/\(0:Int)<=x3/\x3<=x3/\∃Eg:Nat->Int->Sl->World->Prop,
 (∃tj,Eg tj (0) ⟨none,0,0⟩ w4)/\
 ∀(tj:Nat)(akp:Nat->Value)(cn:Int)(s14:Sl)(eu:World),Eg tj cn s14 eu->
 Br (decide (cn<((((x3:Int).toNat-0):Nat):Int)))
 (ez (aJ s9.a (0) ((x3:Int).toNat) 4) cn ((x3:Int).toNat-0)/\∃(cZ cA cr cW:Int),af eu (ae (aJ s9.a (0) ((x3:Int).toNat) 4) ((cn:Int).toNat*4)) 0 [cZ,cA,cr,cW]/\
 Aw eu #[aa,aa,aa,aa] 157 λeU=>
 Sw eU eu #[cZ,cA,cr,cW] λey=>
 Aw ey #[cA,cr,cW] 41 λeR=>
 ba 24 3 eR s14 1 [cA,cr,cW]/\∀(tR:Sl)(cV:World),aX 41 3 eR s14 1 [cA,cr,cW] tR cV->K2 eu ey eR cV (
 ∃(m26:Option Nat),ld cV.drew (ae (some a0) 3)=some (.map m26)/\
 ∃(G27:Value->Prop)(kvs28:List (Value × Value)),je Tryz.prog 41 G27/\(m26:Option Nat).isSome=true/\cG G27 cV.drew m26 kvs28/\G27 (.agg #[cA,cr,cW])/\∀dX:World,Rec ((m26:Option Nat).getD 0) cV.drew dX->cG G27 dX m26 (Gu kvs28 (.agg #[cA,cr,cW]))->
 ∃Mk,Mk<tj/\Eg Mk ((ak (cn+1))) tR dX))
 (∃(tZ:Sl),ld eu (ae (some a0) 2)=some (.slice tZ.a tZ.n tZ.c)/\
 ah 241 #[tZ,aa,x3] eu (λe gA=>∃(vZ:Sl),e=vZ/\
 (true=true/\Wr gA (ae (some a0) 2) 1)/\(∀eP,eP=aK gA (ae (some a0) 2) [vZ]->
 R s14 eP))))))
 (∃(s34:Sl),ld w4 (ae (some a0) 2)=some (.slice s34.a s34.n s34.c)/\
 (0:Int)<=x3/\x3<=((s34.c:Nat):Int)/\(0:Int)<=x3/\x3<=x3/\∃I35:Nat->Int->Sl->World->Prop,
 (∃n36,I35 n36 (0) ⟨none,0,0⟩ w4)/\
 ∀(n36:Nat)(aDK:Nat->Value)(gd:Int)(VD:Sl)(jS:World),I35 n36 gd VD jS->
 Br (decide (gd<((((x3:Int).toNat-0):Nat):Int)))
 (ez (aJ s34.a (0) ((x3:Int).toNat) 4) gd ((x3:Int).toNat-0)/\∃(ow qw lK pH:Int),af jS (ae (aJ s34.a (0) ((x3:Int).toNat) 4) ((gd:Int).toNat*4)) 0 [ow,qw,lK,pH]/\
 Aw jS #[aa,aa,aa,aa] 157 λoM=>
 Sw oM jS #[ow,qw,lK,pH] λmw=>
 Aw mw #[qw,lK,pH] 41 λgf=>
 ba 24 3 gf VD 1 [qw,lK,pH]/\∀(TT:Sl)(lR:World),aX 41 3 gf VD 1 [qw,lK,pH] TT lR->K2 jS mw gf lR (
 ∃(m51:Option Nat),ld lR.drew (ae (some a0) 3)=some (.map m51)/\
 ∃(G52:Value->Prop)(kvs53:List (Value × Value)),je Tryz.prog 41 G52/\(m51:Option Nat).isSome=true/\cG G52 lR.drew m51 kvs53/\G52 (.agg #[qw,lK,pH])/\∀Hs:World,Rec ((m51:Option Nat).getD 0) lR.drew Hs->cG G52 Hs m51 (Gu kvs53 (.agg #[qw,lK,pH]))->
 ∃n41,n41<n36/\I35 n41 ((ak (gd+1))) TT Hs))
 (∃(s55:Sl),ld jS (ae (some a0) 2)=some (.slice s55.a s55.n s55.c)/\
 ah 241 #[s55,aa,x3] jS (λe qy=>∃(s57:Sl),e=s57/\
 (true=true/\Wr qy (ae (some a0) 2) 1)/\(∀Cj,Cj=aK qy (ae (some a0) 2) [s57]->
 R VD Cj)))))
 (∃(s59:Sl),ld w4 (ae (some a0) 2)=some (.slice s59.a s59.n s59.c)/\
 (0:Int)<=x3/\x3<=((s59.c:Nat):Int)/\(0:Int)<=x3/\x3<=x3/\∃I60:Nat->Int->Sl->World->Prop,
 (∃n61,I60 n61 (0) ⟨none,0,0⟩ w4)/\
 ∀(n61:Nat)(aDL:Nat->Value)(tY:Int)(s64:Sl)(Ix:World),I60 n61 tY s64 Ix->
 Br (decide (tY<((((x3:Int).toNat-0):Nat):Int)))
 (ez (aJ s59.a (0) ((x3:Int).toNat) 4) tY ((x3:Int).toNat-0)/\∃(pB oN qH pP:Int),af Ix (ae (aJ s59.a (0) ((x3:Int).toNat) 4) ((tY:Int).toNat*4)) 0 [pB,oN,qH,pP]/\
 Aw Ix #[aa,aa,aa,aa] 157 λw71=>
 Sw w71 Ix #[pB,oN,qH,pP] λw72=>
 Aw w72 #[oN,qH,pP] 41 λQp=>
 ba 24 3 Qp s64 1 [oN,qH,pP]/\∀(s74:Sl)(sN:World),aX 41 3 Qp s64 1 [oN,qH,pP] s74 sN->K2 Ix w72 Qp sN (
 ∃(m76:Option Nat),ld sN.drew (ae (some a0) 3)=some (.map m76)/\
 ∃(G77:Value->Prop)(kvs78:List (Value × Value)),je Tryz.prog 41 G77/\(m76:Option Nat).isSome=true/\cG G77 sN.drew m76 kvs78/\G77 (.agg #[oN,qH,pP])/\∀Z1:World,Rec ((m76:Option Nat).getD 0) sN.drew Z1->cG G77 Z1 m76 (Gu kvs78 (.agg #[oN,qH,pP]))->
 ∃n66,n66<n61/\I60 n66 ((ak (tY+1))) s74 Z1))
 (∃(s80:Sl),ld Ix (ae (some a0) 2)=some (.slice s80.a s80.n s80.c)/\
 ah 241 #[s80,aa,x3] Ix (λe we=>∃(s82:Sl),e=s82/\
 (true=true/\Wr we (ae (some a0) 2) 1)/\(∀w83,w83=aK we (ae (some a0) 2) [s82]->
 R s64 w83))))):ah 172 #[a0,a1,a2] w R:=
 cq ⟨[(6,⟨[(45,.int .i64),(8,.slice)],[],[]⟩),(6,⟨[(45,.int .i64),(8,.slice)],[],[]⟩),(6,⟨[(45,.int .i64),(8,.slice)],[],[]⟩),(2,⟨[(7,.int .i64)],[],[]⟩)],[],[]⟩ Tryz.func172 h
def Gv.vc{a0:Addr}(h:
 Aw w #[aq,ar,aA] 41 λw0=>
 ∃(m1:Option Nat),ld w0.drew (ae (some a0) 3)=some (.map m1)/\
 ∃(G2:Value->Prop)(kvs3:List (Value × Value)),je Tryz.prog 41 G2/\cG G2 w0.drew m1 kvs3/\G2 (.agg #[aq,ar,aA])/\∃(x4:Int),∃b5:Bool,H5 kvs3 (.agg #[aq,ar,aA]) (0:Int) x4 b5/\
 R (Value.tuple #[x4,b5]) w0.drew):ah 262 #[a0,.agg #[aq,ar,aA]] w R:=
 cq bU Tryz.func262 h
def BL.vc{a0:Addr}(h:
 Aw w #[aq,ar,aA] 41 λw0=>
 ∃(m1:Option Nat),ld w0.drew (ae (some a0) 3)=some (.map m1)/\
 ∃(G2:Value->Prop)(kvs3:List (Value × Value)),je Tryz.prog 41 G2/\cG G2 w0.drew m1 kvs3/\G2 (.agg #[aq,ar,aA])/\∃(x4:Int),∃b5:Bool,H5 kvs3 (.agg #[aq,ar,aA]) (0:Int) x4 b5/\
 Br (!b5)
 (R false w0.drew)
 (∃(m6:Option Nat),ld w0.drew.drew (ae (some a0) 3)=some (.map m6)/\
 ∃(G7:Value->Prop)(kvs8:List (Value × Value)),je Tryz.prog 41 G7/\(m6:Option Nat).isSome=true/\cG G7 w0.drew.drew m6 kvs8/\G7 (.agg #[aq,ar,aA])/\∀w9:World,Rec ((m6:Option Nat).getD 0) w0.drew.drew w9->cG G7 w9 m6 (Gu kvs8 (.agg #[aq,ar,aA]))->
 ∃(yN:Sl),ld w9 (ae (some a0) 2)=some (.slice yN.a yN.n yN.c)/\
 ah 286 #[yN,.func (.func 287) #[] #[w]] w9 (λe bc=>∃(kh:Sl),e=kh/\
 (true=true/\Wr bc (ae (some a0) 2) 1)/\(∀bG,bG=aK bc (ae (some a0) 2) [kh]->
 R true bG)))):ah 263 #[a0,.agg #[aq,ar,aA]] w R:=
 cq bU Tryz.func263 h
def BI.vc{a0:Addr}(h:
 Aw w #[aq,ar,aA,bz] 157 λw0=>
 ∃(s1:Sl),ld w0.drew (ae (some a0) 2)=some (.slice s1.a s1.n s1.c)/\
 ah 288 #[s1,.agg #[aq,ar,aA,bz],.func (.func 289) #[] #[]] w0.drew (λe w2=>∃(x3:Int)(b4:Bool),e=Value.tuple #[x3,b4]/\Kp w w0.drew w2/\
 ∃(s5:Sl),ld w2.drew (ae (some a0) 2)=some (.slice s5.a s5.n s5.c)/\
 Aw w2.drew #[aq,ar,aA,bz] 157 λw6=>
 ah 292 #[s5,x3,.slice (aB w2.drew.heap.size) 1 1] w6 (Rs λs8 w7=>Kp w w6 w7/\
 (true=true/\Wr w7 (ae (some a0) 2) 1)/\bt (ae (some a0) 2)≠some w.heap.size/\(∀w9,w9=aK w7 (ae (some a0) 2) [s8]->
 ∃(m10:Option Nat),ld w9.drew (ae (some a0) 3)=some (.map m10)/\
 ∃(G11:Value->Prop)(kvs12:List (Value × Value)),je Tryz.prog 41 G11/\(m10:Option Nat).isSome=true/\cG G11 w9.drew m10 kvs12/\G11 (.agg #[ar,aA,bz])/\∀bG:World,Rec ((m10:Option Nat).getD 0) w9.drew bG->cG G11 bG m10 (xG kvs12 (.agg #[ar,aA,bz]) aq)->
 R ug bG)))):ah 264 #[a0,.agg #[aq,ar,aA,bz]] w R:=
 cq bU Tryz.func264 h
def xk.vc{a0:Sl}(h:
 (0:Int)<=((a0.n:Nat):Int)/\((a0.n:Nat):Int)<=((a0.c:Nat):Int)/\(0:Int)<=a2/\a2<=((a0.n:Nat):Int)/\(0:Int)<=a1/\a1<=a2/\Br (a1==a2)
 (R a0 w)
 ((0:Int)<=a1/\a1<=((a0.c:Nat):Int)/\(0:Int)<=a2/\a2<=((a0.n:Nat):Int)/\∃l0:LV,Rd w.drew (aJ a0.a ((a2:Int).toNat) (a0.c) 4) l0/\ba 32 4 w.drew ⟨(aJ a0.a (0) (a0.c) 4),((a1:Int).toNat-0),(a0.c-0)⟩ (a0.n-(a2:Int).toNat) l0/\∀(s1:Sl)(w2:World),aX 157 4 w.drew ⟨(aJ a0.a (0) (a0.c) 4),((a1:Int).toNat-0),(a0.c-0)⟩ (a0.n-(a2:Int).toNat) l0 s1 w2->
 (0:Int)<=((a0.n:Nat):Int)/\((a0.n:Nat):Int)<=((s1.c:Nat):Int)/\(0:Int)<=((s1.n:Nat):Int)/\(((s1.n:Nat):Int):Int)<=((a0.n:Nat):Int)/\Wr w2 (aJ s1.a ((((s1.n:Nat):Int):Int).toNat) (s1.c) 4) (((((a0.n:Nat):Int):Int).toNat-(((s1.n:Nat):Int):Int).toNat)*4)/\(∀w3,w3=aK w2 (aJ s1.a ((((s1.n:Nat):Int):Int).toNat) (s1.c) 4) (br [aa,aa,aa,aa] ((((a0.n:Nat):Int):Int).toNat-(((s1.n:Nat):Int):Int).toNat))->
 R s1 w3))):ah 241 #[a0,a1,a2] w R:=
 cq bU Tryz.func241 h
def DD.vc{a0:Addr}(h:
 ∃(s0:Sl),ld w (ae (some a0) 2)=some (.slice s0.a s0.n s0.c)/\
 ah 191 #[s0] w (λe w1=>∃(s2:Sl),e=s2/\
 R s2 w1)):ah 138 #[a0] w R:=
 cq bU Tryz.func138 h
def r6.vc{a0:Sl}{a1:Value}(h:
 ah 304 #[a0,a1] w (λe w0=>∃(x1:Int),e=x1/\
 Br (x1==(-1))
 (R a0 w0)
 (∃I2:Nat->Int->Int->World->Prop,
 (∃n3,I2 n3 ((ak (x1+1))) x1 w0)/\
 ∀(n3:Nat)(us4:Nat->Value)(x5 x6:Int)(w7:World),I2 n3 x5 x6 w7->
 Br (decide (x5<((a0.n:Nat):Int)))
 (ez a0.a x5 a0.n/\∃(x9 bk bA bS:Int),af w7 (ae a0.a ((x5:Int).toNat*4)) 0 [x9,bk,bA,bS]/\
 Aw w7 #[aa,aa,aa,aa] 157 λbG=>
 Sw bG w7 #[x9,bk,bA,bS] λbJ=>
 cL Tryz.prog a1 [.agg #[x9,bk,bA,bS]] bJ (Rb λb16 eu=>Kp w7 bJ eu/\
 Br (!b16)
 (ez a0.a x6 a0.n/\(((ae a0.a ((x6:Int).toNat*4))).isSome=true/\Wr eu (ae a0.a ((x6:Int).toNat*4)) 4)/\bt (ae a0.a ((x6:Int).toNat*4))≠some w7.heap.size/\(∀cJ,cJ=aK eu (ae a0.a ((x6:Int).toNat*4)) [x9,bk,bA,bS]->
 ∃n8,n8<n3/\I2 n8 ((ak (x5+1))) ((ak (x6+1))) cJ))
 (∃n8,n8<n3/\I2 n8 ((ak (x5+1))) x6 eu)))
 ((0:Int)<=x6/\x6<=((a0.n:Nat):Int)/\Wr w7 (aJ a0.a ((x6:Int).toNat) (a0.c) 4) ((a0.n-(x6:Int).toNat)*4)/\(∀du,du=aK w7 (aJ a0.a ((x6:Int).toNat) (a0.c) 4) (br [aa,aa,aa,aa] (a0.n-(x6:Int).toNat))->
 (0:Int)<=x6/\x6<=((a0.c:Nat):Int)/\R (Value.slice (aJ a0.a (0) (a0.c) 4) ((x6:Int).toNat-0) (a0.c-0)) du))))):ah 286 #[a0,a1] w R:=
 cq ⟨[(5,⟨[(6,.int .i64),(5,.int .i64)],[],[]⟩)],[],[]⟩ Tryz.func286 h
def yi.vc{c0:Addr}(h:
 Aw w #[aw,ao,au,aP] 157 λw0=>
 ∃(x1 x2 x3:Int),af w0 (some c0) 0 [x1,x2,x3]/\
 R (Value.bool ((ao==x1) &&((au==x2) &&(aP==x3)))) w0):ah 287 #[.agg #[aw,ao,au,aP],c0] w R:=
 cq bU Tryz.func287 h
def nC.vc{a0:Sl}{a2:Value}(h:
 Aw w #[aq,ar,aA,bz] 157 λw0=>
 ∃I1:Nat->Int->Int->World->Prop,
 (∃n2,aL [aq,ar,aA,bz]/\I1 n2 (0) (((a0.n:Nat):Int)) w0)/\
 ∀(n2:Nat)(us3:Nat->Value)(x4 x5:Int)(w6:World),I1 n2 x4 x5 w6->
 Br (x4<x5)
 (ez a0.a (ak (((di (ak (x4+x5))):Int).fdiv (2 ^(min (1:Int).toNat 64)))) a0.n/\∃(x8 x9 bk bA:Int),af w6.drew (ae a0.a (((ak (((di (ak (x4+x5))):Int).fdiv (2 ^(min (1:Int).toNat 64)))):Int).toNat*4)) 0 [x8,x9,bk,bA]/\
 cL Tryz.prog a2 [.agg #[x8,x9,bk,bA],.agg #[aq,ar,aA,bz]] w6.drew (Ri λcn cU=>Kp w w6.drew cU/\
 Br (cn<0)
 (∃n7,n7<n2/\aL [aq,ar,aA,bz]/\I1 n7 ((ak ((ak (((di (ak (x4+x5))):Int).fdiv (2 ^(min (1:Int).toNat 64))))+1))) x5 cU)
 (∃n7,n7<n2/\aL [aq,ar,aA,bz]/\I1 n7 x4 ((ak (((di (ak (x4+x5))):Int).fdiv (2 ^(min (1:Int).toNat 64))))) cU)))
 (Br (decide (x4<((a0.n:Nat):Int)))
 (ez a0.a x4 a0.n/\∃(bW cD cp cZ:Int),af w6.drew (ae a0.a ((x4:Int).toNat*4)) 0 [bW,cD,cp,cZ]/\
 cL Tryz.prog a2 [.agg #[bW,cD,cp,cZ],.agg #[aq,ar,aA,bz]] w6.drew (Ri λcr du=>Kp w w6.drew du/\
 R (Value.tuple #[x4,.bool (cr==0)]) du))
 (R (Value.tuple #[x4,false]) w6.drew))):ah 288 #[a0,.agg #[aq,ar,aA,bz],a2] w R:=
 cq ⟨[(3,⟨[(9,.int .i64),(10,.int .i64)],[],[]⟩)],[],[]⟩ Tryz.func288 h
def yj.vc(h:
 Aw w #[aw,ao,au,aP] 157 λw0=>
 Aw w0 #[aq,ar,aA,bz] 157 λw1=>
 ah 291 #[aw,aq] w1 (Ri λx3 w2=>K2 w w0 w1 w2 (
 Aw w2 #[x3,(-1:Int)] 3 λw4=>
 ah 290 #[.slice (aB w2) 2 2] w4 (Ri λx6 w5=>K2 w w0 w4 w5 (
 R x6 w5))))):ah 289 #[.agg #[aw,ao,au,aP],.agg #[aq,ar,aA,bz]] w R:=
 cq bU Tryz.func289 h
def Tx.vc{a0:Sl}(h:
 ∃I0:Nat->Int->World->Prop,
 (∃n1,I0 n1 (0) w)/\
 ∀(n1:Nat)(wg:Nat->Value)(x3:Int)(w4:World),I0 n1 x3 w4->
 Br (decide (x3<((a0.n:Nat):Int)))
 (ez a0.a x3 a0.n/\∃(x6:Int),ld w4 (ae a0.a ((x3:Int).toNat*1))=some (.int .i64 x6)/\
 Br (x6 !=0)
 (R x6 w4)
 (∃n5,n5<n1/\I0 n5 ((ak (x3+1))) w4))
 (R (0:Int) w4)):ah 290 #[a0] w R:=
 cq ⟨[(3,⟨[(8,.int .i64)],[],[]⟩)],[],[]⟩ Tryz.func290 h
def DN.vc(h:
 ah 305 #[a0] w (λe w0=>∃(b1:Bool),e=b1/\
 ah 305 #[a1] w0 (λe w2=>∃(b3:Bool),e=b3/\
 Br b1
 (Br b3
 (R (0:Int) w2)
 (R (Value.int .i64 (-1)) w2))
 (Br b3
 (R (1:Int) w2)
 (Br (a0<a1)
 (R (Value.int .i64 (-1)) w2)
 (Br (a0>a1)
 (R (1:Int) w2)
 (R (0:Int) w2))))))):ah 291 #[a0,a1] w R:=
 cq bU Tryz.func291 h
def yk.vc{a0:Sl}{a2:Sl}(h:
 (0:Int)<=a1/\a1<=((a0.n:Nat):Int)/\Br ((((a2.n:Nat):Int):Int)==0)
 (R a0 w)
 (Br (a1==((a0.n:Nat):Int))
 (∃l0:LV,Rd w a2.a l0/\ba 32 4 w a0 a2.n l0/\∀(s1:Sl)(w2:World),aX 157 4 w a0 a2.n l0 s1 w2->
 R s1 w2)
 (Br (decide (((ak (((a0.n:Nat):Int)+((a2.n:Nat):Int))):Int)>((a0.c:Nat):Int)))
 ((0:Int)<=a1/\a1<=((a0.c:Nat):Int)/\((0:Int)<=(ak ((ak (((a0.n:Nat):Int)+((a2.n:Nat):Int)))-a1))/\ak (ak ((ak (((a0.n:Nat):Int)+((a2.n:Nat):Int)))-a1))=(ak ((ak (((a0.n:Nat):Int)+((a2.n:Nat):Int)))-a1))/\((ak ((ak (((a0.n:Nat):Int)+((a2.n:Nat):Int)))-a1)):Int)*32<=281474976710656)/\ba 32 4 w ⟨(aJ a0.a (0) (a0.c) 4),((a1:Int).toNat-0),(a0.c-0)⟩ ((ak ((ak (((a0.n:Nat):Int)+((a2.n:Nat):Int)))-a1)):Int).toNat (br [aa,aa,aa,aa] ((ak ((ak (((a0.n:Nat):Int)+((a2.n:Nat):Int)))-a1)):Int).toNat)/\∀(s3:Sl)(w4:World),aX 157 4 w ⟨(aJ a0.a (0) (a0.c) 4),((a1:Int).toNat-0),(a0.c-0)⟩ ((ak ((ak (((a0.n:Nat):Int)+((a2.n:Nat):Int)))-a1)):Int).toNat (br [aa,aa,aa,aa] ((ak ((ak (((a0.n:Nat):Int)+((a2.n:Nat):Int)))-a1)):Int).toNat) s3 w4->
 (0:Int)<=a1/\a1<=((s3.n:Nat):Int)/\∃l5:LV,(l5.length=min a2.n (s3.n-(a1:Int).toNat)*4/\Rd w4 a2.a l5/\One l5/\Wr w4 (aJ s3.a ((a1:Int).toNat) (s3.c) 4) l5.length)/\(∀w6,w6=aK w4 (aJ s3.a ((a1:Int).toNat) (s3.c) 4) l5->
 (0:Int)<=(ak (a1+((a2.n:Nat):Int)))/\(ak (a1+((a2.n:Nat):Int)))<=((s3.n:Nat):Int)/\(0:Int)<=a1/\a1<=((a0.n:Nat):Int)/\∃l7:LV,(l7.length=min (a0.n-(a1:Int).toNat) (s3.n-((ak (a1+((a2.n:Nat):Int))):Int).toNat)*4/\Rd w6.drew (aJ a0.a ((a1:Int).toNat) (a0.c) 4) l7/\One l7/\Wr w6.drew (aJ s3.a (((ak (a1+((a2.n:Nat):Int))):Int).toNat) (s3.c) 4) l7.length)/\(∀w8,w8=aK w6.drew (aJ s3.a (((ak (a1+((a2.n:Nat):Int))):Int).toNat) (s3.c) 4) l7->
 R s3 w8)))
 ((0:Int)<=(ak (((a0.n:Nat):Int)+((a2.n:Nat):Int)))/\(ak (((a0.n:Nat):Int)+((a2.n:Nat):Int)))<=((a0.c:Nat):Int)/\(0:Int)<=(ak (a1+((a2.n:Nat):Int)))/\(ak (a1+((a2.n:Nat):Int)))<=(((((ak (((a0.n:Nat):Int)+((a2.n:Nat):Int))):Int).toNat-0):Nat):Int)/\aa1 Tryz.prog 306 [a2,.slice (aJ (aJ a0.a (0) (a0.c) 4) (((ak (a1+((a2.n:Nat):Int))):Int).toNat) ((a0.c-0)) 4) ((((ak (((a0.n:Nat):Int)+((a2.n:Nat):Int))):Int).toNat-0)-((ak (a1+((a2.n:Nat):Int))):Int).toNat) ((a0.c-0)-((ak (a1+((a2.n:Nat):Int))):Int).toNat)] w (λe w9=>∃(b10:Bool),e=b10/\
 Br (!b10)
 ((0:Int)<=(ak (a1+((a2.n:Nat):Int)))/\(ak (a1+((a2.n:Nat):Int)))<=(((((ak (((a0.n:Nat):Int)+((a2.n:Nat):Int))):Int).toNat-0):Nat):Int)/\(0:Int)<=a1/\a1<=(((((ak (((a0.n:Nat):Int)+((a2.n:Nat):Int))):Int).toNat-0):Nat):Int)/\∃l11:LV,(l11.length=min ((((ak (((a0.n:Nat):Int)+((a2.n:Nat):Int))):Int).toNat-0)-(a1:Int).toNat) ((((ak (((a0.n:Nat):Int)+((a2.n:Nat):Int))):Int).toNat-0)-((ak (a1+((a2.n:Nat):Int))):Int).toNat)*4/\Rd w9.drew (aJ (aJ a0.a (0) (a0.c) 4) ((a1:Int).toNat) ((a0.c-0)) 4) l11/\One l11/\Wr w9.drew (aJ (aJ a0.a (0) (a0.c) 4) (((ak (a1+((a2.n:Nat):Int))):Int).toNat) ((a0.c-0)) 4) l11.length)/\(∀cU,cU=aK w9.drew (aJ (aJ a0.a (0) (a0.c) 4) (((ak (a1+((a2.n:Nat):Int))):Int).toNat) ((a0.c-0)) 4) l11->
 (0:Int)<=a1/\a1<=(((((ak (((a0.n:Nat):Int)+((a2.n:Nat):Int))):Int).toNat-0):Nat):Int)/\∃l13:LV,(l13.length=min a2.n ((((ak (((a0.n:Nat):Int)+((a2.n:Nat):Int))):Int).toNat-0)-(a1:Int).toNat)*4/\Rd cU a2.a l13/\One l13/\Wr cU (aJ (aJ a0.a (0) (a0.c) 4) ((a1:Int).toNat) ((a0.c-0)) 4) l13.length)/\(∀bJ,bJ=aK cU (aJ (aJ a0.a (0) (a0.c) 4) ((a1:Int).toNat) ((a0.c-0)) 4) l13->
 R (Value.slice (aJ a0.a (0) (a0.c) 4) (((ak (((a0.n:Nat):Int)+((a2.n:Nat):Int))):Int).toNat-0) (a0.c-0)) bJ)))
 ((0:Int)<=((a0.n:Nat):Int)/\((a0.n:Nat):Int)<=(((((ak (((a0.n:Nat):Int)+((a2.n:Nat):Int))):Int).toNat-0):Nat):Int)/\∃l15:LV,(l15.length=min a2.n ((((ak (((a0.n:Nat):Int)+((a2.n:Nat):Int))):Int).toNat-0)-(((a0.n:Nat):Int):Int).toNat)*4/\Rd w9 a2.a l15/\One l15/\Wr w9 (aJ (aJ a0.a (0) (a0.c) 4) ((((a0.n:Nat):Int):Int).toNat) ((a0.c-0)) 4) l15.length)/\(∀cP,cP=aK w9 (aJ (aJ a0.a (0) (a0.c) 4) ((((a0.n:Nat):Int):Int).toNat) ((a0.c-0)) 4) l15->
 (0:Int)<=a1/\a1<=(((((ak (((a0.n:Nat):Int)+((a2.n:Nat):Int))):Int).toNat-0):Nat):Int)/\ah 307 #[.slice (aJ (aJ a0.a (0) (a0.c) 4) ((a1:Int).toNat) ((a0.c-0)) 4) ((((ak (((a0.n:Nat):Int)+((a2.n:Nat):Int))):Int).toNat-0)-(a1:Int).toNat) ((a0.c-0)-(a1:Int).toNat),((a2.n:Nat):Int)] cP (λe cJ=>e=ug/\
 R (Value.slice (aJ a0.a (0) (a0.c) 4) (((ak (((a0.n:Nat):Int)+((a2.n:Nat):Int))):Int).toNat-0) (a0.c-0)) cJ)))))))):ah 292 #[a0,a1,a2] w R:=
 cq bU Tryz.func292 h
def Ae.vc{a0:Sl}(h:
 Br (a0.a).isNone
 (R (Value.slice none 0 0) w)
 (Aw w #[] 157 λw0=>
 ∃l1:LV,Rd w0 a0.a l1/\ba 32 4 w0 ⟨(aB w),0,0⟩ a0.n l1/\∀(s2:Sl)(w3:World),aX 157 4 w0 ⟨(aB w),0,0⟩ a0.n l1 s2 w3->Kp w w0 w3/\
 R s2 w3)):ah 191 #[a0] w R:=
 cq bU Tryz.func191 h
def tJ.vc{a0:Sl}{a1:Value}(h:
 ∃I0:Nat->Int->World->Prop,
 (∃n1,I0 n1 (0) w)/\
 ∀(n1:Nat)(wg:Nat->Value)(x3:Int)(w4:World),I0 n1 x3 w4->
 Br (decide (x3<((a0.n:Nat):Int)))
 (ez a0.a x3 a0.n/\∃(x6 x7 x8 x9:Int),af w4 (ae a0.a ((x3:Int).toNat*4)) 0 [x6,x7,x8,x9]/\
 cL Tryz.prog a1 [.agg #[x6,x7,x8,x9]] w4 (λe bN=>∃(Z0:Bool),e=Z0/\
 Br Z0
 (R x3 bN)
 (∃n5,n5<n1/\I0 n5 ((ak (x3+1))) bN)))
 (R (Value.int .i64 (-1)) w4)):ah 304 #[a0,a1] w R:=
 cq ⟨[(2,⟨[(8,.int .i64)],[],[]⟩)],[],[]⟩ Tryz.func304 h
def Ik.vc(h:
 R (Value.bool (a0 !=a0)) w):ah 305 #[a0] w R:=
 cq bU Tryz.func305 h
end Go.Proofs.YtkkkfkopcfdmaaaGreatDoor
namespace Go.Proofs.YtkkkfkopcfdmaaaGreatDoor.Q
open Go Go.Vc Go.RowKit Go.Proofs Go.fZ
set_option maxRecDepth 100000
abbrev y9:TypeId:=41
abbrev cQ:TypeId:=157
abbrev kq:TypeId:=226
def GC(v:Value):Prop:=∃c:Cl,v=cv c
def zZ:je Tryz.prog y9 GC:=by
 refine ⟨?_,?_,?_⟩
 ·rintro x y ⟨a,rfl⟩ ⟨b,rfl⟩;refine ⟨a.1==b.1 &&(a.2.1==b.2.1 && a.2.2==b.2.2),by kernel_rfl,?_⟩;simp only [fy,beq_iff_eq];constructor
  ·rintro ⟨h1,h2,h3⟩;unfold cv;rw [h1,h2,h3]
  ·intro h;rw [Gi h];simp
 ·rintro x ⟨a,rfl⟩ b w;kernel_rfl
 ·rintro x ⟨a,rfl⟩;simp [cv,Instr.sameBits]
def GS(a:Int)(w:World):ah 305 #[a] w λe w'=>e=false/\w'=w:=by apply Ik.vc;simp
def LJ(a b:Int)(w:World):ah 291 #[a,b] w λe w'=>e=Value.int .i64 (if a<b then -1 else if b<a then 1 else 0)/\w'=w:=by
 apply DN.vc;refine (GS a w).mono ?_;rintro e w1 ⟨rfl,rfl⟩;refine ⟨_,rfl,(GS b w1).mono ?_⟩;rintro e w2 ⟨rfl,rfl⟩;refine ⟨_,rfl,Br.mk (λh=>by cases h) (λ_=>Br.mk (λh=>by cases h) (λ_=>Br.mk (λh=> ?_) (λh=>Br.mk (λh2=> ?_) (λh2=> ?_))))⟩
 ·replace h:=nG h;rw [if_pos h];exact ⟨rfl,rfl⟩
 ·simp only [cX,fk] at h h2;rw [if_neg h,if_pos h2];exact ⟨rfl,rfl⟩
 ·simp only [fk] at h h2;rw [if_neg h,if_neg h2];exact ⟨rfl,rfl⟩
def acq(a b:Int)(g:Nat)(w:World)(hr:Row w g [a,b] 3):
  ah 290 #[.slice (aB g) 2 2] w λe w'=>e=Value.int .i64 (if a=0 then b else a)/\w'=w:=by
 apply (Tx.vc (a0:=⟨aB g,2,2⟩));refine ⟨λn x wr=>wr=w/\∃k:Nat,x=k/\k+n=2/\(1<=k->a=0)/\(2<=k->b=0),⟨2,rfl,0,rfl,rfl,by omega,by omega⟩,?_⟩;rintro n us x wr ⟨rfl,k,rfl,hk,h1,h2⟩;have hw:=aM (n:=(k:Int)+1) (by unfold bT;omega);rw [hw];apply Br.mk<;>intro h<;>simp only [cX,fk] at h
 ·refine ⟨⟨rfl,by omega,by omega⟩,if k=0 then a else b,?_,Br.mk (λh3=> ?_) (λh3=> ?_)⟩
  ·show ld wr (ae (aB g) _)=_;rw [bo,hr.ld];have:k=0\/k=1:=by simp at h;omega
   rcases this with rfl|rfl<;>rfl
  ·simp only [bne_iff_ne,ne_eq] at h3;have:k=0\/k=1:=by simp at h;omega
   rcases this with rfl|rfl
   ·rw [if_pos rfl] at h3 ⊢;rw [if_neg h3];exact ⟨rfl,rfl⟩
   ·rw [if_neg (show ¬((1:Nat)=0) by omega)] at h3 ⊢;rw [if_pos (h1 ab)];exact ⟨rfl,rfl⟩
  ·simp only [bne_eq_false_iff_eq] at h3;have:k=0\/k=1:=by simp at h;omega
   rcases this with rfl|rfl
   ·rw [if_pos rfl] at h3;exact ⟨n-1,by omega,rfl,1,by omega,by omega,λ_=>h3,by omega⟩
   ·rw [if_neg (show ¬((1:Nat)=0) by omega)] at h3;exact ⟨n-1,by omega,rfl,2,by omega,by omega,λ_=>h1 ab,λ_=>h3⟩
 ·have:k=2:=by simp at h;omega
  subst this;rw [if_pos (h1 ab),h2 ab];exact ⟨rfl,rfl⟩
def GR(x y:It)(w:World):ah 289 #[.agg (gj x).toArray,.agg (gj y).toArray] w λe w'=>(∃z:Int,e=z/\(z<0 ↔ x.1<=y.1))/\Ext w w':=by
 apply yj.vc;intro w0 e0 w1 e1;have x1:Ext w w1:=by rw [e1,e0];exact (Ext.al _ _).tr (Ext.al _ _)
 refine (LJ x.1 y.1 _).mono ?_;intro e w2 hh;obtain ⟨rfl,ew⟩:=hh;have x2:Ext w w2:=by rw [ew];exact x1
 refine ⟨_,rfl,by rw [ew],by rw [ew],?_⟩;intro w4 e4;have x4:Ext w w4:=x2.bg e4;have dq:Row w4 w2 [.int .i64 (if x.1<y.1 then -1 else if y.1<x.1 then 1 else 0),(-1:Int)] 3:=by rw [e4];exact Row.new w2 [_,_] _
 refine (acq _ _ _ _ dq).mono ?_;intro e w5 hh;obtain ⟨rfl,ew5⟩:=hh;refine ⟨_,rfl,by rw [ew5],by rw [ew5],⟨_,rfl,?_⟩,by rw [ew5];exact x4⟩;by_cases h1:x.1<y.1
 ·rw [if_pos h1];simp;omega
 ·by_cases h2:y.1<x.1
  ·rw [if_neg h1,if_pos h2];simp;omega
  ·rw [if_neg h1,if_neg h2];simp;omega
def fN(l:List It):∀r ∈ l.map gj,r.length=4:=by intro r hr;obtain ⟨x,_,rfl⟩:=aY.1 hr;rfl
def kX(l:List It):∀r ∈ l.map gj,One r:=by intro r hr;obtain ⟨x,_,rfl⟩:=aY.1 hr;intro u hu;simp at hu;rcases hu with rfl|rfl|rfl|rfl<;>rfl
def rZ(x:It):One (gj x):=by intro u hu;simp at hu;rcases hu with rfl|rfl|rfl|rfl<;>rfl
def Jf(l:List It)(i:Nat):(l.map gj).flatten.take (i*4)=((l.take i).map gj).flatten:=by
 have hw:=fN (l.take i);rcases jA i l.length with h|h
 ·conv=>lhs;rw [<-qP i l,bX,Cz]
  rw [Fa (by rw [bK hw];simp;omega)]
 ·rw [fz h,fz];rw [bK (fN l)];simp;omega
def Jg(l:List It)(i:Nat):(l.map gj).flatten.drop (i*4)=((l.drop i).map gj).flatten:=by
 rcases jA i l.length with h|h
 ·conv=>lhs;rw [<-qP i l,bX,Cz]
  rw [List.drop_left' (by rw [bK (fN _)];simp;omega)]
 ·rw [Cy h,Cy]
  ·rfl
  ·rw [bK (fN l)];simp;omega
def Fc{cs:LV}{l:List It}{n:Nat}(ht:cs.take (n*4)=(l.map gj).flatten)(hn:n=l.length)(i j:Nat)(hj:j<((l.drop i).map gj).flatten.length):cs[i*4+j]? =((l.drop i).map gj).flatten[j]? :=by rw [<-Jg,wB,<-ht,qN,if_pos];rw [bK (fN _)] at hj;simp at hj;omega
set_option maxRecDepth 100000 in
def Ib{w:World}{g g':Nat}{x cs:LV}(hx:Row w g x cQ)(hr:Row w g' cs cQ)(gy:g≠g')(hc:cs.length≠0)(o:Nat)(la ca lb cb:Nat){R:Ending->World->Prop}(h:R (.returned (.bool false)) w):
  aa1 Tryz.prog 306 [.slice (aB g) la ca,.slice (dU g' o) lb cb] w R:=by
 refine ⟨_,⟨_,rfl,by kernel_rfl,by kernel_rfl,by kernel_rfl⟩,_,_,Lib.run_overlaps_apart w 153 0 cQ (by kernel_rfl) 4 (λw=>by kernel_rfl) ⟨g,0,none⟩ ⟨g',o,none⟩ la ca lb cb gy cQ cQ x.length cs.length ?_ ?_ hc ?_ ?_,h⟩
 ·simp [World.shape?,show w.heap[g]? =_ from hx]
 ·simp [World.shape?,show w.heap[g']? =_ from hr]
 ·simp [World.frozen?,show w.heap[g]? =_ from hx]
 ·simp [World.frozen?,show w.heap[g]? =_ from hx]
def Gf{w:World}{g g':Nat}{x cs:LV}(hx:Row w g x cQ)(hr:Row w g' cs cQ)(gy:g≠g')(hc:cs.length≠0){p:Option Addr}{o:Nat}(hp:p=some ⟨g',o,none⟩)(la ca lb cb:Nat){R:Ending->World->Prop}(h:R (.returned (.bool false)) w):
  aa1 Tryz.prog 306 [.slice (aB g) la ca,.slice p lb cb] w R:=by
 subst hp;exact Ib hx hr gy hc o la ca lb cb h
def Cx(n:Nat):br [aa,aa,aa,aa] n=((List.replicate n ((0,0,0,0):It)).map gj).flatten:=by unfold br;simp
def Om{w:World}{s:Sl}{l:List It}{i g:Nat}{x:It}(ho:aF 0 cQ 4 w s (l.map gj))(hx:Row w g (gj x) cQ)(hi:i<=l.length)(hl:l.length<=5000)(gy:s.bj≠some g):
  ah 292 #[s,(i:Int),.slice (aB g) 1 1] w λe w'=>∃s':Sl,e=Value.slice s'.a s'.n s'.c/\aF 0 cQ 4 w' s' ((l.take i++x::l.drop i).map gj)/\Mod (λb=>s.bj=some b) w w'/\(∀b,s'.bj=some b->s.bj=some b\/w.heap.size<=b):=by
 have hn:s.n=l.length:=by rw [(ho.rd aG).n,aN]
 apply yk.vc (a2:=⟨aB g,1,1⟩);have Ui:ak (((s.n:Nat):Int)+((1:Nat):Int))=((s.n+1:Nat):Int):=by rw [wI];omega
 have AN:ak ((i:Int)+((1:Nat):Int))=((i+1:Nat):Int):=by rw [wI];omega
 have Q9:ak (((s.n+1:Nat):Int)-(i:Int))=((s.n+1-i:Nat):Int):=by rw [wI];omega
 have hw4:ak ((s.n+1-i:Nat):Int)=((s.n+1-i:Nat):Int):=wI;have hrx:Rd w (aB g) (gj x):=hx.rd0 λj hj=>rfl
 dsimp only;rw [Ui,AN,Q9,hw4];simp only [eC,Nat.sub_zero,eo];refine ⟨by omega,by omega,Br.mk (λh=>by cases h) (λ_=>Br.mk (λh=> ?_) (λh=> ?_))⟩
 ·
  have he:i=l.length:=by simp at h;omega
  obtain ⟨hp,hr⟩:=ho.append (bytes:=32) (news:=gj x) (iI _) rfl (rZ x) ab ab;refine ⟨gj x,hrx,hp,λs' w' bu=> ?_⟩;obtain ⟨h1,h2,h3,h4,h5⟩:=hr s' w' bu;refine ⟨s',rfl,?_,Mod.xg h3 h4,?_⟩
  ·rw [he,ja,List.drop_length,bX];exact h1
  ·intro b hb;rcases h5 with h5|h5
   ·exact .inl (h5▸hb)
   ·rw [h5] at hb;cases hb;exact .inr (aD _)
 ·have iS:i<l.length:=by
   have:i≠l.length:=λe=>by subst e;simp [hn] at h
   omega
  rcases ho.form aG with ⟨hs,DS⟩|⟨g0,cs,ha,hg0,hr,hc,Ql,ht,hn'⟩
  ·have:l=[]:=by simpa using DS
   subst this;simp at iS
  have ahw:g0≠g:=λe=>gy (by unfold Sl.bj;rw [ha,e];rfl)
  have iQ:s.bj=some g0:=by unfold Sl.bj;rw [ha];rfl
  have wW:cs.take (i*4)=((l.take i).map gj).flatten:=by rw [<-Jf,<-ht,List.take_take,Nat.min_eq_left ab]
  rw [ha];apply Br.mk<;>intro h2
  ·
   replace h2:=nG h2;have alK:aF 0 cQ 4 w ⟨aB g0,i,s.c⟩ ((l.take i).map gj):=aF.jG (iI _) hr hc ab wW (fN _);obtain ⟨hp,-⟩:=alK.HU (bytes:=32) (more:=(List.replicate (s.n+1-i) ((0,0,0,0):It)).map gj) (iI _) (fN _) (kX _) (by simp;omega) (by simp;omega);have dD:((List.replicate (s.n+1-i) ((0,0,0,0):It)).map gj).length=s.n+1-i:=by simp
   rw [dD] at hp;rw [Cx];refine ⟨by omega,by omega,⟨by omega,trivial,by omega⟩,hp,λs3 w4 bu=> ?_⟩;generalize hz:((List.replicate (s.n+1-i) ((0,0,0,0):It)).map gj).flatten=zs at bu;have QX:zs.length=(s.n+1-i)*4:=by rw [<-hz,bK (fN _)];simp
   cases bu with
   |fits hf=>simp only at hf;omega
   |Cp hg fP rest cap q1 q2 q3 q4=>
    simp only at q1 q2 q3;have Hj:fP=cs.take (i*4):=by
     refine Wm q2 (hr.rd0 (vs:=cs.take (i*4)) λj hj=> ?_) ?_
     ·rw [dI] at hj;rw [qN,if_pos ab]
     ·rw [q1,dI];omega
    have hR:Row (w.drew.alloc (.cells (fP++zs++rest).toArray cQ)) w.heap.size (fP++zs++rest) cQ:=Row.new w.drew _ _;generalize axp:w.drew.alloc (.cells (fP++zs++rest).toArray cQ)=w4 at hR;have x4:Ext w w4:=by rw [<-axp];exact (Ext.dr w).tr (Ext.al _ _)
    have hr4:=hr.ext x4;have hlt0:=hr.lt;have hn3:i+(s.n+1-i)=s.n+1:=by omega
    have hCl:(s.n+1)*4<=(fP++zs++rest).length:=by rw [q4];exact wC _ ab
    dsimp only;rw [hn3];have hx4:=hx.ext x4;have oJ:((l.drop i).map gj).flatten.length=(s.n-i)*4:=by rw [bK (fN _)];simp;omega
    have hm1:min 1 (s.n+1-i)*4=4:=by
     have:min 1 (s.n+1-i)=1:=by omega
     rw [this]
    have Md:min (s.n-i) (s.n+1-(i+1))=s.n-i:=by omega
    obtain ⟨p1,p2,p3⟩:=hR.aay (vs:=gj x) (l:=i) (m:=cap) (size:=4) (by intro e;omega) (by simp;omega) (rZ x);refine ⟨by omega,by omega,gj x,⟨hm1.symm,hx4.rd0 λj hj=>rfl,rZ x,p1⟩,?_⟩;intro w6 e6;rw [<-e6] at p2 p3;have hr6:Row w6.drew g0 cs cQ:=(p3.row hr4 ab).ext (Ext.dr _);have p2':Row w6.drew w _ cQ:=p2.ext (Ext.dr _);obtain ⟨u1,u2,u3⟩:=p2'.aay (vs:=((l.drop i).map gj).flatten) (l:=i+1) (m:=cap) (size:=4) (by intro e;rw [Cy ab];rfl) (by rw [oJ,Go.Vc.dB];omega) (gk (kX _));refine ⟨by omega,by omega,by omega,by omega,((l.drop i).map gj).flatten,⟨by rw [Md,oJ],hr6.ajc (by intro e;rw [Cy ab];rfl) (Fc ht hn i),gk (kX _),u1⟩,?_⟩;intro w8 e8;rw [<-e8] at u2 u3;refine ⟨⟨aB w.heap.size,s.n+1,cap⟩,rfl,aF.jG (iI _) u2 (by rw [Go.Vc.dB,Go.Vc.dB,q4];exact aD _) ab ?_ (fN _),?_,?_⟩
    ·rw [acg (by simp;omega) (by rw [oJ];omega) hCl,gV,gV,Fa (by rw [q1]),Hj,wW];simp
    ·refine ((Mod.aH x4).tr p3 (λb hb=> .inr ab)).tr (F':=λb=>b=w.heap.size) ?_ (λb hb=> .inr ab);exact (Mod.aH (Ext.dr _)).trans u3
    ·intro b hb;have:w.heap.size=b:=by simpa [Sl.bj] using hb
     exact .inr ab
  ·
   replace h2:=nT h2;have hCl:(s.n+1)*4<=cs.length:=gD (wC _ ab) hc;have oJ:((l.drop i).map gj).flatten.length=(s.n-i)*4:=by rw [bK (fN _)];simp;omega
   refine ⟨by omega,by omega,by omega,by omega,?_⟩;refine Gf hx hr (Ne.symm ahw) ab (by rw [se,if_neg ab]) _ _ _ _ ⟨_,rfl,Br.mk (λ_=> ?_) (λh=>by cases h)⟩;have Md:min (s.n+1-i) (s.n+1-(i+1))=s.n-i:=by omega
   have hm1:min 1 (s.n+1-i)*4=4:=by
    have:min 1 (s.n+1-i)=1:=by omega
    rw [this]
   have hr':=hr.ext (Ext.dr w);obtain ⟨u1,u2,u3⟩:=hr'.aay (vs:=((l.drop i).map gj).flatten) (l:=i+1) (m:=s.c) (size:=4) (by intro e;omega) (by rw [oJ];omega) (gk (kX _));refine ⟨by omega,by omega,by omega,by omega,((l.drop i).map gj).flatten,⟨by rw [Md,oJ],hr'.ajc (by intro e;omega) (Fc ht hn i),gk (kX _),u1⟩,?_⟩;intro cU Km;rw [<-Km] at u2 u3;obtain ⟨p1,p2,p3⟩:=u2.aay (vs:=gj x) (l:=i) (m:=s.c) (size:=4) (by intro e;omega) (by rw [Go.Vc.dB];simp;omega) (rZ x);have axq:Row cU g (gj x) cQ:=u3.row (hx.ext (Ext.dr w)) (Ne.symm ahw);refine ⟨by omega,by omega,gj x,⟨hm1.symm,axq.rd0 λj hj=>rfl,rZ x,p1⟩,?_⟩;intro bJ vE;rw [<-vE] at p2 p3;refine ⟨⟨aB g0,s.n+1,s.c⟩,rfl,aF.jG (iI _) p2 (by rw [Go.Vc.dB,Go.Vc.dB];exact hc) ab ?_ (fN _),?_,?_⟩
   ·rw [X7 (by simp;omega) (by rw [oJ];omega) hCl,wW];simp
   ·refine (((Mod.aH (Ext.dr w)).trans u3).trans p3).mono λb _ hb=> ?_
    rw [iQ,hb]
   ·intro b hb;exact .inl (iQ.trans hb)
def RdK.item{w:World}{s:Sl}{l:List It}(h:RdK w s 4 (l.map gj)){i:Nat}{x:It}(hi:l[i]? =some x):af w (ae s.a (i*4)) 0 (gj x):=
 h.cg (by rw [aV,hi];rfl)
def abv{w:World}{s:Sl}{l:List It}(x:It)(h:RdK w s 4 (l.map gj))(hs:l.Pairwise λa b=>a.1<=b.1)(hl:l.length<=5000):
  ah 288 #[s,.agg (gj x).toArray,.func (.func 289) #[] #[]] w λe w'=>(∃b,e=Value.tuple #[.int .i64 ((l.takeWhile λy=>y.1<=x.1).length:Nat),.bool b])/\Ext w w':=by
 have hn:s.n=l.length:=by rw [h.n,aN]
 apply nC.vc;intro w0 e0;have x0:=aT e0;have IQ:w0.heap.size=w.heap.size+1:=by rw [e0];simp [World.alloc_eq]
 have hk:(l.takeWhile λy=>decide (y.1<=x.1)).length<=l.length:=(List.takeWhile_sublist _).length_le;generalize hkk:(l.takeWhile λy=>decide (y.1<=x.1)).length=k at hk;have HK:∀{i:Nat} {y:It},l[i]? =some y->(i<k ↔ y.1<=x.1):=λhi=>by rw [<-hkk];exact Ab hs x.1 hi
 refine ⟨λn a b wr=>Ext w0 wr/\∃lo hi:Nat,a=lo/\b=hi/\lo<=k/\k<=hi/\hi<=l.length/\n=hi-lo,⟨_,rfl,Ext.cu _,0,s.n,rfl,rfl,iI _,by omega,by omega,rfl⟩,?_⟩;rintro n us a b wr ⟨xr,lo,hi,rfl,rfl,h1,h2,h3,rfl⟩;refine Br.mk (λiS=> ?_) (λQj=> ?_)<;>simp only [cX,fk] at*
 ·rw [aj0 ab];have apV:(lo+hi) / 2<l.length:=by omega
  have fL:l[(lo+hi) / 2]? =some l[(lo+hi) / 2]:=dv apV;generalize l[(lo+hi) / 2]=y at fL;have hr:=(h.ext (x0.tr xr)).ext (Ext.dr wr);have Y4:=xr.size;refine ⟨⟨?_,by omega,by omega⟩,y.1,y.2.1,y.2.2.1,y.2.2.2,RdK.item hr fL,?_⟩
  ·exact h.isSome aG (i:=(lo+hi) / 2) (by simpa using apV)
  refine c9 (by kernel_rfl) rfl ((GR y x _).mono ?_);rintro e w2 ⟨⟨z,rfl,hz⟩,x2⟩;have hz':=(HK fL).trans hz.symm;have x3:=(xr.tr (Ext.dr wr)).tr x2;refine ⟨z,rfl,(x2.heap ?_),Br.mk (λhb=> ?_) (λhb=> ?_)⟩
  ·show w.heap.size<wr.heap.size;omega
  ·replace hb:=nG hb;have:=hz'.2 hb;have hw:ak ((((lo+hi) / 2:Nat):Int)+1)=(((lo+hi) / 2+1:Nat):Int):=by rw [wI];omega
   rw [hw];exact ⟨_,by omega,trivial,x3,(lo+hi) / 2+1,hi,rfl,rfl,by omega,h2,h3,rfl⟩
  ·replace hb:=nT hb;have:¬(lo+hi) / 2<k:=λh=>hb (hz'.1 h)
   exact ⟨_,by omega,trivial,x3,lo,(lo+hi) / 2,rfl,rfl,h1,by omega,by omega,rfl⟩
 ·have:lo=k:=by omega
  subst this;have hr:=(h.ext (x0.tr xr)).ext (Ext.dr wr);have Y4:=xr.size;refine Br.mk (λhb=> ?_) (λhb=>⟨⟨_,rfl⟩,x0.tr (xr.tr (Ext.dr _))⟩);replace hb:=nG hb;have fL:l[lo]? =some (l[lo]'ab):=dv ab;generalize l[lo]'ab=y at fL;refine ⟨⟨h.isSome aG (i:=lo) (by simp;omega),by omega,by omega⟩,y.1,y.2.1,y.2.2.1,y.2.2.2,RdK.item hr fL,?_⟩;refine c9 (by kernel_rfl) rfl ((GR y x _).mono ?_);rintro e w2 ⟨⟨z,rfl,hz⟩,x2⟩;refine ⟨z,rfl,x2.heap (show w.heap.size<wr by omega),⟨_,rfl⟩,(x0.tr (xr.tr (Ext.dr wr))).tr x2⟩
def Fb(x:It){b:Nat}{c:Cl}{w:World}(hb:Row w b (dO c) y9):ah 287 #[.agg (gj x).toArray,b] w λe w'=>e=Value.bool (x.2==c)/\Ext w w':=by apply yi.vc;intro w0 e0;have x0:=aT e0;exact ⟨c.1,c.2.1,c.2.2,(hb.ext x0).cg (λj hj=>by rw [eD]),rfl,x0⟩
def xi{w:World}{s:Sl}{l:List It}{b:Nat}{c:Cl}(h:RdK w s 4 (l.map gj))(hb:Row w b (dO c) y9)(hl:l.length<=5000):
  ah 304 #[s,.func (.func 287) #[] #[b]] w λe w'=>(∃i:Int,e=i/\((i= -1/\∀x ∈ l,x.2≠c)\/∃k:Nat,i=k/\k<l.length/\(∀x ∈ l.take k,x.2≠c)/\∀x,l[k]? =some x->x.2=c))/\Ext w w':=by
 have hn:s.n=l.length:=by rw [h.n,aN]
 apply tJ.vc;refine ⟨λn a wr=>Ext w wr/\∃k:Nat,a=k/\k+n=l.length/\(∀x ∈ l.take k,x.2≠c),⟨l.length,Ext.cu _,0,rfl,by omega,by simp⟩,?_⟩;rintro n us a wr ⟨xr,k,rfl,h1,h2⟩;refine Br.mk (λiS=> ?_) (λQj=> ?_)<;>simp only [cX,fk] at*
 ·have fL:l[k]? =some (l[k]'ab):=dv ab;generalize l[k]'ab=y at fL;refine ⟨⟨h.isSome aG (i:=k) (by simp;omega),by omega,by omega⟩,y.1,y.2.1,y.2.2.1,y.2.2.2,RdK.item (h.ext xr) fL,?_⟩;refine c9 (by kernel_rfl) rfl ((Fb y (hb.ext xr)).mono ?_);rintro e w2 ⟨rfl,x2⟩;refine ⟨_,rfl,Br.mk (λhb=> ?_) (λhb=> ?_)⟩
  ·refine ⟨⟨_,rfl,.inr ⟨k,rfl,by omega,h2,λx hx=> ?_⟩⟩,xr.tr x2⟩;rw [fL] at hx;cases hx;simpa using hb
  ·have hw:=nY (j:=k);rw [hw];refine ⟨n-1,by omega,xr.tr x2,k+1,rfl,by omega,λx hx=> ?_⟩;rw [dP,fL] at hx;rcases c5.1 hx with hx|hx
   ·exact h2 x hx
   ·simp at hx;subst hx;simpa using hb
 ·refine ⟨⟨_,rfl,.inl ⟨rfl,?_⟩⟩,xr⟩;rw [fz ab] at h2;exact h2
def E9{w:World}{s:Sl}{l:List It}(ho:aF 0 cQ 4 w s (l.map gj)){i:Nat}(hi:i<=l.length):
  Wr w (aJ s.a i s.c 4) ((s.n-i)*4)/\∀w',w'=aK w (aJ s.a i s.c 4) (br [aa,aa,aa,aa] (s.n-i))->
   aF 0 cQ 4 w' ⟨s.a,i,s.c⟩ ((l.take i).map gj)/\Mod (λb=>s.bj=some b) w w':=by
 have hn:s.n=l.length:=by rw [(ho.rd aG).n,aN]
 rw [Cx];rcases ho.form aG with ⟨hs,DS⟩|⟨g0,cs,ha,hg0,hr,hc,Ql,ht,hn'⟩
 ·have:l=[]:=by simpa using DS
  subst this;have:i=0:=by simpa using hi
  subst this;subst hs;refine ⟨λj hj=>by simp at hj,λw' e=> ?_⟩;have:w'=w:=by rw [e];rfl
  subst this;exact ⟨aF.nil,Mod.refl _ _⟩
 ·have iQ:s.bj=some g0:=by unfold Sl.bj;rw [ha];rfl
  have QX:((List.replicate (s.n-i) ((0,0,0,0):It)).map gj).flatten.length=(s.n-i)*4:=by rw [bK (fN _)];simp
  have Y2:s.n*4<=cs.length:=gD (wC _ Ql) hc;rw [ha];have hz0:s.c=i->((List.replicate (s.n-i) ((0,0,0,0):It)).map gj).flatten=[]:=λe=>by
   have:s.n-i=0:=by omega
   rw [this];rfl
  obtain ⟨p1,p2,p3⟩:=hr.aay (l:=i) (m:=s.c) (size:=4) hz0 (by rw [QX];omega) (gk (kX _));rw [QX] at p1;refine ⟨p1,λw' e=> ?_⟩;rw [<-e] at p2 p3;refine ⟨aF.jG (iI _) p2 (by rw [Go.Vc.dB];exact hc) ab ?_ (fN _),p3.mono λb _ hb=>by rw [iQ,hb]⟩;rw [dw _ _ _ (by rw [QX];omega),gV,Fa (by rw [dI];omega),<-Jf,<-ht,List.take_take,Nat.min_eq_left ab]
def aaz{w:World}{s:Sl}{l:List It}(ho:aF 0 cQ 4 w s (l.map gj)){i:Nat}(hi:i<l.length)(x:It):
  (ae s.a (i*4)).isSome=true/\Wr w (ae s.a (i*4)) 4/\∀w',w'=aK w (ae s.a (i*4)) (gj x)->aF 0 cQ 4 w' s ((l.set i x).map gj)/\Mod (λb=>s.bj=some b) w w':=by
 obtain ⟨h1,h2,h3,h4,h5⟩:=ho.put (i:=i) (r:=gj x) (by simpa using hi) aG rfl (rZ x);refine ⟨h1,h2,λw' e=> ?_⟩;subst e;exact ⟨by rw [jV];exact h3,h4.os,h4.tape,h4.output,h4.size,λj _ hn=>h5 j hn⟩
def Dd{w:World}{s:Sl}{l:List It}{b:Nat}{c:Cl}(ho:aF 0 cQ 4 w s (l.map gj))(hb:Row w b (dO c) y9)(hl:l.length<=5000):
  ah 286 #[s,.func (.func 287) #[] #[.pointer (some ⟨b,0,none⟩)]] w λe w'=>∃s':Sl,e=s'/\aF 0 cQ 4 w' s' ((iu l c).map gj)/\Mod (λb=>s.bj=some b) w w'/\s'.bj=s.bj:=by
 have hn:s.n=l.length:=by rw [(ho.rd aG).n,aN]
 have Q0:s.bj≠some b:=λe=>by
  rcases ho.form aG with ⟨hs,DS⟩|⟨g0,cs,ha,hg0,hr,hc,Ql,ht,hn'⟩
  ·rw [hs] at e;cases e
  ·have:g0=b:=by unfold Sl.bj at e;rw [ha] at e;simpa using e
   exact hr.ne hb aG this
 apply r6.vc;refine (xi (ho.rd aG) hb hl).mono ?_;rintro e w1 ⟨⟨i,rfl,hi⟩,x1⟩;refine ⟨i,rfl,Br.mk (λh=> ?_) (λh=> ?_)⟩
 ·have hm:i= -1:=by simpa using h
  rcases hi with ⟨-,mu⟩|⟨k,hk,-⟩
  ·refine ⟨s,rfl,?_,Mod.aH x1,rfl⟩;have:iu l c=l:=by unfold iu;rw [ML];intro x hx;simpa using mu x hx
   rw [this];exact ho.ext x1
  ·omega
 ·have hm:i≠-1:=by simpa using h
  rcases hi with ⟨hi,-⟩|⟨k,rfl,hk,as9,hkc⟩
  ·exact absurd hi hm
  have hw:=nY (j:=k);have hq:iu (l.take (k+1)) c=l.take k:=by
   unfold iu;rw [dP,qd];have e1:(l.take k).filter (λx=>x.2 !=c)=l.take k:=by rw [ML];intro x hx;simpa using as9 x hx
   have fL:l[k]? =some (l[k]'hk):=dv hk;have:=hkc _ fL;rw [e1,fL];simp [this]
  refine ⟨λn a d wr=>Mod (λb=>s.bj=some b) w wr/\∃(j m:Nat)(l':List It),a=j/\d=m/\j+n=l.length/\m<j/\m=(iu (l.take j) c).length/\aF 0 cQ 4 wr s (l'.map gj)/\l'.length=l.length/\l'.take m=iu (l.take j) c/\l'.drop j=l.drop j,⟨l.length-(k+1),Mod.aH x1,k+1,k,l,hw,rfl,by omega,by omega,?_,ho.ext x1,rfl,hq.symm,rfl⟩,?_⟩
  ·rw [hq,dI];omega
  rintro n us a d wr ⟨qv,j,m,l',rfl,rfl,h1,h2,h3,ho',h4,h5,h6⟩;have hbr:Row wr b (dO c) y9:=qv.row hb Q0;refine Br.mk (λiS=> ?_) (λQj=> ?_)
  ·replace iS:=nG iS;have fL:l[j]? =some (l[j]'ab):=dv ab;generalize l[j]'ab=y at fL;have anG:l'[j]? =some y:=by have:=congrArg (λq:List It=>q[0]?) h6;simpa [wB,fL] using this
   refine ⟨⟨(ho'.rd aG).isSome aG (i:=j) (by simp;omega),by omega,by omega⟩,y.1,y.2.1,y.2.2.1,y.2.2.2,RdK.item (ho'.rd aG) anG,?_⟩;intro bG DT bJ vE;have bW:Ext wr bJ:=(Ext.cu wr|>.bg DT).ag vE (aD _);have akr:wr.heap.size<bJ:=by rw [vE,setRow_size,DT];simp
   refine c9 (by kernel_rfl) rfl ((Fb y (hbr.ext bW)).mono ?_);rintro e w2 ⟨rfl,x2⟩;have x3:=bW.tr x2;have hwj:=nY (j:=j);have hwm:=nY (j:=m);have hqj:iu (l.take (j+1)) c=iu (l.take j) c++(if y.2=c then [] else [y]):=by unfold iu;rw [dP,fL,qd];congr 1;by_cases hy:y.2=c<;>simp [hy]
   refine ⟨_,rfl,x2.heap akr,Br.mk (λj8=> ?_) (λj8=> ?_)⟩
   ·have hy:y.2≠c:=by simpa using j8
    obtain ⟨p1,p2,p3⟩:=aaz (ho'.ext x3) (i:=m) ab y;refine ⟨⟨(ho'.rd aG).isSome aG (i:=m) (by simp;omega),by omega,by omega⟩,⟨p1,p2⟩,?_,?_⟩
    ·rw [de];intro e;have:=ho'.own.lt (g:=wr.heap.size) e;omega
    ·intro cJ yr;obtain ⟨q1,q2⟩:=p3 cJ yr;rw [hwj,hwm];refine ⟨n-1,by omega,(qv.trans (Mod.aH x3)).trans q2,j+1,m+1,l'.set m y,rfl,rfl,by omega,by omega,?_,q1,by rw [jU,h4],?_,?_⟩
     ·rw [hqj,if_neg hy,cS,<-h3];rfl
     ·rw [hqj,if_neg hy,<-h5,dP,List.take_set_of_le (aD _),oS ab];rfl
     ·rw [List.drop_set_of_lt ab];have:=congrArg (List.drop 1) h6;simpa [List.drop_drop] using this
   ·have hy:y.2=c:=by simpa using j8
    rw [hwj];refine ⟨n-1,by omega,qv.trans (Mod.aH x3),j+1,m,l',rfl,rfl,by omega,by omega,?_,ho'.ext x3,h4,?_,?_⟩
    ·rw [hqj,if_pos hy,qQ];exact h3
    ·rw [hqj,if_pos hy,qQ];exact h5
    ·have:=congrArg (List.drop 1) h6;simpa [List.drop_drop] using this
  ·replace Qj:=nT Qj;have hj:j=l.length:=by omega
   have Zb:=(ho'.form aG);have Ql:s.n<=s.c:=by
    rcases Zb with ⟨hs,-⟩|⟨g0,cs,ha,hg0,hr,hc,Ql,ht,hn'⟩
    ·rw [hs];exact aD _
    ·exact Ql
   obtain ⟨p1,p2⟩:=E9 ho' (i:=m) ab;refine ⟨by omega,by omega,p1,λdu Zc=> ?_⟩;obtain ⟨q1,q2⟩:=p2 du Zc;refine ⟨by omega,by omega,⟨s.a,m,s.c⟩,?_,?_,qv.trans q2,rfl⟩
   ·rw [eo];rfl
   ·rw [h5,hj,ja] at q1;exact q1
def MO{w:World}{s:Sl}{l:List It}{n:Nat}(ho:aF 0 cQ 4 w s (l.map gj))(hi:n<=l.length)(hl:l.length<=5000):
  ah 241 #[s,aa,(n:Int)] w λe w'=>∃s':Sl,e=s'/\aF 0 cQ 4 w' s' ((l.drop n).map gj)/\Mod (λb=>s.bj=some b) w w'/\s'.bj=s.bj:=by
 have hn:s.n=l.length:=by rw [(ho.rd aG).n,aN]
 have Ql:s.n<=s.c:=by
  rcases ho.form aG with ⟨hs,-⟩|⟨g0,cs,ha,hg0,hr,hc,Ql,ht,hn'⟩
  ·rw [hs];exact aD _
  ·exact Ql
 apply xk.vc;refine ⟨by omega,by omega,by omega,by omega,by omega,by omega,Br.mk (λh=> ?_) (λh=> ?_)⟩
 ·have:n=0:=by
   have:(0:Int)=n:=by simpa using h
   omega
  subst this;exact ⟨s,rfl,ho,Mod.refl _ _,rfl⟩
 ·have B6:0<n:=by
   have:(0:Int)≠n:=by simpa using h
   omega
  rcases ho.form aG with ⟨hs,DS⟩|⟨g0,cs,ha,hg0,hr,hc,Ql,ht,hn'⟩
  ·have:l=[]:=by simpa using DS
   subst this;simp at hi;omega
  have iQ:s.bj=some g0:=by unfold Sl.bj;rw [ha];rfl
  have oJ:((l.drop n).map gj).flatten.length=(s.n-n)*4:=by rw [bK (fN _)];simp;omega
  have Y2:s.n*4<=cs.length:=gD (wC _ Ql) hc;have hr':=hr.ext (Ext.dr w);simp only [eC,Nat.sub_zero,eo,Int.toNat_zero];rw [ha];refine ⟨by omega,by omega,by omega,by omega,((l.drop n).map gj).flatten,?_,?_,?_⟩
  ·exact hr'.ajc (by intro e;rw [Cy ab];rfl) (Fc ht hn n)
  ·refine ⟨λ_=> ?_,λh=> ?_,λh=> ?_,oJ,gk (kX _)⟩
   ·show Wr _ (ae (aB g0) (0*4)) _;rw [bo];exact hr'.wr (by rw [oJ];omega)
   ·simp only at h;omega
   ·simp only at h;omega
  ·intro s1 w2 bu
   cases bu with
   |Cp hg=>simp only at hg;omega
   |fits hf=>
    dsimp only;have e0:ae (some (⟨g0,0,none⟩:Addr)) (0*4)=aB g0:=by rw [bo]
    rw [e0];have ou:=hr'.aK (o:=0) (vs:=((l.drop n).map gj).flatten) (by rw [oJ];omega) (gk (kX _));have qE:Row (Go.Vc.aK w.drew (aB g0) ((l.drop n).map gj).flatten) g0 (aW cs 0 ((l.drop n).map gj).flatten) cQ:=by rw [ou];exact hr'.set _
    have Md:Mod (λi=>i=g0) w (Go.Vc.aK w.drew (aB g0) ((l.drop n).map gj).flatten):=by rw [ou];exact (Mod.aH (Ext.dr w)).trans ⟨rfl,rfl,rfl,by rw [setRow_size];exact aD _,λi _ hn=>setRow_other _ _ _ _ hn⟩
    generalize Go.Vc.aK w.drew (aB g0) ((l.drop n).map gj).flatten=w2 at qE Md;have hz:0+(s.n-n)=s.n-n:=by omega
    rw [hz];have vb:aF 0 cQ 4 w2 ⟨aB g0,s.n,s.c⟩ ((l.drop n++l.drop (l.length-n)).map gj):=by refine aF.jG (iI _) qE (by rw [Go.Vc.dB];exact hc) Ql ?_ (fN _);rw [dw _ _ _ (by rw [oJ];omega),bX,Cz,CA,aaA];rw [List.take_append,fz (by rw [oJ];omega),oJ,eD,<-Jg l (l.length-n),<-ht];congr 1;rw [List.drop_take,hn]
    obtain ⟨p1,p2⟩:=E9 vb (i:=s.n-n) (by simp;omega);have hnn:((s.n:Nat):Int).toNat-(((s.n-n:Nat):Nat):Int).toNat=s.n-(s.n-n):=by omega
    refine ⟨by omega,by omega,by omega,by omega,p1,λw3 e3=> ?_⟩;obtain ⟨q1,q2⟩:=p2 w3 e3;refine ⟨⟨aB g0,s.n-n,s.c⟩,rfl,?_,?_,iQ.symm⟩
    ·rw [Fa (by simp;omega)] at q1;exact q1
    ·refine (Md.mono λb _ hb=>by rw [iQ,hb]).trans (q2.mono λb _ hb=> ?_);have:g0=b:=by simpa [Sl.bj] using hb
     rw [iQ,this]
def jg(g m:Nat)(s:Sl):Nat->Prop:=λi=>i=g\/i=m\/s.bj=some i
abbrev BJ(q:QS)(s:Sl)(m:Nat):LV:=[.int .i64 q.room,.int .i64 q.lost,.slice s.a s.n s.c,.map (some m)]
def qh(kvs:List (Value × Value))(l:List It):Prop:=(∀c t,(cv c,tv t) ∈ kvs ↔(t,c) ∈ l)/\∀e ∈ kvs,∃c t,e=(cv c,tv t)
structure wO(w:World)(g m:Nat)(s:Sl)(q:QS):Prop where
 row:Row w g (BJ q s m) kq
 own:aF 0 cQ 4 w s (q.l.map gj)
 map:∃kvs,cG GC w (some m) kvs/\qh kvs q.l
def wO.dR{w:World}{g m:Nat}{s:Sl}{q:QS}(h:wO w g m s q){b:Nat}{cs:LV}{E:TypeId}(hb:Row w b cs E)(h1:E≠kq)(h2:E≠cQ):¬jg g m s b:=by
 rintro (rfl|rfl|e)
 ·exact hb.ne h.row h1 rfl
 ·obtain ⟨kvs,hm,-⟩:=h.map;exact hb.jJ hm rfl
 ·obtain ⟨cs',hr⟩:=bh h.own aG e;exact hb.ne hr h2 rfl
def wO.abK{w:World}{g m:Nat}{s:Sl}{q:QS}(h:wO w g m s q){B E k:Nat}{s':Sl}{rows:List (LV)}(ho:aF B E k w s' rows)(hk:0<k)(h1:E≠kq)(h2:E≠cQ):∀b,s'.bj=some b->¬jg g m s b:=λb hb=>by
 obtain ⟨cs,hr⟩:=bh ho hk hb
 exact h.dR hr h1 h2
def wO.lt{w:World}{g m:Nat}{s:Sl}{q:QS}(h:wO w g m s q):∀i,jg g m s i->i<w.heap.size:=by
 rintro i (rfl|rfl|e)
 ·exact h.row.lt
 ·obtain ⟨kvs,hm,-⟩:=h.map;exact hm.lt
 ·exact (h.own.own.lt e).2
def wO.dc{w w':World}{g m:Nat}{s:Sl}{q:QS}(h:wO w g m s q){F:Nat->Prop}(hm:Mod F w w')(hn:∀i,jg g m s i->¬F i):wO w' g m s q:=by obtain ⟨kvs,h1,h2⟩:=h.map;exact ⟨hm.row h.row (hn g (.inl rfl)),hm.iC h.own λb hb=>hn b (.inr (.inr hb)),kvs,hm.map h1 (hn m (.inr (.inl rfl))),h2⟩
def wO.ext{w w':World}{g m:Nat}{s:Sl}{q:QS}(h:wO w g m s q)(x:Ext w w'):wO w' g m s q:=
 h.dc (F:=λ_=>False) ⟨x.os,x.tape,x.output,x.size,λi hi _=>x.heap hi⟩ λ_ _ hf=>hf
def wO.xS{w:World}{g m:Nat}{s:Sl}{q:QS}(h:wO w g m s q):g≠m:=by obtain ⟨kvs,hm,-⟩:=h.map;exact h.row.jJ hm
def wO.BK{w:World}{g m:Nat}{s:Sl}{q:QS}(h:wO w g m s q):s.bj≠some m:=λe=>by
 obtain ⟨kvs,hm,-⟩:=h.map
 obtain ⟨cs,hr⟩:=bh h.own aG e
 exact hr.jJ hm rfl
def wO.Lm{w:World}{g m:Nat}{s:Sl}{q:QS}(h:wO w g m s q):s.bj≠some g:=λe=>by
 obtain ⟨cs,hr⟩:=bh h.own aG e
 exact hr.ne h.row aG rfl
def qh.look{kvs:List (Value × Value)}{l:List It}(h:qh kvs l)(hn:(l.map (·.2)).Nodup)(c:Cl):H5 kvs (cv c) (tv 0) (tv ((pq l c).getD 0)) (pq l c).isSome:=by
 cases hq:pq l c with
 |some t=>exact .inl ⟨rfl,(h.1 c t).2 (Gj hq)⟩
 |none=>
  refine .inr ⟨rfl,rfl,λe he hk=> ?_⟩;obtain ⟨c',t,rfl⟩:=h.2 e he;exact sB hq (t,c') ((h.1 _ _).1 he) (Gi hk)
open Classical in
def qh.del{kvs:List (Value × Value)}{l:List It}(h:qh kvs l)(c:Cl):qh (Gu kvs (cv c)) (iu l c):=by
 refine ⟨λc' t=> ?_,λe he=>h.2 e (kA.1 he).1⟩;unfold Gu iu;rw [kA,kA,h.1];refine and_congr_right λ_=> ?_
 rw [bne_iff_ne];refine decide_eq_true_iff.trans ?_;exact not_congr ⟨λe=>Gi e,λe=>by rw [show c'=c from e]⟩
def qh.ins{kvs:List (Value × Value)}{l:List It}(h:qh kvs l){x:It}(hx:∀y ∈ l,y.2≠x.2):qh (xG kvs (cv x.2) (tv x.1)) (xR l x):=by
 unfold xG;rw [if_neg]
 ·refine ⟨λc t=> ?_,λe he=> ?_⟩
  ·rw [c5,h.1,Gk,gU];constructor
   ·rintro (h1|h1)
    ·exact .inr h1
    ·obtain ⟨e1,e2⟩:=Prod.mk.inj h1;have:=Gi e1;have h2:t=x.1:=by unfold tv at e2;injection e2
     left;rw [this,h2]
   ·rintro (h1|h1)
    ·right;rw [<-h1]
    ·exact .inl h1
  ·rcases c5.1 he with he|he
   ·exact h.2 e he
   ·rw [gU] at he;exact ⟨_,_,he⟩
 ·rintro ⟨e,he,hk⟩;obtain ⟨c',t,rfl⟩:=h.2 e he;exact hx (t,c') ((h.1 _ _).1 he) (Gi hk)
def qh.perm{kvs:List (Value × Value)}{l l':List It}(h:qh kvs l)(hl:∀x,x ∈ l ↔ x ∈ l'):qh kvs l':=⟨λc t=>(h.1 c t).trans (hl _),h.2⟩
def Ga(room:Int)(w:World):ah 97 #[room] w λe w'=>∃g m,e=Value.pointer (aB g)/\wO w' g m ⟨none,0,0⟩ ⟨min (max room 1) 4096,0,[]⟩/\Ext w w'/\w.heap.size<=g/\w.heap.size<=m:=by
 apply XJ.vc;intro w0 e0 w1 e1;have hm:cG GC w0 (some w.heap.size) []:=by rw [e0];exact cG.new
 have x1:=aT e1;refine ⟨w0.heap.size,w.heap.size,rfl,⟨?_,aF.nil,[],?_,by simp [qh]⟩,(aT e0).tr x1,?_,aD _⟩
 ·have:(min (max room 1) 4096)=(if 4096<(if 1>room then 1 else room) then 4096 else (if 1>room then 1 else room)):=by split<;>split<;>omega
  rw [e1,this];exact Row.new w0 [_,_,_,_] _
 ·exact hm.same (x1.heap hm.lt)
 ·rw [e0];simp
def Eu{w:World}{g m:Nat}{s:Sl}{q:QS}(h:wO w g m s q)(hq:Lk q)(c:Cl):ah 262 #[g,cv c] w λe w'=>e=Value.tuple #[.int .i64 ((pq q.l c).getD 0),.bool (pq q.l c).isSome]/\Ext w w':=by apply Gv.vc;intro w0 e0;have x0:Ext w w0.drew:=(Ext.cu w|>.bg e0).drew;have h0:=h.ext x0;obtain ⟨kvs,hm,ht⟩:=h0.map;exact ⟨some m,h0.row.at 3 rfl,GC,kvs,zZ,hm,⟨c,rfl⟩,_,_,ht.look hq.nodup c,rfl,x0⟩
def jg.uK{g m:Nat}{s s':Sl}{w w':World}(hm:Mod (jg g m s) w w')(hs:∀b,s'.bj=some b->s.bj=some b\/w.heap.size<=b):aO (jg g m s) (jg g m s') w w':=
 ⟨hm,λi hi=>by
  rcases hi with h|h|h
  ·exact .inl (.inl h)
  ·exact .inl (.inr (.inl h))
  ·rcases hs i h with h|h
   ·exact .inl (.inr (.inr h))
   ·exact .inr h⟩
def JD{w:World}{g m:Nat}{s:Sl}{q:QS}(h:wO w g m s q)(hsort:q.l.Pairwise λa b=>a.1<=b.1)(hl:q.l.length<=4998){x:It}(hx:∀y ∈ q.l,y.2≠x.2):
  ah 264 #[g,.agg (gj x).toArray] w λe w'=>e=ug/\∃s',wO w' g m s' {q with l:=xR q.l x}/\aO (jg g m s) (jg g m s') w w':=by
 apply BI.vc;intro w0 e0;have x0:=aT e0;have IQ:=eN e0;have h0:=h.ext (x0.drew);refine ⟨s,h0.row.at 2 rfl,?_⟩;refine (abv x (h0.own.rd aG) hsort ab).mono ?_;rintro e w2 ⟨⟨b,rfl⟩,x2⟩;refine ⟨_,b,rfl,x2.heap (show w.heap.size<w0 by omega),?_⟩;have h2:=(h0.ext x2).ext (Ext.dr _);refine ⟨s,h2.row.at 2 rfl,?_⟩;intro w6 e6;have x6:=aT e6;have h6:=h2.ext x6;have dq:Row w6 w2.drew.heap.size (gj x) cQ:=by rw [e6];exact Row.new _ _ _
 have hz2:=x2.size;have Y4:w.heap.size<w2.drew.heap.size:=kB (show w.heap.size<w0 by omega) hz2;have hk:=(List.takeWhile_sublist (λy:It=>decide (y.1<=x.1)) (l:=q.l)).length_le;have Q0:s.bj≠some w2.drew.heap.size:=λe=>by have:=h2.lt _ (.inr (.inr e));omega
 refine (Om h6.own dq hk ab Q0).mono ?_;rintro e w7 ⟨s8,rfl,yM,hm8,hs8⟩;have auZ:s.bj≠some w.heap.size:=λe=>by have:=h.lt _ (.inr (.inr e));omega
 have x06:Ext w w6:=((x0.drew).tr x2).tr ((Ext.dr _).tr x6);refine ⟨s8,rfl,hm8.same _ (by have:=x6.size;omega) auZ,?_⟩;have hr7:Row w7 g (BJ q s m) kq:=hm8.row h6.row h6.Lm;obtain ⟨p1,p2⟩:=hr7.jm (j:=2) (v:=.slice s8.a s8.n s8.c) cj rfl;refine ⟨⟨rfl,p1⟩,?_,?_⟩
 ·rw [de];intro e;have:=h.row.lt;have:g=w.heap.size:=by simpa [bt] using e
  omega
 intro w9 e9;obtain ⟨q1,q2⟩:=p2 w9 e9;have x9:=Ext.dr w9;have hr9:=q1.ext x9;refine ⟨some m,hr9.at 3 rfl,?_⟩;obtain ⟨kvs,aea,ht⟩:=h6.map;have hmap9:cG GC w9.drew (some m) kvs:=(Mod.aH (F:=λ_=>False) x9).map (q2.map (hm8.map aea h6.BK) (Ne.symm h.xS)) cj;refine ⟨GC,kvs,zZ,rfl,hmap9,⟨x.2,rfl⟩,?_⟩;intro bG gR hmap13;have alq:=Mod.sm gR;refine ⟨rfl,s8,⟨?_,?_,_,hmap13,ht.ins hx⟩,jg.uK ?_ ?_⟩
 ·exact alq.row hr9 h.xS
 ·have he:=afO q.l x;rw [he] at yM;have hrow8:=λb hb=>bh yM aG (b:=b) hb
  refine alq.iC ((q2.iC yM λb hb hf=> ?_).ext x9) λb hb hf=> ?_
  ·obtain ⟨cs,hr⟩:=hrow8 b hb;exact hr.ne hr7 aG hf
  ·obtain ⟨cs,hr⟩:=hrow8 b hb;exact hr.jJ (hm8.map aea h6.BK) hf
 ·refine ((((Mod.aH x06).trans (hm8.mono λb _ hb=> .inr (.inr hb))).trans (q2.mono λb _ hb=> .inl hb)).trans (Mod.aH x9)).trans (alq.mono λb _ hb=> .inr (.inl hb))
 ·intro b hb;rcases hs8 b hb with h1|h1
  ·exact .inl h1
  ·exact .inr (gD x06.size h1)
def Xk{w:World}{g m:Nat}{s:Sl}{q:QS}(h:wO w g m s q)(hq:Lk q)(c:Cl):
  ah 263 #[g,cv c] w λe w'=>e=Value.bool (pq q.l c).isSome/\∃s',wO w' g m s' {q with l:=iu q.l c}/\aO (jg g m s) (jg g m s') w w':=by
 apply BL.vc;intro w0 e0;have x0:=aT e0;have hbox0:Row w0 w (dO c) y9:=by rw [e0];exact Row.new _ _ _
 have h0:=h.ext x0.drew;obtain ⟨kvs,hm,ht⟩:=h0.map;refine ⟨some m,h0.row.at 3 rfl,GC,kvs,zZ,hm,⟨c,rfl⟩,_,_,ht.look hq.nodup c,Br.mk (λhb=> ?_) (λhb=> ?_)⟩
 ·have hn:pq q.l c=none:=by simpa using hb
  refine ⟨by rw [hn];rfl,s,?_,aO.aH x0.drew⟩;have:iu q.l c=q.l:=by unfold iu;rw [ML];intro y hy;simpa using sB hn y hy
  rw [this];exact h0
 ·have hsome:(pq q.l c).isSome=true:=by simpa using hb
  have h1:=h0.ext (Ext.dr _);refine ⟨some m,h1.row.at 3 rfl,GC,kvs,zZ,rfl,(Mod.aH (F:=λ_=>False) (Ext.dr _)).map hm cj,⟨c,rfl⟩,?_⟩;intro w9 gR hmap9;have hm9:=Mod.sm gR;have hr9:Row w9 g (BJ q s m) kq:=hm9.row h1.row h.xS;refine ⟨s,hr9.at 2 rfl,?_⟩;have dD:=hq.len;have hroom:=hq.room;have hbox9:Row w9 w (dO c) y9:=hm9.row (hbox0.ext (Ext.dr _|>.tr (Ext.dr _))) (λe=>by have:w.heap.size=m:=e;have:=h.lt m (.inr (.inl rfl));omega);have ho9:aF 0 cQ 4 w9 s (q.l.map gj):=hm9.iC h1.own λb hb hf=>h1.BK (by rw [hb];exact congrArg some hf)
  refine (Dd ho9 hbox9 ab).mono ?_;rintro e bc ⟨kh,rfl,ahj,alr,alh⟩;have hsm:s.bj≠some m:=h.BK;have ape:Row bc g (BJ q s m) kq:=alr.row hr9 h.Lm;obtain ⟨p1,p2⟩:=ape.jm (j:=2) (v:=.slice kh.a kh.n kh.c) cj rfl;refine ⟨kh,rfl,⟨rfl,p1⟩,λbG DT=> ?_⟩;obtain ⟨q1,q2⟩:=p2 bG DT;refine ⟨by rw [hsome],kh,⟨q1,?_,_,q2.map (alr.map hmap9 hsm) (Ne.symm h.xS),ht.del c⟩,jg.uK ?_ ?_⟩
  ·refine q2.iC ahj λb hb hf=> ?_
   obtain ⟨cs,hr⟩:=bh ahj aG hb;exact hr.ne ape aG hf
  ·exact (((Mod.aH (x0.drew.drew)).trans (hm9.mono λb _ hb=> .inr (.inl hb))).trans (alr.mono λb _ hb=> .inr (.inr hb))).trans (q2.mono λb _ hb=> .inl hb)
  ·intro b hb;exact .inl (alh▸hb)
def Oj{w:World}{g m:Nat}{s:Sl}{q:QS}(h:wO w g m s q)(hq:Lk q)(hl:0<=q.lost/\q.lost<=1000000)(c:Cl)(t:Int):
  ah 211 #[g,cv c,t] w λe w'=>e=Value.bool (pM q c t).2/\∃s',wO w' g m s' (pM q c t).1/\aO (jg g m s) (jg g m s') w w':=by
 apply DJ.vc;intro w0 e0;have x0:=aT e0;have IQ:=eN e0;have h0:=h.ext x0;have hn:s.n=q.l.length:=by rw [(h.own.rd aG).n,aN]
 have dD:=hq.len;have hroom:=hq.room;have hbg:g<w:=h.row.lt;have hbf:∀{s':Sl} {w1 w':World},w.heap.size<w1->aO (jg g m s) (jg g m s') w1 w'->w'.heap[w.heap.size]? =w1.heap[w.heap.size]? :=λiS ht=>
  ht.mod.same _ iS λhf=>by have:=h.lt _ hf;omega
 refine (Eu h0 hq c).mono ?_;rintro e w1 ⟨rfl,x1⟩;have h1:=h0.ext x1;have kG:=x0.tr x1;have hz1:w.heap.size<w1:=by have:=x1.size;omega
 refine ⟨_,_,rfl,x1.heap (show w.heap.size<w0 by omega),Br.mk (λhb=> ?_) (λhb=> ?_)⟩
 ·obtain ⟨was,hw⟩:=oP.1 hb;have hg:(pq q.l c).getD 0=was:=by rw [hw];rfl
  rw [hg];refine Br.mk (λhc=> ?_) (λhc=>Br.mk (λ_=> ?_) (λhn=>by rw [hb] at hn;cases hn))
  ·replace hc:=nG hc;have e:pM q c t=(q,false):=by unfold pM;rw [hw];simp [hc]
   rw [e];exact ⟨rfl,s,h1,aO.aH kG⟩
  ·replace hc:=nT hc;have e:pM q c t=({q with l:=xR (iu q.l c) (t,c)},true):=by unfold pM;rw [hw];simp [hc]
   rw [e];refine (Xk h1 hq c).mono ?_;rintro e w4 ⟨rfl,s4,h4,t4⟩;refine ⟨_,rfl,hbf hz1 t4,?_⟩;have hq4:=hq.drop c;have hl4:=hq4.len;have hz4:=t4.mod.size;refine (JD (x:=(t,c)) h4 hq4.sorted (by simp only at hl4 ⊢;omega) (λy hy=>by have:=(kA.1 hy).2;simpa using this)).mono ?_;rintro e w6 ⟨rfl,s6,h6,t6⟩;refine ⟨rfl,t6.mod.same _ ab (λhf=> ?_),rfl,s6,h6,((aO.aH kG).trans t4).trans t6⟩;rcases t4.sub _ hf with hf|hf
   ·have:=h.lt _ hf;omega
   ·omega
 ·refine Br.mk (λhb'=>by rw [hb] at hb';cases hb') (λ_=> ?_);have hw:pq q.l c=none:=by simpa using hb
  have h1d:=h1.ext (Ext.dr w1);refine ⟨s,h1d.row.at 2 rfl,q.room,h1d.row.at 0 rfl,?_⟩;rw [hn];apply Br.mk<;>intro hc
  ·have hc':((q.l.length:Nat):Int)=q.room:=by simpa using hc
   have e:pM q c t=({q with lost:=q.lost+1},false):=by unfold pM;rw [hw];simp [hc']
   rw [e];obtain ⟨p1,p2⟩:=h1d.row.jm (j:=1) (v:=.int .i64 (ak (q.lost+1))) cj rfl;refine ⟨q.lost,h1d.row.at 1 rfl,⟨rfl,p1⟩,?_,λbN AY=> ?_⟩
   ·rw [de];intro e;have:g=w.heap.size:=by simpa [bt] using e
    omega
   ·obtain ⟨q1,q2⟩:=p2 bN AY;rw [wI] at q1;obtain ⟨kvs,hm,ht⟩:=h1d.map;refine ⟨rfl,s,⟨q1,q2.iC h1d.own λb hb hf=>h.Lm (by rw [hb];exact congrArg some hf),kvs,q2.map hm (Ne.symm h.xS),ht⟩,(aO.aH kG.drew).trans (jg.uK (q2.mono λb _ hb=> .inl hb) λb hb=> .inl hb)⟩
  ·have hc':((q.l.length:Nat):Int)≠q.room:=by simpa using hc
   have e:pM q c t=({q with l:=xR q.l (t,c)},true):=by
    unfold pM;rw [hw];have:¬(q.l.length:Int)>=q.room:=by omega
    simp only;rw [if_neg this]
   rw [e];refine (JD (x:=(t,c)) h1d hq.sorted ab (sB hw)).mono ?_;rintro e w6 ⟨rfl,s6,h6,t6⟩;exact ⟨rfl,hbf hz1 t6,rfl,s6,h6,(aO.aH kG.drew).trans t6⟩
def SS{w:World}{s:Sl}{l:List It}(ho:aF 0 cQ 4 w s (l.map gj))(hl:l.length<=5000):
  ah 191 #[s] w λe w'=>∃s':Sl,e=s'/\aF w cQ 4 w' s' (l.map gj)/\Ext w w':=by
 apply Ae.vc;have hn:s.n=l.length:=by rw [(ho.rd aG).n,aN]
 apply Br.mk<;>intro h
 ·rcases ho.form aG with ⟨hs,DS⟩|⟨g0,cs,ha,-⟩
  ·exact ⟨⟨none,0,0⟩,rfl,by rw [DS];exact aF.nil,Ext.cu _⟩
  ·rw [ha] at h;cases h
 ·intro w0 e0;have x0:=aT e0;have IQ:=eN e0;have hr0:Row w0 w [] cQ:=by rw [e0];exact Row.new _ _ _
  have vb:aF w cQ 4 w0 ⟨aB w.heap.size,0,0⟩ []:=aF.jG (aD _) hr0 cj (aD _) rfl cj;obtain ⟨hp,hr⟩:=vb.HU (bytes:=32) (more:=l.map gj) x0.size (fN _) (kX _) (by simp;omega) (by simp;omega);rw [aN,<-hn] at hp hr;refine ⟨(l.map gj).flatten,((ho.ext x0).rd aG).flat aG,hp,λs2 w3 bu=> ?_⟩;obtain ⟨h1,h2,h3,h4,h5⟩:=hr s2 w3 bu;refine ⟨qb bu (by rw [bK (fN _),aN,hn]) ab,s2,rfl,h1,x0.trans h3⟩
def abp{w:World}{g m:Nat}{s:Sl}{q:QS}(h:wO w g m s q)(hq:Lk q):ah 138 #[g] w λe w'=>∃s':Sl,e=s'/\aF w cQ 4 w' s' (q.l.map gj)/\Ext w w':=by apply DD.vc;have:=hq.len;have:=hq.room;refine ⟨s,h.row.at 2 rfl,(SS h.own ab).mono ?_⟩;rintro e w1 ⟨s',rfl,h1,x1⟩;exact ⟨s',rfl,s',rfl,h1,x1⟩
def late{F G M:Prop}(main:(F->G)->M)(fin:F->G):M:=main fin
def abC{w:World}{g m:Nat}{s:Sl}{q:QS}(h:wO w g m s q)(hq:Lk q)(now many:Int):
  ah 172 #[g,now,many] w λe w'=>∃so:Sl,e=Value.slice so.a so.n so.c/\∃s',aF w y9 3 w' so ((Ll q now many).2.map dO)/\wO w' g m s' (Ll q now many).1/\aO (jg g m s) (jg g m s') w w':=by
 have hn:s.n=q.l.length:=by rw [(h.own.rd aG).n,aN]
 have dD:=hq.len;have hroom:=hq.room;have Zb:s.n<=s.c:=by
  rcases h.own.form aG with ⟨hs,-⟩|⟨g0,cs,ha,hg0,hr,hc,Ql,-⟩
  ·rw [hs];exact aD _
  ·exact Ql
 have hql:=Xp q.l now many;apply DE.vc;refine ⟨λn x wr=>w=wr/\∃k:Nat,x=k/\k+n=iG q.l now many,⟨iG q.l now many,rfl,0,rfl,by omega⟩,?_⟩;rintro n0 us x wr ⟨rfl,k,rfl,hk⟩;have QM:k<=q.l.length:=by omega
 apply late (F:=k=iG q.l now many)
 ·intro fin;refine ⟨s,h.row.at 2 rfl,Br.mk (λhc=> ?_) (λhc=> ?_)⟩
  ·replace hc:=nG hc;have fL:q.l[k]? =some (q.l[k]'ab):=dv ab;have HK:=Xo hq now many fL;generalize q.l[k]'ab=y at fL HK;apply Br.mk<;>intro oK
   ·replace oK:=nG oK;have jj:=h.own.rd aG;refine ⟨s,h.row.at 2 rfl,⟨jj.isSome aG (i:=k) (by simp;omega),by omega,by omega⟩,?_⟩;have hsm:(ae s.a ((k:Int).toNat*4)).isSome=true:=by rw [gZ];exact jj.isSome aG (i:=k) (by simp;omega)
    refine bD.2 ⟨jl.2 hsm,y.1,?_,Br.mk (λVN=> ?_) (λVN=> ?_)⟩
    ·exact jj.at (i:=k) (r:=gj y) (by rw [aV,fL];rfl) rfl
    ·replace VN:=nG VN;have:=HK.2 ⟨oK,VN⟩;have hw:=nY (j:=k);exact ⟨n0-1,by omega,rfl,k+1,hw,by omega⟩
    ·replace VN:=nT VN;have hkq:k=iG q.l now many:=by
      have:¬k<iG q.l now many:=λiS=>VN (HK.1 iS).2
      omega
     exact fin hkq
   ·replace oK:=nT oK;have hkq:k=iG q.l now many:=by
     have:¬k<iG q.l now many:=λiS=>oK (HK.1 iS).1
     omega
    exact fin hkq
  ·replace hc:=nT hc;have hkq:k=iG q.l now many:=by omega
   exact fin hkq
 ·intro hkq;refine ⟨s,h.row.at 2 rfl,by omega,by omega,by omega,by omega,λn x so wr=>∃j:Nat,x=j/\j+n=k/\Go.Vc.Mod (λi=>i=m) w wr/\aF w y9 3 wr so ((q.l.take j).map λy=>dO y.2)/\∃kvs,cG GC wr (some m) kvs/\qh kvs (q.l.drop j),⟨k,0,rfl,by omega,Go.Vc.Mod.refl _ _,aF.nil,by simpa using h.map⟩,?_⟩;rintro n us x so wr ⟨j,rfl,hj,qv,wm,kvs,aea,wW⟩;have dq:Row wr g (BJ q s m) kq:=qv.row h.row h.xS;have vb:aF 0 cQ 4 wr s (q.l.map gj):=qv.iC h.own λb hb hf=>h.BK (by rw [hb];exact congrArg some hf)
  apply Br.mk<;>intro hc
  ·replace hc:=nG hc;have hjl:j<q.l.length:=by omega
   have fL:q.l[j]? =some (q.l[j]'hjl):=dv hjl;generalize q.l[j]'hjl=y at fL;have jj:=vb.rd aG;refine ⟨⟨?_,by omega,by omega⟩,y.1,y.2.1,y.2.2.1,y.2.2.2,?_,?_⟩
   ·have:=jj.isSome aG (i:=j) (by simp;omega);unfold aJ;split<;>simpa using this
   ·rw [uw];exact RdK.item jj fL
   intro eU HE ey HC eR VK;have dh:=aT HE;have dJ:Ext wr ey:=dh.ag HC (aD _);have dA:Ext wr eR:=dJ.bg VK;have aCm:ey.heap.size=wr.heap.size+1:=by rw [HC,setRow_size,HE];simp
   have aCn:=eN VK;have hon:so.n=j:=by rw [(wm.rd aG).n,aN,dI];omega
   have hzw:=qv.size;obtain ⟨hp,hr⟩:=(wm.ext dA).append (bytes:=24) (news:=dO y.2) ab rfl (by intro u hu;simp at hu;rcases hu with rfl|rfl|rfl<;>rfl) ab ab;refine ⟨hp,λtR cV bu=> ?_⟩;obtain ⟨h1,h2,h3,h4,h5⟩:=hr tR cV bu;have Q0:∀b,so.bj=some b->b<wr.heap.size:=λb hb=>(wm.own.lt hb).2
   have avk:Go.Vc.Mod (λi=>so.bj=some i) eR cV:=⟨h3.os,h3.tape,h3.output,h3.size,λi hi hn=>h4 i hn hi⟩;have hsm:so.bj≠some m:=λe=>by have h1:=(wm.own.lt e).1;have h2:=h.lt m (.inr (.inl rfl));omega
   refine ⟨h4 _ (λe=>by have:=Q0 _ e;omega) ab,h4 _ (λe=>by have:=Q0 _ e;omega) ab,?_⟩;have Md:Go.Vc.Mod (λi=>so.bj=some i) wr cV.drew:=((Go.Vc.Mod.aH dA).trans avk).trans (Go.Vc.Mod.aH (Ext.dr _));have hsg:so.bj≠some g:=λe=>by have h1:=(wm.own.lt e).1;have h2:=h.lt g (.inl rfl);omega
   refine ⟨some m,(Md.row dq hsg).at 3 rfl,GC,kvs,zZ,rfl,Md.map aea hsm,⟨y.2,rfl⟩,?_⟩;intro dX gR hmap29;have apu:=Go.Vc.Mod.sm gR;have hwj:=nY (j:=j);rw [hwj];refine ⟨n-1,by omega,j+1,rfl,by omega,(qv.tr Md (λi hi=> .inr (wm.own.lt hi).1)).trans apu,?_,_,hmap29,?_⟩
   ·have e:(q.l.take (j+1)).map (λy=>dO y.2)=(q.l.take j).map (λy=>dO y.2)++ [dO y.2]:=by rw [dP,fL,bX];rfl
    rw [e];refine apu.iC (h1.ext (Ext.dr _)) λb hb hf=> ?_
    have hb':tR.bj=some m:=by rw [hb];exact congrArg some hf
    have:=h.lt m (.inr (.inl rfl));rcases h5 with h5|h5
    ·exact hsm (h5▸hb')
    ·rw [h5] at hb';have:eR.heap.size=m:=by simpa using hb'
     omega
   ·have hd:=wW.del y.2;refine hd.perm λz=> ?_
    have hcons:q.l.drop j=y::q.l.drop (j+1):=by obtain ⟨iS,he⟩:=cK.1 fL;rw [zM iS,he]
    have hnd:((y::q.l.drop (j+1)).map (·.2)).Nodup:=by rw [<-hcons];exact ((List.drop_sublist j q.l).map _).nodup hq.nodup
    rw [hcons];unfold iu;rw [fT,oY] at hnd;constructor
    ·intro hz;obtain ⟨hz1,hz2⟩:=kA.1 hz;rcases cR.1 hz1 with rfl|hz1
     ·simp at hz2
     ·exact hz1
    ·intro hz;refine kA.2 ⟨CF _ hz,?_⟩;have:z.2≠y.2:=λe=>hnd.1 (e▸List.mem_map_of_mem hz)
     simpa using this
  ·replace hc:=nT hc;have hjk:j=k:=by omega
   subst hjk;refine ⟨s,dq.at 2 rfl,(MO vb QM ab).mono ?_⟩;rintro e gA ⟨vZ,rfl,ag4,ahp,avl⟩;have apv:Row gA g (BJ q s m) kq:=ahp.row dq h.Lm;obtain ⟨p1,p2⟩:=apv.jm (j:=2) (v:=.slice vZ.a vZ.n vZ.c) cj rfl;refine ⟨vZ,rfl,⟨rfl,p1⟩,λeP Zd=> ?_⟩;obtain ⟨q1,q2⟩:=p2 eP Zd;have hso:∀b,so.bj=some b->w.heap.size<=b:=λb hb=>(wm.own.lt hb).1
   refine ⟨so,rfl,vZ,?_,?_,?_⟩
   ·unfold Ll;rw [<-hkq,mS];refine q2.iC (ahp.iC wm λb hb hf=> ?_) λb hb hf=> ?_
    ·have:=hso b hb;have:=h.lt b (.inr (.inr hf));omega
    ·have:=hso b hb;have:=h.lt b (.inl hf);omega
   ·unfold Ll;rw [<-hkq];refine ⟨q1,q2.iC ag4 λb hb hf=> ?_,kvs,q2.map (ahp.map aea h.BK) (Ne.symm h.xS),wW⟩;obtain ⟨cs,hr⟩:=bh ag4 aG hb;exact hr.ne apv aG hf
   ·refine jg.uK (((qv.mono λb _ hb=> .inr (.inl hb)).trans (ahp.mono λb _ hb=> .inr (.inr hb))).trans (q2.mono λb _ hb=> .inl hb)) λb hb=> .inl (avl▸hb)
end Go.Proofs.YtkkkfkopcfdmaaaGreatDoor.Q
