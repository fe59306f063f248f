import Derived.Test.YtjcnjlaelhdjeaaGreatDoorH
import Derived.Test.YtjcnjlaelhdjeaaGreatDoorD
import Derived.Test.YtjcnjlaelhdjeaaGreatDoorG
set_option linter.all false
namespace Go.Proofs.YtjcnjlaelhdjeaaGreatDoor
open Go Go.Vc Go.RowKit Go.Proofs Tryz
set_option maxRecDepth 100000
set_option maxHeartbeats 8000000
variable{R:eWp}{w:World}{a0 a1 a2 a3 aM aI aP cO cR da gJ gC fB aG aH aS gg gj fq:Int}
def ain.vc(h:
 Aw w #[aM,aI,aP] 73 λw0=>
 Aw w0 #[ai,ai,ai] 73 λw1=>
 ab 266 #[.agg #[aM,aI,aP],.func (.func 353) #[] #[]] w1 (mg λx3 x4 x5 w2=>K2 w w0 w1 w2 (
 Sw w2 w0 #[x3,x4,x5] λw6=>
 R (tO #[x3,x4,x5]) w6))):ab 310 #[.agg #[aM,aI,aP]] w R:=
 cq bz func310 h
def ZL.vc(h:
 ab 257 #[a1] w (fw λx1 w0=>R x1 w0)):ab 353 #[a0,a1] w R:=
 cq bz func353 h
def aio.vc(h:
 Aw w #[aM,aI,aP] 73 λw0=>
 Aw w0 #[ai,ai,ai] 73 λw1=>
 ab 354 #[aM] w1.drew (Ri λx3 w2=>K2 w w0 w1.drew w2 (
 ah w2 (jM w 2) 0 [aP]/\ah w2 (jM w 1) 0 [aI]/\ab 354 #[aI] w2 (Ri λx5 w4=>K2 w w0 w2 w4 (
 ah w4 (jM w 2) 0 [aP]/\ab 354 #[aP] w4 (Ri λx7 w6=>K2 w w0 w4 w6 (
 Sw w6 w0 #[x3,x5,x7] λw8=>
 R (tO #[x3,x5,x7]) w8))))))):ab 311 #[.agg #[aM,aI,aP]] w R:=
 cq bz func311 h
def ZM.vc(h:(λA=>
 R (vI (if 1048576<A then 1048576 else A)) w) (if(-1048576)>a0 then(-1048576)else a0)):ab 354 #[a0] w R:=
 cq bz func354 h
def U1.vc(h:
 Aw w #[aM,aI] 341 λw0=>
 Aw w0 #[aG,aH] 341 λw1=>(λAa=>
 Br (aI==0)
 Aa
 (Br (aH==0)
 Aa
 (R (Ga (decide (((aC (aM*aH)):Int)<(aC (aG*aI))))) w1))) (R (Ga (decide (aI>0))) w1)):ab 315 #[.agg #[aM,aI],.agg #[aG,aH]] w R:=
 cq bz func315 h
def ZN.vc(h:(λA B C=>
 Aw w #[aM,aI,aP] 73 λw0=>
 Aw w0 #[aG,aH,aS] 73 λw1=>
 Aw w1 B 342 λw2=>(λAa=>
 Aw w2 B 342 λw3=>
 rP (λI4 n5=>aR C/\aR A/\I4 n5 (0) w3) λI4 n5 us6 x7 w8=>(λAb Ac=>
 Br (x7<3)
 (ab 210 #[.agg #[aM,aI,aP],x7] w8.drew (Ri λbS br=>K2 w w0 w8.drew br (
 ah br (aB w0) 0 A/\ab 210 #[.agg #[aG,aH,aS],x7] br (Ri λcJ bN=>K2 w w0 br bN (
 ab 355 #[bS] bN (Ri λdn cp=>K2 w w0 bN cp (
 (0:Int)<=x7/\x7<((3:Nat):Int)/\(true=true/\Wr cp Ab 2)/\bM Ab≠some w.heap.size/\bM Ab≠some w0.heap.size/\(Pw cp Ab [dn,(aC (0-cJ))] λbZ=>
 Br (cJ>0)
 (ab 355 #[bS] bZ (Ri λdc cP=>K2 w w0 bZ cP (
 (0:Int)<=x7/\x7<((3:Nat):Int)/\(true=true/\Wr cP Ab 2)/\bM Ab≠some w.heap.size/\bM Ab≠some w0.heap.size/\(Pw cP Ab [(aC (65536-dc)),cJ] λfm=>
 ∃n9,n9<n5/\aR C/\aR A/\I4 n9 Ac fm))))
 (∃n9,n9<n5/\aR C/\aR A/\I4 n9 Ac bZ)))))))))
 (C3 w8 Aa λfe fk fX iB jn gG=>
 Wt w8 ⟨w1,0,none⟩ 6/\Nb w1 w/\Nb w1 w0/\(Pw w8 (aB w1) [fe,fk,fX,iB,jn,gG] λkN=>
 C3 kN (aB w1) λjl rC kz tF oO mP=>
 R (tO #[jl,rC,kz,tF,oO,mP]) kN))) (ae Aa ((x7:Int).toNat*2)) ((aC (x7+1)))) (aB w2)) [aG,aH,aS] #[ai,ai,ai,ai,ai,ai] [aM,aI,aP]):ab 313 #[.agg #[aM,aI,aP],.agg #[aG,aH,aS]] w R:=
 cq (Mq 3 9) func313 h
def U2.vc(h:
 Aw w #[aM,aI,aP] 23 λw0=>
 Aw w0 #[aG,aH,aS] 23 λw1=>
 Aw w1 #[a2] 3 λw2=>
 ab 356 #[aM,aG,.pointer (aB w1)] w2 (Rb λb4 w3=>K2 w w0 w2 w3 (
 Br b4
 (ab 356 #[aI,aH,.pointer (aB w1)] w3 (Rb λb6 w5=>K2 w w0 w3 w5 (
 Br b6
 (ab 356 #[aP,aS,.pointer (aB w1)] w5 (Rb λb8 w7=>K2 w w0 w5 w7 (
 R b8 w7)))
 (R false w5))))
 (R false w3)))):ab 314 #[.agg #[aM,aI,aP],.agg #[aG,aH,aS],a2] w R:=
 cq bz func314 h
def M8.vc{c0:Addr}(h:
 jr w (some c0) λx0=>
 Br (decide (((aC (a0-a1)):Int)<=x0))
 (jr w (some c0) λx1=>
 R (Ga (decide (((aC (a1-a0)):Int)<=x1))) w)
 (R false w)):ab 356 #[a0,a1,c0] w R:=
 cq bz func356 h
def ZO.vc(h:
 ab 258 #[a0] w (ah0 λx1 b2 w0=>(λAa=>ab 258 #[a1] w0 (ah0 λx4 b5 w3=>Br (x4==0)
 (R (eP #[ai,(1:Int)]) w3)
 (aO (WN x4) (aO (WN x4) (ab 260 #[.int .u64 (fC (Int.tdiv Aa x4)),.bool (((Int.tmod Aa x4):Int) !=0),.bool (!(b2==b5))] w3.drew (fw λx7 w6=>R (eP #[x7,ai]) w6)))))) (fC (x1*2^(min (16:Int).toNat 64))))):ab 316 #[a0,a1] w R:=
 cq bz func316 h
def QI.vc{a0:Value}{c0:Addr}{c1:Addr}{c2:Addr}(h:(λA B=>
 gU w (some c0) λx0 x1 x2=>
 gU w (some c1) λx3 x4 x5=>
 ab 313 #[.agg #[x0,x1,x2],.agg #[x3,x4,x5]] w (amx λx7 x8 x9 bL bS cr w6=>(λAa=>Aw w6 B 342 λbw=>
 (Pt bw ⟨w6,0,none⟩ 6 [x7,x8,x9,bL,bS,cr] λcp=>
 gU cp (some c0) λdn dw dO=>
 ab 138 #[.agg #[dn,dw,dO]] cp (zK λdQ fe fk dA=>(λAb=>Aw dA B 184 λdh=>
 Sw dh dA #[dQ,fe,fk,ai,(-1:Int),ai] λjE=>(λAc=>
 Aw jE #[ai,ai,ai] 23 λie=>
 Sw ie jE #[dQ,fe,fk] λdL=>
 ∃Ys:Nat->Int->Int->Int->Int->Int->Int->wPp,
 (∃n27,aR Ab/\Ys n27 dQ fe fk (0) ((-1)) (0) dL)/\
 ∀(n27:Nat)(asg:Nat->Value)(kz tF oO mP gA jW:Int)(iD:World),Ys n27 kz tF oO mP gA jW iD->
 jr iD (some c2) λmO=>
 ab 314 #[.agg #[dQ,fe,fk],.agg #[kz,tF,oO],mO] iD (Rb λb39 tH=>Ac iD tH (
 Br b39
 (bu Tryz.prog a0 [.agg #[kz,tF,oO,mP,gA,jW]] tH (Rb λb41 nT=>Ac tH nT (
 Br (!b41)
 (R pz nT)
 (qx (λI42 n43=>aR [kz,tF,oO,mP,gA,jW]/\aR Ab/\I42 n43 (0) (0) nT) λI42 n43 aGF xm oq oE=>(λAd Ae Af Ag=>
 Br (xm<3)
 ((0:Int)<=xm/\xm<A/\lS oE.drew (ae Aa ((xm:Int).toNat*2)) λJp Ba=>
 (0:Int)<=oq/\oq<A/\lS oE.drew Ad λvp tG=>
 ab 315 #[.agg #[Jp,Ba],.agg #[vp,tG]] oE.drew (Rb λb54 w53=>Ac oE.drew w53 (
 Br b54
 (∃n48,n48<n43/\aR [kz,tF,oO,mP,gA,jW]/\aR Ab/\I42 n48 Ag xm w53)
 (∃n48,n48<n43/\aR [kz,tF,oO,mP,gA,jW]/\aR Ab/\I42 n48 Ag oq w53))))
 ((0:Int)<=oq/\oq<A/\jr oE (ae Ad 1) λvS=>
 Br (vS==0)
 (R pz oE)
 ((0:Int)<=oq/\oq<A/\jr oE.drew (ae Ad 0) λOY=>
 (0:Int)<=oq/\oq<A/\jr oE.drew (ae Ad 1) λH8=>
 ab 316 #[OY,H8] oE.drew (aip λIv qF vQ=>Ac oE.drew vQ (
 (0:Int)<=oq/\oq<A/\jr vQ (ae Ad 0) λKY=>
 (0:Int)<=oq/\oq<A/\(true=true/\Wr vQ (ae Ad 0) 1)/\bM (ae Ad 0)≠some dA.heap.size/\bM (ae Ad 0)≠some jE.heap.size/\(Pw vQ (ae Ad 0) [(aC (KY+65536))] λjU=>
 gU jU (some c1) λBo Lb Be=>
 ab 210 #[.agg #[Bo,Lb,Be],oq] jU (Ri λyB vR=>Ac jU vR (
 Br (yB>0)
 (ab 221 #[.agg #[kz,tF,oO]] vR (Qd λyD CJ Bf DB K0 O1 Lc O2 x77 x78 Yl Oy H9 Ev O0 TV x85 x86 E8=>Ac vR E8 (
 ((0:Int)<=Ae/\(Ae:Int)<((6:Nat):Int))/\∃(xl x88 x89:Int),(([yD,CJ,Bf,DB,K0,O1,Lc,O2,x77,x78,Yl,Oy,H9,Ev,O0,TV,x85,x86]:LV).drop ((Ae:Int).toNat*3)).take 3=[vI xl,vI x88,vI x89]/\
 Sw E8 dA #[xl,x88,x89,ai,(aC (Ae-1)),Iv] λrF=>
 ∃n36,n36<n27/\aR Ab/\Ys n36 xl x88 x89 (0) ((aC (Ae-1))) Iv rF)))
 (ab 221 #[.agg #[kz,tF,oO]] vR (Qd λTf Wi x94 Wj Wk La x98 Yr Bi pK Bg Ew Wl Ex Js Ey Tm ru w91=>Ac vR w91 (
 ((0:Int)<=Af/\(Af:Int)<((6:Nat):Int))/\∃(lJ yH lK:Int),(([Tf,Wi,x94,Wj,Wk,La,x98,Yr,Bi,pK,Bg,Ew,Wl,Ex,Js,Ey,Tm,ru]:LV).drop ((Af:Int).toNat*3)).take 3=[vI lJ,vI yH,vI lK]/\
 Sw w91 dA #[lJ,yH,lK,ai,(aC (Ae-0)),Iv] λWy=>
 ∃n36,n36<n27/\aR Ab/\Ys n36 lJ yH lK (0) ((aC (Ae-0))) Iv Wy))))))))))) (ae Aa ((oq:Int).toNat*2)) (aC ((aC (2*oq))+1)) (aC ((aC (2*oq))+0)) ((aC (xm+1)))))))
 (R pz tH)))) (K2 dA jE)) [dQ,fe,fk]))) (aB w6))) ((3:Nat):Int) #[ai,ai,ai,ai,ai,ai]):ab 312 #[a0,c0,c1,c2] w R:=
 cq ⟨[(7,⟨[(30,.int .i64),(8,.int .i64)],[],[]⟩),(3,⟨[],[(0,[.int .i64,.int .i64,.int .i64,.int .i64,.int .i64,.int .i64])],[]⟩)],[],[]⟩ func312 h
def ZP.vc(h:(λA=>
 Aw w #[aM,aI,aP] 73 λw0=>
 Aw w0 #[aG,aH,aS] 73 λw1=>(λAa Ab=>
 Aw w1 #[a2] 3 λw2=>
 ab 310 #[.agg #[aM,aI,aP]] w2.drew (mg λx4 x5 x6 w3=>Ab w2.drew w3 (
 ah w3 Aa 0 [a2]/\ah w3 (aB w0) 0 [aG,aH,aS]/\ab 311 #[.agg #[aG,aH,aS]] w3 (mg λx8 x9 bL w7=>Ab w3 w7 (
 ah w7 Aa 0 [a2]/\Sw w7 w #[x4,x5,x6] λbE=>
 ah bE Aa 0 [a2]/\Sw bE w0 #[x8,x9,bL] λbN=>
 ah bN Aa 0 [a2]/\Sw bN w1 #[vI (if 64<A then 64 else A)] λbw=>
 R (Value.func (.func 312) #[] #[w,.pointer (aB w0),.pointer Aa]) bw))))) (aB w1) (K3 w w0 w1)) (if 0>a2 then 0 else a2)):ab 252 #[.agg #[aM,aI,aP],.agg #[aG,aH,aS],a2] w R:=
 cq bz func252 h
def ad1.vc{a0:Value}(h:(λA B C D=>
 aO (kq a0) (
 Aw w #[a0] 95 λw0=>
 Aw w0 #[aG,aH,aS] 73 λw1=>
 Aw w1 #[gg,gj,fq] 73 λw2=>
 Aw w2 A 184 λw3=>(λAa=>
 Aw w3 #[false] 4 λw4=>
 ab 252 #[.agg #[aG,aH,aS],.agg #[gg,gj,fq],a3] w4 (Rv λv6 w5=>K5 w w0 w1 w2 w3 w4 w5 (
 ∃(xs7:List (LV))(Rd8 F9:Nat->Prop)(EH:Nat->(Nat->Prop)->Int->Int->Int->Int->Int->Int->Bool->wPp)(X11:Option Nat->(Nat->Prop)->Int->Int->Int->Int->Int->Int->Bool->wPp),
 (∀x∈xs7,∃(cr cJ cY dn dw dO:Int),x=[.agg #[vI cr,vI cJ,vI cY,vI dn,vI dw,vI dO]])/\
 (∀(n18:Nat)(F19:Nat->Prop)(fe fk fX iB jn gG:Int)(Wh:Bool)(gO iZ:World),EH n18 F19 fe fk fX iB jn gG Wh gO->Below w5 gO iZ->(∀i,F19 i->iZ.heap[i]? =gO.heap[i]?)->EH n18 F19 fe fk fX iB jn gG Wh iZ)/\
 (∀(n29:Option Nat)(F30:Nat->Prop)(oO mP gA jW py oP:Int)(b37:Bool)(tH lG:World),X11 n29 F30 oO mP gA jW py oP b37 tH->Below w5 tH lG->(∀i,F30 i->lG.heap[i]? =tH.heap[i]?)->X11 n29 F30 oO mP gA jW py oP b37 lG)/\
 (∀(n40:Nat)(F41:Nat->Prop)(yT vU qE xm oq A9:Int)(b48:Bool)(nB:World),EH n40 F41 yT vU qE xm oq A9 b48 nB->∀i,F41 i->i<nB.heap.size/\i≠w5.heap.size/\i≠w5.heap.size+1)/\
 (∀(n50:Option Nat)(F51:Nat->Prop)(tG lU CI vS OY H8:Int)(b58:Bool)(pH:World),X11 n50 F51 tG lU CI vS OY H8 b58 pH->∀i,F51 i->i<pH.heap.size/\i≠w5.heap.size/\i≠w5.heap.size+1)/\
 (∀i,Rd8 i->i<w5.heap.size/\¬F9 i/\i≠w.heap.size/\i≠w0.heap.size/\i≠w1.heap.size/\i≠w2.heap.size/\i≠w3.heap.size/\True)/\
 (∀lV:World,PW w5 w5 lV->Iter Tryz.prog (v6) lV Rd8 xs7/\aR [a0]/\aR C/\aR D/\EH 0 F9 (0) (0) (0) (0) (0) (0) false lV)/\
 (∀(n61:Nat)(F62:Nat->Prop)(aGH:Nat->Value)(Lb Be rG yB vT yD:Int)(b70:Bool)(Bf DB K0 O1 Lc O2:Int)(uc:World),xs7[n61]? =some [.agg #[vI Bf,vI DB,vI K0,vI O1,vI Lc,vI O2]]->EH n61 F62 Lb Be rG yB vT yD b70 uc->
 Aw uc A 184 λK9=>
 Sw K9 uc #[Bf,DB,K0,O1,Lc,O2] λH5=>
 Below uc uc H5/\∀uf:World,Rec (w5.heap.size+1) H5 uf->EH n61 F62 Lb Be rG yB vT yD b70 uf->
 bu Tryz.prog a0 [.agg #[Bf,DB,K0]] uf (Ri λEv wA=>K6 w w0 w1 w2 w3 uc uf wA (
 ab 253 #[Ev] wA (Rb λb84 w83=>K6 w w0 w1 w2 w3 uc wA w83 (
 Br (!b84)
 (Sw w83 uc #[Bf,DB,K0,Ev,Lc,O2] λw85=>
 Sw w85 w2 #[Bf,DB,K0,Ev,Lc,O2] λw86=>
 Sw w86 w3 #[true] λIx=>
 true=true/\∃F88:Nat->Prop,(aR [a0]/\aR C/\aR D/\X11 none F88 Bf DB K0 Ev Lc O2 true Ix)/\Step (λi=>(F62 i\/i∈Aa)\/uc.heap.size<=i) (λi=>F88 i\/i∈Aa) uf Ix)
 (∃F89:Nat->Prop,(aR [a0]/\aR C/\aR D/\EH (n61+1) F89 Lb Be rG yB vT yD b70 w83)/\Step (λi=>(F62 i\/i∈Aa)\/uc.heap.size<=i) (λi=>F89 i\/i∈Aa) uf w83))))))/\
 (∀(F90:Nat->Prop)(ayt:Nat->Value)(Tf Wi x94 Wj Wk La:Int)(b98:Bool)(Iu:World),EH xs7.length F90 Tf Wi x94 Wj Wk La b98 Iu->Iu.heap[w5.heap.size]? =some B->
 Sw Iu w2 A λsZ=>
 Sw sZ w3 #[false] λJt=>
 Jt.heap[w5.heap.size]? =some B/\∀apb:World,Rec w5 Jt apb->
 R (eP #[.agg A,false]) apb)/\
 (∀(aze:Nat->Prop)(aDs:Nat->Value)(Ex Js Ey Tm ru lJ:Int)(ate:Bool)(Bh:World),X11 none aze Ex Js Ey Tm ru lJ ate Bh->Bh.heap[w5.heap.size]? =some B->
 Bh.heap[w5.heap.size]? =some B/\∀Wy:World,Rec w5 Bh Wy->
 R (eP #[.agg #[Ex,Js,Ey,Tm,ru,lJ],ate]) Wy)))) ([w.heap.size,w0.heap.size,w1.heap.size,w2.heap.size,w3.heap.size]:List Nat))) #[ai,ai,ai,ai,ai,ai] (.deferred (some [])) [aG,aH,aS] [gg,gj,fq]):ab 191 #[a0,.agg #[aG,aH,aS],.agg #[gg,gj,fq],a3] w R:=
 cq ⟨[],[],[(3,⟨[],[(3,[.int .i64,.int .i64,.int .i64,.int .i64,.int .i64,.int .i64]),(4,[.bool])],[]⟩,[.agg [.int .i64,.int .i64,.int .i64,.int .i64,.int .i64,.int .i64]])]⟩ func191 h
def U3.vc(h:(λA=>
 Aw w #[aM,aI,aP,cO,cR,da] 184 λw0=>
 Aw w0 A 23 λw1=>
 Br (cR<0)
 (Sw w1 w0 A λw2=>
 R (eP #[.agg A,false]) w2)
 (Br (cR>=6)
 (Sw w1 w0 A λw3=>
 R (eP #[.agg A,false]) w3)
 (ab 221 #[.agg #[aM,aI,aP]] w1.drew (Qd λx5 x6 x7 x8 x9 bL bS cr cJ cY dn dw dO dc dQ fe fk fX w4=>K2 w w0 w1.drew w4 (
 ah w4 (jM w 4) 0 [cR]/\((0:Int)<=cR/\cR<((6:Nat):Int))/\∃(iB jn gG:Int),(([x5,x6,x7,x8,x9,bL,bS,cr,cJ,cY,dn,dw,dO,dc,dQ,fe,fk,fX]:LV).drop ((cR:Int).toNat*3)).take 3=[vI iB,vI jn,vI gG]/\
 Sw w4 w0 #[iB,jn,gG] λkN=>
 R (eP #[.agg #[iB,jn,gG],true]) kN))))) #[ai,ai,ai]):ab 190 #[.agg #[aM,aI,aP,cO,cR,da]] w R:=
 cq bz func190 h
def Jb.vc{fB:Bool}(h:
 Aw w #[aM,aI,aP,cO,cR,da,gJ,gC,fB] 75 λw0=>
 Aw w0 #[ai,ai,ai] 73 λw1=>
 ab 206 #[.agg #[aM,aI,aP],.agg #[ai,(aC (Int.tdiv (aC (gC*4)) 5)),ai]] w1 (mg λx3 x4 x5 w2=>K2 w w0 w1 w2 (
 Sw w2 w0 #[x3,x4,x5] λw6=>
 R (tO #[x3,x4,x5]) w6))):ab 192 #[.agg #[aM,aI,aP,cO,cR,da,gJ,gC,fB]] w R:=
 cq bz func192 h
def ad2.vc(h:(λ(A:Array Value)(B:Array Value) C=>
 Aw w #[aM,aI,aP] 23 λw0=>(λAa=>
 Aw w0 #[ai,ai,ai,ai,ai,ai] 202 λw1=>
 (ab 213 #[aM] w1.drew (Ri λx3 w2=>Aa w1.drew w2 (
 ah w2 C 0 [aP]/\ah w2 (jM w 1) 0 [aI]/\(ab 213 #[aI] w2 (Ri λx5 w4=>Aa w2 w4 (
 ah w4 C 0 [aP]/\(ab 213 #[aP] w4 (Ri λx7 w6=>(λ(Ab:Array Value) Ac=>Aa w4 w6 (
 (Aw w6 B 73 λw8=>
 Sw w8 w6 #[x3,x5,x7] λw9=>
 ab 206 Ab w9.drew (mg λbS cr cJ br=>Ac w9.drew br (
 ah br (aB w6) 0 [x3,x5,x7]/\Sw br w0 #[x3,x5,x7,bS,cr,cJ] λcp=>
 R (tO #[x3,x5,x7,bS,cr,cJ]) cp)))/\(Aw w6 B 73 λc9=>
 Sw c9 w6 #[x3,x5,x7] λbZ=>
 ab 206 Ab bZ.drew (mg λdc dQ fe cP=>Ac bZ.drew cP (
 ah cP (aB w6) 0 [x3,x5,x7]/\Sw cP w0 #[x3,x5,x7,dc,dQ,fe] λdi=>
 R (tO #[x3,x5,x7,dc,dQ,fe]) di))))) #[.agg #[x3,x5,x7],.agg A] (K3 w w0 w6)))/\(Aw w4 B 73 λdh=>
 ab 213 #[aP] dh (Ri λjn jE=>K3 w w0 w4 dh jE (
 Sw jE w4 #[x3,x5,jn] λdL=>
 ab 206 #[.agg #[x3,x5,jn],.agg A] dL.drew (mg λjl rC kz kN=>K3 w w0 w4 dL.drew kN (
 ah kN (aB w4) 0 [x3,x5,jn]/\Sw kN w0 #[x3,x5,jn,jl,rC,kz] λpw=>
 R (tO #[x3,x5,jn,jl,rC,kz]) pw))))))))/\(Aw w2 B 73 λia=>
 ab 213 #[aI] ia (Ri λgA sY=>K3 w w0 w2 ia sY (
 ah sY C 0 [aP]/\ab 213 #[aP] sY (Ri λpy ke=>K3 w w0 w2 sY ke (
 Sw ke w2 #[x3,gA,py] λmG=>
 ab 206 #[.agg #[x3,gA,py],.agg A] mG.drew (mg λnC rq rE jD=>K3 w w0 w2 mG.drew jD (
 ah jD (aB w2) 0 [x3,gA,py]/\Sw jD w0 #[x3,gA,py,nC,rq,rE] λkO=>
 R (tO #[x3,gA,py,nC,rq,rE]) kO))))))))))/\(Aw w1.drew B 73 λnS=>
 ab 213 #[aM] nS (Ri λqE iO=>Aa nS iO (
 ox w1 nS iO/\
 ah iO C 0 [aP]/\ah iO (jM w 1) 0 [aI]/\ab 213 #[aI] iO (Ri λoq ue=>Aa iO ue (
 ox w1 iO ue/\
 ah ue C 0 [aP]/\ab 213 #[aP] ue (Ri λEs oE=>Aa ue oE (
 ox w1 ue oE/\
 Sw oE w1.drew.heap.size #[qE,oq,Es] λnB=>
 ab 206 #[.agg #[qE,oq,Es],.agg A] nB.drew (mg λvp tG lU yR=>Aa nB.drew yR (
 yR.heap[w1.drew.heap.size]? =nB.drew.heap[w1.drew.heap.size]?/\
 ah yR (aB w1.drew.heap.size) 0 [qE,oq,Es]/\Sw yR w0 #[qE,oq,Es,vp,tG,lU] λw54=>
 R (tO #[qE,oq,Es,vp,tG,lU]) w54)))))))))) (K2 w w0)) #[(65536:Int),(65536:Int),(65536:Int)] #[ai,ai,ai] (jM w 2)):ab 145 #[.agg #[aM,aI,aP]] w R:=
 cq bz func145 h
def uU.vc{a0:Addr}{c0:Addr}(h:
 jR w.drew (ae (some a0) 0) λx0 x1 x2 x3 x4 x5 x6 x7 b8=>
 C3 w.drew (some c0) λx9 bL bS cr cJ cY=>
 ab 149 #[.agg #[x0,x1,x2,x3,x4,x5,x6,x7,b8]] w.drew (amx λdw dO dc dQ fe fk c9=>ah c9 (some c0) 0 [x9,bL,bS,cr,cJ,cY]/\ab 148 #[.agg #[dw,dO,dc,dQ,fe,fk],.agg #[x9,bL,bS,cr,cJ,cY]] c9 (yM λb23 dh=>R b23 dh))):ab 147 #[a0,c0] w R:=
 cq bz func147 h
def qw.vc{a0:Sl}{a1:Value}(h:
 ab 214 #[a0,a1] w (fw λx1 w0=>R (Ga (decide (x1>=0))) w0)):ab 146 #[a0,a1] w R:=
 cq bz func146 h
def xI.vc{a0:Addr}(h:
 Aw w #[aG,aH,aS] 23 λw0=>
 ab 145 #[.agg #[aG,aH,aS]] w0 (C2 λx2 x3 x4 x5 x6 x7 w1=>Kp w w0 w1/\
 Aw w1 #[ai,ai,ai,ai,ai,ai] 202 λw8=>
 Sw w8 w1 #[x2,x3,x4,x5,x6,x7] λw9=>
 ab 146 #[.slice (aE (ae (some a0) 1) (0) (16) 1) (16-0) (16-0),.func (.func 147) #[] #[.pointer (aB w1)]] w9 (Rb λb11 br=>Kp w w9 br/\
 R b11 br))):ab 84 #[a0,.agg #[aG,aH,aS]] w R:=
 cq bz func84 h
def xR.vc{a0:Addr}(h:(λ(A:Array Value)(B:LV)(C:Array Value) D E G=>
 Aw w C 73 λw0=>(λAa=>
 Aw w0 A 184 λw1=>
 ab 76 #[a0,a1] w1 (nH λp3 w2=>Aa w1 w2 (
 Br (p3).isNone
 (Sw w2 w0 A λw4=>
 R (eP #[.agg A,(6:Int)]) w4)
 (aO (eE p3) (aO (eE p3) (jR w2.drew (ae p3 0) λx5 x6 x7 x8 x9 bL bS cr KX=>(λ(Ab:Array Value)(Ac:LV)=>
 (ab 81 #[a0] w2.drew (Rv λv15 cp=>Aa w2.drew cp (
 ah cp w 0 B/\ah cp (ae p3 0) 0 Ac/\(ab 192 Ab cp (mg λdO dc dQ bZ=>(λ(Ad:Array Value)=>Aa cp bZ (
 ah bZ w 0 B/\(ab 191 Ad bZ (Mo λfk fX iB jn gG nU Yp eQ=>(λ(Ae:Array Value)=>Aa bZ eQ (
 Aw eQ A 184 λiZ=>
 Sw iZ eQ Ae λgI=>
 Br (!Yp)
 (Sw gI w0 A λpw=>
 R (eP #[.agg A,D]) pw)
 (Br (jn==(-1))
 (Sw gI w0 A λia=>
 R (eP #[.agg A,E]) ia)
 (Sw gI w0 Ae λsY=>
 R (eP #[.agg Ae,G]) sY)))) #[fk,fX,iB,jn,gG,nU]))/\(Aw bZ A 184 λjV=>
 ab 191 Ad jV (Mo λpy oP mO nC rq rE b41 ke=>(λ(Af:Array Value)=>K3 w w0 bZ jV ke (
 Sw ke bZ Af λnS=>
 Br (!b41)
 (Sw nS w0 A λiO=>
 R (eP #[.agg A,D]) iO)
 (Br (nC==(-1))
 (Sw nS w0 A λkf=>
 R (eP #[.agg A,E]) kf)
 (Sw nS w0 Af λue=>
 R (eP #[.agg Af,G]) ue)))) #[py,oP,mO,nC,rq,rE])))) #[v15,.agg #[dO,dc,dQ],.agg C,(5:Int)]))/\(Aw cp A 184 λIw=>
 ab 192 Ab Iw (mg λEs Jp Ba oE=>K3 w w0 cp Iw oE (
 ah oE w 0 B/\ab 191 #[v15,.agg #[Es,Jp,Ba],.agg C,(5:Int)] oE (Mo λtG lU CI vS OY H8 b58 w51=>(λ(Ag:Array Value)=>K3 w w0 cp oE w51 (
 Sw w51 cp Ag λpH=>
 Br (!b58)
 (Sw pH w0 A λlV=>
 R (eP #[.agg A,D]) lV)
 (Br (vS==(-1))
 (Sw pH w0 A λvr=>
 R (eP #[.agg A,E]) vr)
 (Sw pH w0 Ag λjU=>
 R (eP #[.agg Ag,G]) jU)))) #[tG,lU,CI,vS,OY,H8])))))))/\(Aw w2.drew A 184 λOv=>
 ab 81 #[a0] Ov (Rv λv65 H4=>Aa Ov H4 (
 ox w2 Ov H4/\
 ah H4 w 0 B/\ah H4 (ae p3 0) 0 Ac/\ab 192 Ab H4 (mg λyB vT yD vR=>Aa H4 vR (
 ox w2 H4 vR/\
 ah vR w 0 B/\ab 191 #[v65,.agg #[yB,vT,yD],.agg C,(5:Int)] vR (Mo λBf DB K0 O1 Lc O2 b77 wu=>(λ(Ah:Array Value)=>Aa vR wu (
 ox w2 vR wu/\
 Sw wu w2.drew.heap.size Ah λuf=>
 Br (!b77)
 (Sw uf w0 A λK9=>
 R (eP #[.agg A,D]) K9)
 (Br (O1==(-1))
 (Sw uf w0 A λH5=>
 R (eP #[.agg A,E]) H5)
 (Sw uf w0 Ah λwA=>
 R (eP #[.agg Ah,G]) wA)))) #[Bf,DB,K0,O1,Lc,O2]))))))) #[.agg #[x5,x6,x7,x8,x9,bL,bS,cr,KX]] [x5,x6,x7,x8,x9,bL,bS,cr,KX])))))) (K2 w w0)) #[ai,ai,ai,ai,ai,ai] [gg,gj,fq] #[gg,gj,fq] (13:Int) (11:Int) (0:Int)):ab 131 #[a0,a1,.agg #[gg,gj,fq]] w R:=
 cq bz func131 h
def xS.vc{a0:Addr}(h:(λA B=>
 Aw w A 23 λw0=>
 ab 187 #[a2] w0 (Rb λb2 w1=>Kp w w0 w1/\
 Br b2
 (ab 84 #[a0,.agg A] w1 (Rb λb4 w3=>Kp w w1 w3/\
 Br b4
 (R (12:Int) w3)
 (eO w3.drew B λp5=>
 ab 188 #[p5,.agg A,a2] w3.drew (Ri λx7 w6=>Kp w w3.drew w6/\
 R x7 w6))))
 (eO w1.drew B λp8=>
 ab 188 #[p8,.agg A,a2] w1.drew (Ri λbL w9=>Kp w w1.drew w9/\
 R bL w9)))) #[aG,aH,aS] (ae (some a0) 0)):ab 126 #[a0,.agg #[aG,aH,aS],a2] w R:=
 cq bz func126 h
def we.vc{a0:Addr}(h:
 Aw w #[gg,gj,fq] 73 λw0=>
 ab 131 #[a0,a1,.agg #[gg,gj,fq]] w0 (aiq λx2 x3 x4 x5 x6 x7 x8 w1=>Kp w w0 w1/\
 Aw w1 #[ai,ai,ai,ai,ai,ai] 184 λw9=>
 Sw w9 w1 #[x2,x3,x4,x5,x6,x7] λbr=>
 Br (x8==6)
 (R x8 br)
 (ab 189 #[a3] br (Rb λb12 bE=>K2 w w1 br bE (
 Br (!b12)
 (R (1:Int) bE)
 (Br (a3==0)
 (R (1:Int) bE)
 (Br (x8 !=0)
 (R x8 bE)
 (ab 190 #[.agg #[x2,x3,x4,x5,x6,x7]] bE (amr λcY dn dw b17 bw=>K2 w w1 bE bw (
 Aw bw #[ai,ai,ai] 23 λdA=>
 Sw dA bw #[cY,dn,dw] λfm=>
 Br (!b17)
 (R (12:Int) fm)
 (ab 126 #[a0,.agg #[cY,dn,dw],a3] fm (Ri λfk eQ=>K3 w w1 bw fm eQ (
 R fk eQ))))))))))))):ab 127 #[a0,a1,.agg #[gg,gj,fq],a3] w R:=
 cq bz func127 h
def wg.vc{a0:Addr}(h:
 Aw w #[gg,gj,fq] 73 λw0=>
 ab 131 #[a0,a1,.agg #[gg,gj,fq]] w0 (aiq λx2 x3 x4 x5 x6 x7 x8 w1=>Kp w w0 w1/\
 Aw w1 #[ai,ai,ai,ai,ai,ai] 184 λw9=>
 Sw w9 w1 #[x2,x3,x4,x5,x6,x7] λbr=>
 Br (x8==0)
 (ab 126 #[a0,.agg #[x2,x3,x4],(0:Int)] br (Ri λcr bE=>K2 w w1 br bE (
 Br (cr !=0)
 (R (eP #[ai,cr]) bE)
 (R (eP #[x5,ai]) bE))))
 (Br (x8 !=0)
 (R (eP #[ai,x8]) br)
 (R (eP #[x5,ai]) br)))):ab 129 #[a0,a1,.agg #[gg,gj,fq]] w R:=
 cq bz func129 h
def xU.vc{a0:Addr}{fq:Bool}(h:
 Aw w #[gg,gj,fq] 101 λw0=>
 ab 76 #[a0,a1] w0 (nH λp2 w1=>(λAa=>Kp w w0 w1/\
 Br (p2).isNone
 (R (6:Int) w1)
 (aO (eE p2) (aO (eE p2) (((Aa).isSome=true/\Wr w1 Aa 3)/\bM Aa≠some w.heap.size/\(Pw w1 Aa [gg,gj,fq] λw3=>
 R (0:Int) w3))))) (ae p2 9))):ab 133 #[a0,a1,.agg #[gg,gj,fq]] w R:=
 cq bz func133 h
def xV.vc{a0:Addr}(h:(λA=>
 Aw w A 75 λw0=>
 ab 76 #[a0,a1] w0 (nH λp2 w1=>Kp w w0 w1/\
 Br (p2).isNone
 (Sw w1 w A λw3=>
 R (eP #[.agg A,false]) w3)
 (aO (eE p2) (aO (eE p2) (jR w1 (ae p2 0) λx4 x5 x6 x7 x8 x9 bL bS b12=>(λAa=>
 Sw w1 w Aa λbw=>
 R (eP #[.agg Aa,true]) bw) #[x4,x5,x6,x7,x8,x9,bL,bS,b12]))))) #[ai,ai,ai,ai,ai,ai,ai,ai,false]):ab 47 #[a0,a1] w R:=
 cq bz func47 h
def xP.vc{a0:Addr}(h:(λA=>
 ∃(p0 p1 p2 p3 p4 p5 p6 p7 p8 p9 Ie IA wC p13 Bm p15:Option Addr),ah w (ae (some a0) 1) 0 [.pointer p0,p1,p2,p3,p4,p5,p6,p7,p8,p9,Ie,IA,wC,p13,Bm,p15]/\
 pf (λI16 n17=>I16 n17 (0) ⟨none,0,0⟩ w) λI16 n17 azf dQ xp di=>(λAa=>
 Br (dQ<16)
 (((0:Int)<=dQ/\dQ<((16:Nat):Int))/\∃(Tz:Option Addr),([.pointer p0,p1,p2,p3,p4,p5,p6,p7,p8,p9,Ie,IA,wC,p13,Bm,p15]:LV)[(dQ:Int).toNat*1]? =some (.pointer Tz)/\
 Br (!(Tz).isNone)
 (aO (eE Tz) (aO (eE Tz) (jR di (ae Tz 0) λjn gG nU jl rC kz tF oO b32=>
 ab 79 #[a0,.agg #[jn,gG,nU,jl,rC,kz,tF,oO,b32]] di (yM λb34 jV=>Br b34
 (Aw jV #[Tz] 61 λiD=>
 bj 8 1 iD xp 1 [.pointer Tz]/\∀(s36:Sl)(jD:World),aY 61 1 iD xp 1 [.pointer Tz] s36 jD->Kp jV iD jD/\
 ∃n22,n22<n17/\I16 n22 Aa s36 jD)
 (∃n22,n22<n17/\I16 n22 Aa xp jV)))))
 (∃n22,n22<n17/\I16 n22 Aa xp di))
 (pf (λI38 n39=>I38 n39 (0) ⟨none,0,0⟩ di) λI38 n39 ary kA s42 iO=>
 Br (decide (kA<((xp.n:Nat):Int)))
 (gD xp.a kA xp.n/\eO iO (ae xp.a ((kA:Int).toNat*1)) λp45=>
 aO (eE p45) (aO (eE p45) (jR iO.drew (ae p45 0) λoq A9 Es Jp Ba vp tG lU b54=>
 aO (eE p45) (aO (eE p45) (∃(vS OY:Int)(b57:Bool),ah iO.drew (ae p45 9) 0 [vS,OY,b57]/\
 ab 81 #[a0] iO.drew (Gr λv59 vQ=>ah vQ (ae p45 9) 0 [vS,OY,b57]/\ah vQ (ae p45 0) 0 [oq,A9,Es,Jp,Ba,vp,tG,lU,b54]/\ab 80 #[.agg #[oq,A9,Es,Jp,Ba,vp,tG,lU,b54],v59,.agg #[vS,OY,b57]] vQ (ah1 λKY rD Bo Lb Be rG yB vT b69 lV=>(λAb=>Aw lV #[KY,rD,Bo,Lb,Be,rG,yB,vT,b69] 75 λwu=>
 bj 72 9 wu s42 1 Ab/\∀(s71:Sl)(w72:World),aY 75 9 wu s42 1 Ab s71 w72->Kp lV wu w72/\
 ∃n44,n44<n39/\I38 n44 ((aC (kA+1))) s71 w72) [KY,rD,Bo,Lb,Be,rG,yB,vT,b69])))))))
 (ab 81 #[a0] iO (Gr λv74 Ju=>ab 82 #[v74,s42] Ju (rA λs76 uh=>rP (λI77 n78=>I77 n78 (0) uh) λI77 n78 azi Oy wA=>
 Br (decide (Oy<((s76.n:Nat):Int)))
 (gD s76.a Oy s76.n/\jR wA (ae s76.a ((Oy:Int).toNat*9)) λO0 TV x85 x86 xl x88 x89 x90 b91=>
 Aw wA #[ai,ai,ai,ai,ai,ai,ai,ai,false] 75 λw92=>
 Sw w92 wA #[O0,TV,x85,x86,xl,x88,x89,x90,b91] λLd=>
 gD xp.a Oy xp.n/\eO Ld.drew (ae xp.a ((Oy:Int).toNat*1)) λp94=>(λAc=>
 aO (eE p94) (aO (eE p94) (((Ac).isSome=true/\Wr Ld.drew Ac 9)/\bM Ac≠some wA.heap.size/\(Pw Ld.drew Ac [O0,TV,x85,x86,xl,x88,x89,x90,b91] λw95=>
 ∃n82,n82<n78/\I77 n82 ((aC (Oy+1))) w95)))) (ae p94 0))
 (eO wA A λp96=>
 ab 83 #[p96,.func (.func 84) #[a0] #[]] wA (Rt λw97=>eO w97 A λp98=>
 ab 85 #[p98] w97 (fw λBi Iu=>R Bi Iu)))))))) ((aC (dQ+1)))) (ae (some a0) 0)):ab 50 #[a0] w R:=
 cq ⟨[(15,⟨[(59,.int .i64)],[],[]⟩),(10,⟨[(35,.int .i64),(4,.slice)],[],[]⟩),(4,⟨[(15,.int .i64),(3,.slice)],[],[]⟩)],[],[]⟩ func50 h
open Go.bW Go.aN Go.Code Go.dS Go.ej Go.fY
def eN(v:Ce):Ce:=Gl (λ_ n=>dD n) v
def aaU(v:Ce)(w:World):ed 310 #[fQ v] w ((fQ (eN v))):=by
 apply ain.vc;intro w0 e0 w1 e1;have x0:=aU e0;have z0:=zA e0;have x1:=aU e1;have z1:=zA e1;refine(vO (λ_ n=>dD n) v (.func (.func 353) #[] #[]) w1 λw' x' i x _ _=>bR (by kernel_rfl) rfl (ZL.vc ((gV x w').mono ?_))).mono ?_
 ·rintro e w2 ⟨rfl,rfl⟩;exact⟨_,rfl,rfl,Ext.bT _⟩
 rintro e w2 ⟨rfl,x2⟩;have z2:=x2.size;exact⟨_,_,_,rfl,x2.k,x2.k,λw6 e6=>⟨rfl,(x0.tr (x1.tr x2)).af e6 aa⟩⟩
def wZ(n:Int):Int:=min (max n (-1048576)) 1048576
def anh(n:Int):(if 1048576<(if(-1048576)>n then(-1048576)else n)then 1048576 else(if(-1048576)>n then(-1048576)else n))=wZ n:=by
 unfold wZ
 repeat' split
 all_goals omega
def yw(n:Int)(w:World):kh 354 #[n] w (vI (wZ n)):=by apply ZM.vc;exact⟨by rw[anh],rfl⟩
def j9(v:Ce):Ce:=(wZ v.1,wZ v.2.1,wZ v.2.2)
def aaV(v:Ce)(w:World):ed 311 #[fQ v] w ((fQ (j9 v))):=by apply aio.vc;intro w0 e0 w1 e1;have x0:=aU e0;have z0:=zA e0;have r0:Row w0 w (eV v) iq:=Row.nw e0;have x1:Ext w0 w1.drew:=(aU e1).drew;have r1:=r0.ext x1;refine(yw v.1 w1.drew).eL ?_;refine⟨_,rfl,rfl,rfl,xG r1 rfl,xG r1 rfl,(yw v.2.1 w1.drew).eL ?_⟩;refine⟨_,rfl,rfl,rfl,xG r1 rfl,(yw v.2.2 w1.drew).eL ?_⟩;exact⟨_,rfl,rfl,rfl,λw8 e8=>⟨rfl,(x0.tr x1).af e8 aa⟩⟩
abbrev Sd:=Int×Int
def RV(a b:Sd):Bool:=if a.2=0\/b.2=0 then decide (0<a.2)else decide (aC (a.1*b.2)<aC (b.1*a.2))
def RW(a b:Sd)(w:World):ed 315 #[.agg #[a.1,a.2],.agg #[b.1,b.2]] w (Value.bool (RV a b)):=by
 apply U1.vc;intro w0 e0 w1 e1;have x1:Ext w w1:=(aU e0).aZ e1;unfold RV;refine Br.mk (λh=>⟨?_,x1⟩) (λh=>Br.mk (λh2=>⟨?_,x1⟩) (λh2=>⟨?_,x1⟩))
 ·rw[if_pos (Or.inl (by simpa using h))]
 ·rw[if_pos (Or.inr (by simpa using h2))]
 ·rw[if_neg (by
   have h1:=eK h;have h3:=eK h2;rintro(h|h)
   ·exact h1 h
   ·exact h3 h)]
def sS(a b r:Int):Bool:=decide (aC (a-b)<=r)&&decide (aC (b-a)<=r)
def yx(a b r:Int){g:Nat}{τ:TypeId}{w:World}(hr:Row w g [r] τ):kh 356 #[a,b,g] w (Value.bool (sS a b r)):=by apply M8.vc;unfold sS;refine⟨r,hr.at 0 rfl,Br.mk (λh=>⟨r,hr.at 0 rfl,by rw[h,oU],rfl⟩) (λh=>⟨by rw[h,C9],rfl⟩)⟩
def mK(a b:Ce)(r:Int):Bool:=sS a.1 b.1 r&&(sS a.2.1 b.2.1 r&&sS a.2.2 b.2.2 r)
def N2(a b:Ce)(r:Int)(w:World):ed 314 #[fQ a,fQ b,r] w (Value.bool (mK a b r)):=by apply U2.vc;intro w0 e0 w1 e1 w2 e2;have x2:Ext w w2:=((aU e0).aZ e1).aZ e2;have r2:∃τ,Row w2 w1 [r] τ:=⟨_,by rw[e2];exact Row.new w1 [_] _⟩;obtain⟨τ,r2⟩:=r2;unfold mK;refine(yx a.1 b.1 r r2).eL ?_;refine⟨_,rfl,rfl,rfl,Br.mk (λh=>(yx a.2.1 b.2.1 r r2).mono ?_) (λh=>⟨by rw[h,C9],x2⟩)⟩;rintro e w5 ⟨rfl,rfl⟩;refine⟨_,rfl,rfl,rfl,Br.mk (λh2=>(yx a.2.2 b.2.2 r r2).mono ?_) (λh2=>⟨by rw[h,h2];rfl,x2⟩)⟩;rintro e w7 ⟨rfl,rfl⟩;exact⟨_,rfl,rfl,rfl,by rw[h,h2,oU,oU],x2⟩
def aeU(a b:Int)(ha:0<=a/\a<=1000000000)(hb:0<b/\b<=1048576)(w:World):ed 316 #[a,b] w (Value.tuple #[.int .i64 (a*65536/b),ai]):=by
 apply ZO.vc;refine(vG a w).mono ?_;rintro e w0 ⟨rfl,rfl⟩;have ca:dD a=a:=oz aa;have cb:dD b=b:=oz aa;rw[ca];refine⟨_,_,rfl,(vG b w0).mono ?_⟩;rintro e w3 ⟨rfl,rfl⟩;rw[cb];have aBF:(2^(min (16:Int).toNat 64):Int)=65536:=by decide
 have ma:max a (-a)=a:=by omega
 have mb:max b (-b)=b:=by omega
 rw[ma,mb];have na:decide (a<0)=false:=by simpa using ha.1
 have nb:decide (b<0)=false:=by simpa using Int.le_of_lt hb.1
 refine⟨_,_,rfl,Br.mk (λh=>absurd (by simpa using h:b=0) aa) (λh=>?_)⟩;have hn0:∀q∈WN b,q:=λq hq=>by
  unfold WN at hq;rw[if_neg aa]at hq
  cases hq
 rw[aBF,xJ (n:=a*65536) aa,na,nb];have hd:Int.tdiv (a*65536) b=a*65536/b:=uI aa;have h1:0<=a*65536/b:=Int.ediv_nonneg aa aa;have h2:a*65536/b<=a*65536:=Int.ediv_le_self _ aa;rw[hd,xJ (n:=a*65536/b) aa];refine bO.2 ⟨hn0,bO.2 ⟨hn0,(Gn (a*65536/b) aa _ _ w3.drew).mono ?_⟩⟩;rintro e w6 ⟨rfl,x6⟩;exact⟨_,rfl,rfl,(Ext.dr _).tr x6⟩
def aix{w:World}{g:Nat}{cs:LV}{E:TypeId}(hr:Row w g cs E){j:Nat}{a b:Value}(hj:j+2<=cs.length)(ha:a.oneCell'=true)(hb:b.oneCell'=true):
  Wr w (ae (aB g) j) 2/\∀w',w'=Vc.bB w (ae (aB g) j) [a,b]->Row w' g ((cs.set j a).set (j+1) b) E/\Mod (λi=>i=g) w w':=by
 rw[aF,eF];have h1:One [a,b]:=by
  intro u hu;simp at hu;rcases hu with rfl|rfl
  ·exact ha
  ·exact hb
 refine⟨hr.wr hj,λw' e=>?_⟩;rw[hr.bB (by simpa using hj) h1]at e;subst e;exact⟨hr.set _,rfl,rfl,rfl,by rw[setRow_size];exact ak _,λi _ hn=>setRow_other _ _ _ _ hn⟩
abbrev S3:=Sd×Sd×Sd
abbrev Ej(s:S3):LV:=[vI s.1.1,vI s.1.2,vI s.2.1.1,vI s.2.1.2,vI s.2.2.1,vI s.2.2.2]
abbrev TP:TypeId:=342
def aeT(s:S3):One (Ej s):=by intro v hv;simp at hv;rcases hv with rfl|rfl|rfl|rfl|rfl|rfl<;>rfl
def yP(f d:Ce)(i:Int):Sd:=if dj d i>0 then(aC (65536-uL (dj f i)),dj d i)else(uL (dj f i),aC (0-dj d i))
def sd3(f d:Ce):Nat->S3
 |0=>((0,0),(0,0),(0,0))
 |1=>(yP f d 0,(0,0),(0,0))
 |2=>(yP f d 0,yP f d 1,(0,0))
 |_=>(yP f d 0,yP f d 1,yP f d 2)
def VG(f d:Ce)(w:World):ed 313 #[fQ f,fQ d] w (Value.agg (Ej (sd3 f d 3)).toArray):=by
 apply ZN.vc;intro w0 e0 w1 e1 w2 e2 w3 e3;have x0:=aU e0;have z0:=zA e0;have x1:=aU e1;have z1:=zA e1;have r1:Row w1 w0 (eV d) iq:=Row.nw e1;have x2:=aU e2;have z2:=zA e2;have r2:Row w2 w1 (Ej ((0,0),(0,0),(0,0))) TP:=Row.nw e2;have x3:=aU e3;have z3:=zA e3;have r3:Row w3 w2 (Ej ((0,0),(0,0),(0,0))) TP:=Row.nw e3;have OL:=x0.tr (x1.tr (x2.tr x3));refine⟨λn x wr=>∃k:Nat,x=k/\k+n=3/\Row wr w2 (Ej (sd3 f d k)) TP/\Row wr w1 (Ej ((0,0),(0,0),(0,0))) TP/\Row wr w0 (eV d) iq/\Ext w wr,⟨3,rfl,rfl,0,rfl,rfl,r3,r2.ext x3,r1.ext (x2.tr x3),OL⟩,?_⟩;rintro n us x w8 ⟨k,rfl,hk,rl,ro,rd,xr⟩;have zl:=rl.lt;apply Br.mk<;>intro hc
 ·have hc:=eK hc;have H6:k=0\/k=1\/k=2:=by omega
  have wk:=nE (j:=k);have xd:=Ext.dr w8;have zd:=nV w8;refine(cW f k w8.drew).bf λbr bL=>?_
  have z10:=bL.size;refine⟨_,rfl,bL.k,bL.k,Lo.wv (rd.ext (xd.tr bL)),(cW d k br).bf λbN cr=>?_⟩;have z12:=cr.size;have WI:=xd.tr (bL.tr cr);refine⟨_,rfl,cr.k,cr.k,(BH (dj f k) bN).eL ?_⟩;obtain⟨p1,p2⟩:=aix (rl.ext WI) (j:=(k:Int).toNat*2) (a:=vI (uL (dj f k))) (b:=vI (aC (0-dj d k))) (by show _<=6;omega) rfl rfl;refine⟨_,rfl,rfl,rfl,aa,aa,⟨rfl,p1⟩,qu aa,qu aa,λbZ CH=>?_⟩;obtain⟨q1,q2⟩:=p2 bZ CH;have z16:=q2.size;have aul:Ext w bZ:=q2.ext (xr.tr WI) λi hi=>by omega
  have apK:=(ro.ext WI).same (q2.same _ (ro.ext WI).lt aa);have ON:=(rd.ext WI).same (q2.same _ (rd.ext WI).lt aa);refine Br.mk (λhq=>(BH (dj f k) bZ).mono ?_) (λhq=>⟨n-1,aa,rfl,rfl,k+1,wk,aa,?_,apK,ON,aul⟩)
  ·rintro e cP ⟨rfl,rfl⟩;obtain⟨p3,p4⟩:=aix q1 (j:=(k:Int).toNat*2) (a:=vI (aC (65536-uL (dj f k)))) (b:=vI (dj d k)) (by rw[lO,lO];show _<=6;omega) rfl rfl;refine⟨_,rfl,rfl,rfl,aa,aa,⟨rfl,p3⟩,qu aa,qu aa,λfm Td=>?_⟩;obtain⟨q3,q4⟩:=p4 fm Td;have hq:=eK hq;have hs:yP f d k=(aC (65536-uL (dj f k)),dj d k):=by unfold yP;rw[if_pos hq]
   refine⟨n-1,aa,rfl,rfl,k+1,wk,aa,?_,apK.same (q4.same _ apK.lt aa),ON.same (q4.same _ ON.lt aa),q4.ext aul λi hi=>by omega⟩;rcases H6 with rfl|rfl|rfl
   ·have hs:yP f d 0=_:=hs;show Row fm _ (Ej (yP f d 0,(0,0),(0,0))) TP;rw[hs];exact q3
   ·have hs:yP f d 1=_:=hs;show Row fm _ (Ej (yP f d 0,yP f d 1,(0,0))) TP;rw[hs];exact q3
   ·have hs:yP f d 2=_:=hs;show Row fm _ (Ej (yP f d 0,yP f d 1,yP f d 2)) TP;rw[hs];exact q3
  ·have hq:=eK hq;have hs:yP f d k=(uL (dj f k),aC (0-dj d k)):=by unfold yP;rw[if_neg hq]
   rcases H6 with rfl|rfl|rfl
   ·have hs:yP f d 0=_:=hs;show Row bZ _ (Ej (yP f d 0,(0,0),(0,0))) TP;rw[hs];exact q1
   ·have hs:yP f d 1=_:=hs;show Row bZ _ (Ej (yP f d 0,yP f d 1,(0,0))) TP;rw[hs];exact q1
   ·have hs:yP f d 2=_:=hs;show Row bZ _ (Ej (yP f d 0,yP f d 1,yP f d 2)) TP;rw[hs];exact q1
 ·have hc:=eK hc;have H6:k=3:=by omega
  subst H6;refine⟨_,_,_,_,_,_,Lo.wv rl,⟨rfl,ro.wr bo⟩,pD aa,pD aa,λkN TB=>?_⟩;rw[ro.bB (vs:=Ej (sd3 f d 3)) bo (aeT (sd3 f d 3)),dC bo]at TB;have r26:Row kN w1 (Ej (sd3 f d 3)) TP:=ro.st TB;exact⟨_,_,_,_,_,_,Lo.wv r26,rfl,xr.af TB aa⟩
def iz(s:S3):Nat->Sd
 |0=>s.1
 |1=>s.2.1
 |_=>s.2.2
def KG(s:S3)(i:Nat)(x:Sd):S3:=
 match i with
 |0=>(x,s.2.1,s.2.2)
 |1=>(s.1,x,s.2.2)
 |_=>(s.1,s.2.1,x)
def eM(s:S3):Nat->Nat
 |0=>0
 |k+1=>if RV (iz s k) (iz s (eM s k))=true then k else eM s k
def NJ(s:S3):∀k:Nat,eM s k<k\/eM s k=0
 |0=>.inr rfl
 |k+1=>by
  unfold eM
  have:=NJ s k
  split<;>omega
def at3(s:S3):eM s 3=0\/eM s 3=1\/eM s 3=2:=by have:=NJ s 3;omega
abbrev Hi:=Ce×Int×Int
def nbN(c:Ce):Nat->Ce
 |0=>(c.1-1,c.2.1,c.2.2)
 |1=>(c.1+1,c.2.1,c.2.2)
 |2=>(c.1,c.2.1-1,c.2.2)
 |3=>(c.1,c.2.1+1,c.2.2)
 |4=>(c.1,c.2.1,c.2.2-1)
 |_=>(c.1,c.2.1,c.2.2+1)
def iU(d:Ce)(s:S3)(h:Hi):Option (S3×Hi):=
 if(iz s (eM s 3)).2=0 then none
 else some (KG s (eM s 3) ((iz s (eM s 3)).1+65536,(iz s (eM s 3)).2),(nbN h.1 (if dj d (eM s 3)>0 then 2*eM s 3+1 else 2*eM s 3),(if dj d (eM s 3)>0 then 2*(eM s 3:Int)else 2*(eM s 3:Int)+1),(iz s (eM s 3)).1*65536/(iz s (eM s 3)).2))
def goK(d c0:Ce)(r:Int):Nat->S3->Hi->List Hi
 |0,_,_=>[]
 |n+1,s,h=>if mK c0 h.1 r=true then h::(match iU d s h with|none=>[]|some q=>goK d c0 r n q.1 q.2)else []
def yh(x:Int):Int:=max x (-x)
def N1(k:Nat)(x:Sd)(d o:Int):Prop:=x.2=yh d/\(0<=x.1/\x.1<=65536*(k+1))/\(0<d->0<=o)/\(d<=0->o<=0)
def wY(d c0:Ce)(k:Nat)(s:S3)(c:Ce):Prop:=
 (N1 k s.1 d.1 (c.1-c0.1)/\N1 k s.2.1 d.2.1 (c.2.1-c0.2.1)/\N1 k s.2.2 d.2.2 (c.2.2-c0.2.2))/\yh (c.1-c0.1)+yh (c.2.1-c0.2.1)+yh (c.2.2-c0.2.2)=k
def Rl{d c0:Ce}{k:Nat}{s:S3}{h:Hi}(hr:wY d c0 k s h.1){q:S3×Hi}(hq:iU d s h=some q):wY d c0 (k+1) q.1 q.2.1:=by
 obtain⟨⟨⟨h1,h2,h3,h4⟩,⟨g1,g2,g3,g4⟩,⟨f1,f2,f3,f4⟩⟩,hs⟩:=hr;obtain⟨⟨s1,s2⟩,⟨t1,t2⟩,⟨u1,u2⟩⟩:=s;obtain⟨⟨cx,cy,cz⟩,face,time⟩:=h;unfold iU at hq;split at hq
 ·cases hq
 rename_i gl;injection hq with hq;subst hq;rcases at3 ((s1,s2),(t1,t2),(u1,u2))with e|e|e
 ·rw[e]at gl⊢;have a0:dj d ((0:Nat):Int)=d.1:=rfl;rw[a0];simp only[iz,KG]at gl h1 h2 h3 h4 g1 g2 g3 g4 f1 f2 f3 f4 hs⊢;unfold wY N1 yh;unfold yh at h1 g1 f1 hs;split
  ·show(_/\_)/\_;simp only[nbN];omega
  ·show(_/\_)/\_;simp only[nbN];omega
 ·rw[e]at gl⊢;have a0:dj d ((1:Nat):Int)=d.2.1:=rfl;rw[a0];simp only[iz,KG]at gl h1 h2 h3 h4 g1 g2 g3 g4 f1 f2 f3 f4 hs⊢;unfold wY N1 yh;unfold yh at h1 g1 f1 hs;split
  ·simp only[nbN];omega
  ·simp only[nbN];omega
 ·rw[e]at gl⊢;have a0:dj d ((2:Nat):Int)=d.2.2:=rfl;rw[a0];simp only[iz,KG]at gl h1 h2 h3 h4 g1 g2 g3 g4 f1 f2 f3 f4 hs⊢;unfold wY N1 yh;unfold yh at h1 g1 f1 hs;split
  ·simp only[nbN];omega
  ·simp only[nbN];omega
def aaK{d c0 c:Ce}{k:Nat}{s:S3}{r:Int}(hr:wY d c0 k s c)(h0:(-2000000000<=c0.1/\c0.1<=2000000000)/\(-2000000000<=c0.2.1/\c0.2.1<=2000000000)/\-2000000000<=c0.2.2/\c0.2.2<=2000000000)(hk:k<=1000)(hw:mK c0 c r=true):(k:Int)<=3*r:=by obtain⟨-,hs⟩:=hr;unfold yh at hs;unfold mK sS at hw;simp only[fF,cC]at hw;rw[wI,wI,wI,wI,wI,wI]at hw;omega
abbrev hiV(h:Hi):Value:=.agg #[h.1.1,h.1.2.1,h.1.2.2,ai,h.2.1,h.2.2]
def lj(f d:Ce)(r:Int):List Hi:=goK d (ba f) r (3*r.toNat+2) (sd3 f d 3) (ba f,-1,0)
abbrev trX(f d:Ce)(r:Int):List (LV):=(lj f d r).map λh=>[hiV h]
abbrev arh(g:Nat):Value:=.func (.func 312) #[] #[g,.pointer (some ⟨g+1,0,none⟩),.pointer (some ⟨g+2,0,none⟩)]
def pU{w:World}{g:Nat}{s:S3}{E:TypeId}(hr:Row w g (Ej s) E){a:Nat}(ha:a=0\/a=1\/a=2):ah w (ae (aB g) ((a:Int).toNat*2)) 0 [vI (iz s a).1,vI (iz s a).2]:=by
 rw[aF,eF];rcases ha with rfl|rfl|rfl
 all_goals
  refine hr.bH λj hj=>?_
  match j,hj with
  |0,_=>rfl
  |1,_=>rfl
def ldA{w:World}{g:Nat}{s:S3}{E:TypeId}(hr:Row w g (Ej s) E){a:Nat}(ha:a=0\/a=1\/a=2):Vc.ld w (ae (ae (aB g) ((a:Int).toNat*2)) 0)=some (vI (iz s a).1):=by rw[aF,aF,hr.ld];rcases ha with rfl|rfl|rfl<;>rfl
def ldB{w:World}{g:Nat}{s:S3}{E:TypeId}(hr:Row w g (Ej s) E){a:Nat}(ha:a=0\/a=1\/a=2):Vc.ld w (ae (ae (aB g) ((a:Int).toNat*2)) 1)=some (vI (iz s a).2):=by rw[aF,aF,hr.ld];rcases ha with rfl|rfl|rfl<;>rfl
def amu{w:World}{g:Nat}{s:S3}{E:TypeId}(hr:Row w g (Ej s) E){a:Nat}(ha:a=0\/a=1\/a=2)(x:Int):
  Wr w (ae (ae (aB g) ((a:Int).toNat*2)) 0) 1/\∀w',w'=Vc.bB w (ae (ae (aB g) ((a:Int).toNat*2)) 0) [x]->Row w' g (Ej (KG s a (x,(iz s a).2))) E/\Mod (λi=>i=g) w w':=by
 have e:ae (ae (aB g) ((a:Int).toNat*2)) 0=ae (aB g) ((a:Int).toNat*2):=by rw[aF,aF];rfl
 rw[e];obtain⟨p1,p2⟩:=hr.ft (j:=(a:Int).toNat*2) (v:=vI x) (by show _<6;omega) rfl;refine⟨p1,λw' e'=>?_⟩;obtain⟨q1,q2⟩:=p2 w' e';refine⟨?_,q2⟩;rcases ha with rfl|rfl|rfl<;>exact q1
def sT{w w':World}{g:Nat}{c:Array Value}(e:w'=w.setRow g c):Mod (λi=>i=g) w w':=by subst e;exact⟨rfl,rfl,rfl,by rw[setRow_size];exact ak _,λi _ hn=>setRow_other _ _ _ _ hn⟩
def X3(c:Ce){j:Nat}(hj:j<6):((TN c).drop ((j:Int).toNat*3)).take 3=eV (nbN c j):=by
 have:j=0\/j=1\/j=2\/j=3\/j=4\/j=5:=by omega
 rcases this with rfl|rfl|rfl|rfl|rfl|rfl<;>rfl
def axd(d:Ce):dj d ((0:Nat):Int)=d.1/\dj d ((1:Nat):Int)=d.2.1/\dj d ((2:Nat):Int)=d.2.2:=⟨rfl,rfl,rfl⟩
def Rm{d c0 c:Ce}{k a:Nat}{s:S3}(hr:wY d c0 k s c)(ha:a=0\/a=1\/a=2):N1 k (iz s a) (dj d a) (dj c a-dj c0 a):=by
 obtain⟨⟨h1,h2,h3⟩,-⟩:=hr;rcases ha with rfl|rfl|rfl
 ·exact h1
 ·exact h2
 ·exact h3
def Kx(f d:Ce)(hd:∀i:Nat,i<3-> -1048576<=dj d i/\dj d i<=1048576):wY d (ba f) 0 (sd3 f d 3) (ba f):=by
 have h0:=hd 0 au;have h1:=hd 1 au;have h2:=hd 2 au;obtain⟨a0,a1,a2⟩:=axd d;rw[a0]at h0;rw[a1]at h1;rw[a2]at h2;have key:∀(i:Int)(q:Int),dj d i=q-> -1048576<=q/\q<=1048576->N1 0 (yP f d i) q 0:=λi q hq hb=>by
  have hf:0<=uL (dj f i)/\uL (dj f i)<65536:=by unfold uL;omega
  unfold yP N1 yh;rw[hq];split
  ·rw[wI];simp only;omega
  ·rw[wI];simp only;omega
 refine⟨⟨?_,?_,?_⟩,?_⟩
 ·rw[Int.sub_self];exact key 0 d.1 a0 h0
 ·rw[Int.sub_self];exact key 1 d.2.1 a1 h1
 ·rw[Int.sub_self];exact key 2 d.2.2 a2 h2
 ·rw[Int.sub_self,Int.sub_self,Int.sub_self];rfl
def VF(f d:Ce)(r:Int)(hf:(-1900000000<=(ba f).1/\(ba f).1<=1900000000)/\(-1900000000<=(ba f).2.1/\(ba f).2.1<=1900000000)/\-1900000000<=(ba f).2.2/\(ba f).2.2<=1900000000)(hd:∀i:Nat,i<3-> -1048576<=dj d i/\dj d i<=1048576)(hr:0<=r/\r<=64)
  (g:Nat)(W0:World)(h0:Row W0 g (eV f) iq)(h1:Row W0 (g+1) (eV d) iq)(h2:Row W0 (g+2) [r] 3):
  Iter Tryz.prog (arh g) W0 (λi=>i=g\/i=g+1\/i=g+2) (trX f d r):=by
 refine⟨⟨_,_,_,rfl,by kernel_rfl⟩,?_⟩;intro y B J Jx F0 W hB hsJ hsX yQ hRd hround hJ0;refine bR (by kernel_rfl) (by rfl) ?_;apply QI.vc;have q0:=h0.same (hRd g (.inl rfl)).2.2;have q1:=h1.same (hRd (g+1) (.inr (.inl rfl))).2.2;have q2:=h2.same (hRd (g+2) (.inr (.inr rfl))).2.2;refine⟨_,_,_,Lo.wv q0,_,_,_,Lo.wv q1,(VG f d W).bf λw6 x6=>?_⟩;have z6:=x6.size;refine⟨_,_,_,_,_,_,rfl,λbw Dz=>?_⟩;have z13:=zA Dz;have r13:Row bw w6 (Ej ((0,0),(0,0),(0,0))) TP:=Row.nw Dz;refine⟨⟨rfl,r13.wr bo⟩,λcp yF=>?_⟩;rw[r13.bB (vs:=Ej (sd3 f d 3)) bo (aeT (sd3 f d 3)),dC bo]at yF;have r14:Row cp w6 (Ej (sd3 f d 3)) TP:=r13.st yF;have z14:=zR yF;have cY:Ext w6 cp:=(aU Dz).af yF (ak _);refine⟨_,_,_,Lo.wv (q0.ext (x6.tr cY)),(zH f cp).bf λdA dc=>?_⟩;have z18:=dc.size;refine⟨_,_,_,rfl,λdh Dy jE e23 ie Jq dL OX=>?_⟩;have z22:=zA Dy;have z23:=zR e23;have z24:=zA Jq;have z25:=zR OX;have gG:Ext dA dL:=(((aU Dy).af e23 (ak _)).aZ Jq).af OX aa;have xW:=x6.tr (cY.tr (dc.tr gG));obtain⟨K,hK⟩:∃K:Nat->Prop,K=λi=>i=g\/i=g+1\/i=g+2\/i=w6.heap.size\/i=dA.heap.size\/i=jE.heap.size:=⟨_,rfl⟩
 obtain⟨P,hP⟩:∃P:Nat->S3->wPp,P=λk s wr=>(∃F,J k F wr/\∀i,K i->¬F i/\i<wr.heap.size)/\(Row wr g (eV f) iq/\Row wr (g+1) (eV d) iq/\Row wr (g+2) [r] 3)/\Row wr w6 (Ej s) TP/\dL.heap.size<=wr:=⟨_,rfl⟩
 have ext:∀{k:Nat}{s:S3}{wr wr':World},P k s wr->Ext wr wr'->P k s wr':=λ{k s wr wr'} h x=>by rw[hP]at h⊢;obtain⟨⟨F,hJ,hk⟩,⟨a0,a1,a2⟩,a3,a4⟩:=h;exact⟨⟨F,hsJ _ _ _ _ hJ (Below.mono x aa) λi hi=>x.heap (yQ _ _ _ hJ i hi),λi hi=>⟨(hk i hi).1,gK (hk i hi).2 x.size⟩⟩,⟨a0.ext x,a1.ext x,a2.ext x⟩,a3.ext x,cV a4 x.size⟩
 have glt:g+2<W.heap.size:=q2.lt;have ub:∀{k:Nat}{s s':S3}{wr wr':World}{b:Nat},P k s wr->Mod (λi=>i=b) wr wr'->(b=w6.heap.size\/b=dA.heap.size)->Row wr' w6 (Ej s') TP->P k s' wr':=λ{k s s' wr wr' b} h hm hb de=>by rw[hP]at h⊢;obtain⟨⟨F,hJ,hk⟩,⟨a0,a1,a2⟩,a3,a4⟩:=h;have KW:¬F b:=(hk b (by rw[hK];rcases hb with rfl|rfl<;>simp)).1;refine⟨⟨F,hsJ _ _ _ _ hJ (hm.below aa λi hi=>by rcases hb with rfl|rfl<;>omega) λi hi=>hm.same i (yQ _ _ _ hJ i hi) λq=>KW (by rw[<-q];exact hi),λi hi=>⟨(hk i hi).1,gK (hk i hi).2 hm.size⟩⟩,⟨a0.same (hm.same _ a0.lt aa),a1.same (hm.same _ a1.lt aa),a2.same (hm.same _ a2.lt aa)⟩,de,cV a4 hm.size⟩
 have init:P 0 (sd3 f d 3) dL:=by
  rw[hP];refine⟨⟨F0,hsJ _ _ _ _ hJ0 (Below.mono xW aa) λi hi=>xW.heap (yQ _ _ _ hJ0 i hi),λi hi=>?_⟩,⟨q0.ext xW,q1.ext xW,q2.ext xW⟩,r14.ext (dc.tr gG),ak _⟩;rw[hK]at hi;have hF:∀i,F0 i->i<W.heap.size:=λi hi=>yQ _ _ _ hJ0 i hi
  rcases hi with hi|hi|hi|hi|hi|hi
  ·exact⟨(hRd i (.inl hi)).1,aa⟩
  ·exact⟨(hRd i (.inr (.inl hi))).1,aa⟩
  ·exact⟨(hRd i (.inr (.inr hi))).1,aa⟩
  ·exact⟨λq=>by have:=hF i q;omega,aa⟩
  ·exact⟨λq=>by have:=hF i q;omega,aa⟩
  ·exact⟨λq=>by have:=hF i q;omega,aa⟩
 have round:∀{k:Nat}{s:S3}{wr:World}{x:LV},(trX f d r)[k]? =some x->P k s wr->bu Tryz.prog y x wr λe w'=>((e=true/\P (k+1) s w')\/(e=false/\∃F',Jx () F' w'))/\w'.heap[dA.heap.size]? =wr.heap[dA.heap.size]?/\w'.heap[jE.heap.size]? =wr.heap[jE.heap.size]? :=λ{k s wr x} hx h=>by
  rw[hP]at h⊢;obtain⟨⟨F,hJ,hk⟩,⟨a0,a1,a2⟩,a3,a4⟩:=h;have kk:∀i,(i=g\/i=g+1\/i=g+2\/i=w6.heap.size\/i=dA.heap.size\/i=jE.heap.size)->K i:=λi hi=>by rw[hK];exact hi
  refine bJ (hround _ _ _ _ hx hJ) ?_;rintro e w' (⟨rfl,F2,WH,gm⟩|⟨rfl,F2,WH,gm⟩)
  ·have same:∀i,K i->w'.heap[i]? =wr.heap[i]? :=λi hi=>gm.same i (hk i hi).2 (hk i hi).1
   refine⟨.inl ⟨rfl,⟨F2,WH,λi hi=>⟨λhf=>?_,gK (hk i hi).2 gm.size⟩⟩,⟨a0.same (same _ (kk _ bo)),a1.same (same _ (kk _ bo)),a2.same (same _ (kk _ bo))⟩,a3.same (same _ (kk _ bo)),cV a4 gm.size⟩,same _ (kk _ bo),same _ (kk _ bo)⟩;rcases gm.sub i hf with hf|hf
   ·exact(hk i hi).1 hf
   ·have:=(hk i hi).2;omega
  ·have same:∀i,K i->w'.heap[i]? =wr.heap[i]? :=λi hi=>gm.same i (hk i hi).2 (hk i hi).1
   exact⟨.inr ⟨rfl,F2,WH⟩,same _ (kk _ bo),same _ (kk _ bo)⟩
 have fin:∀{s:S3}{wr:World},P (trX f d r).length s wr->∃F',J (trX f d r).length F' wr:=λh=>by rw[hP]at h;obtain⟨⟨F,hJ,-⟩,-⟩:=h;exact⟨F,hJ⟩
 have rowL:∀{k:Nat}{s:S3}{wr:World},P k s wr->Row wr w6 (Ej s) TP:=λh=>by rw[hP]at h;exact h.2.2.1
 have rowD:∀{k:Nat}{s:S3}{wr:World},P k s wr->Row wr (g+1) (eV d) iq:=λh=>by rw[hP]at h;exact h.2.1.2.1
 have rowR:∀{k:Nat}{s:S3}{wr:World},P k s wr->Row wr (g+2) [r] 3:=λh=>by rw[hP]at h;exact h.2.1.2.2
 have hz:∀{k:Nat}{s:S3}{wr:World},P k s wr->dL.heap.size<=wr:=λh=>by rw[hP]at h;exact h.2.2.2
 have hxs:trX f d r=(goK d (ba f) r (3*r.toNat+2) (sd3 f d 3) (ba f,-1,0)).map λh=>[hiV h]:=rfl
 generalize trX f d r=xs at*;have hbegin:=Kx f d hd;generalize Er:ba f=c0 at*;refine⟨λn a b c z fc tm wr=>∃(k:Nat)(s:S3),P k s wr/\k+n=3*r.toNat+2/\wY d c0 k s (a,b,c)/\z=0/\∃pre:List (LV),pre.length=k/\xs=pre++(goK d c0 r n s ((a,b,c),fc,tm)).map λh=>[hiV h],⟨3*r.toNat+2,rfl,0,sd3 f d 3,init,aa,hbegin,rfl,[],rfl,hxs⟩,?_⟩;rintro n us a b c z fc tm wr ⟨k,s,hp,Wb,hro,rfl,pre,S7,hx⟩;have zr:=hz hp;refine⟨_,(rowR hp).at 0 rfl,(N2 c0 (a,b,c) r wr).bf λtH nC=>?_⟩;have Te:=ext hp nC;refine⟨_,rfl,nC.k,nC.k,Br.mk (λhw=>?_) (λhw=>?_)⟩
 ·have H6:=aaK hro aa aa hw;obtain⟨n,rfl⟩:∃n',n=n'+1:=⟨n-1,aa⟩;have hgo:goK d c0 r (n+1) s ((a,b,c),fc,tm)=((a,b,c),fc,tm)::(match iU d s ((a,b,c),fc,tm)with|none=>[]|some q=>goK d c0 r n q.1 q.2):=by
   show(if mK c0 (a,b,c) r=true then _ else _)=_;rw[if_pos hw]
   all_goals (cases iU d s ((a,b,c),fc,tm)<;>rfl)
  rw[hgo]at hx;have hxk:xs[k]? =some [hiV ((a,b,c),fc,tm)]:=by rw[hx,pO aa,S7,Nat.sub_self];rfl
  refine bJ (round hxk Te) ?_;rintro e nT ⟨hcase,k1,k2⟩;rcases hcase with⟨rfl,atX⟩|⟨rfl,hJx⟩
  ·refine⟨true,rfl,k1,k2,Br.mk (λq=>by cases q) (λ_=>?_)⟩;have z40:=hz atX;refine⟨λm i at_ wr=>∃j:Nat,i=j/\j+m=3/\at_=eM s j/\P (k+1) s wr,⟨3,rfl,rfl,0,rfl,rfl,rfl,atX⟩,?_⟩;rintro m us i at_ Yi ⟨j,rfl,hjm,rfl,WG⟩;have z2:=hz WG;have haj:eM s j<j\/eM s j=0:=NJ s j;apply Br.mk<;>intro hc
   ·have hc:=eK hc;have hj3:j=0\/j=1\/j=2:=by omega
    have Ou:eM s j=0\/eM s j=1\/eM s j=2:=by omega
    have hpd:=ext WG (Ext.dr Yi);have zd:=nV Yi;refine⟨aa,aa,_,_,pU (rowL hpd) hj3,aa,aa,_,_,pU (rowL hpd) Ou,(RW (iz s j) (iz s (eM s j)) Yi.drew).bf λw53 lU=>?_⟩;have atY:=ext hpd lU;have wk:=nE (j:=j);refine⟨_,rfl,lU.k,lU.k,Br.mk (λq=>⟨m-1,aa,rfl,rfl,j+1,wk,aa,?_,atY⟩) (λq=>⟨m-1,aa,rfl,rfl,j+1,wk,aa,?_,atY⟩)⟩
    ·show((j:Nat):Int)=((if RV (iz s j) (iz s (eM s j))=true then j else eM s j:Nat):Int);rw[if_pos q]
    ·show((eM s j:Nat):Int)=((if RV (iz s j) (iz s (eM s j))=true then j else eM s j:Nat):Int);rw[if_neg (by rw[q];decide)]
   ·have hc:=eK hc;have:j=3:=by omega
    subst this;have Ou:=at3 s;have hside:=Rm hro Ou;have hnx:iU d s ((a,b,c),fc,tm)=if(iz s (eM s 3)).2=0 then none else some (KG s (eM s 3) ((iz s (eM s 3)).1+65536,(iz s (eM s 3)).2),(nbN (a,b,c) (if dj d (eM s 3)>0 then 2*eM s 3+1 else 2*eM s 3),(if dj d (eM s 3)>0 then 2*(eM s 3:Int)else 2*(eM s 3:Int)+1),(iz s (eM s 3)).1*65536/(iz s (eM s 3)).2)):=rfl;have ab9:=λq (h:iU d s ((a,b,c),fc,tm)=some q)=>Rl hro h
    have hdd:=hd (eM s 3) aa;generalize eM s 3=A at*;refine⟨aa,aa,_,ldB (rowL WG) Ou,Br.mk (λq=>?_) (λq=>?_)⟩
    ·have q:=eK q;rw[hnx,if_pos q]at hx;have:xs.length=k+1:=by rw[hx];simp[S7]
     rw[<-this]at WG;exact⟨⟨_,rfl⟩,.inl (fin WG)⟩
    ·have q:=eK q;rw[if_neg q]at hnx;rw[hnx]at hx;have ab9:=ab9 _ hnx;obtain⟨s1,s2,s3,s4⟩:=hside;have s2':0<=(iz s A).1/\(iz s A).1<=20000000:=by omega
     have hsp:0<(iz s A).2/\(iz s A).2<=1048576:=by unfold yh at s1;omega
     have hpd:=ext WG (Ext.dr Yi);have zd:=nV Yi;refine⟨aa,aa,_,ldA (rowL hpd) Ou,aa,aa,_,ldB (rowL hpd) Ou,(aeU _ _ aa hsp Yi.drew).bf λvQ Fa=>?_⟩;have akj:=ext hpd Fa;have z58:=hz akj;obtain⟨p1,p2⟩:=amu (rowL akj) Ou (aC ((iz s A).1+65536));refine⟨_,_,rfl,Fa.k,Fa.k,aa,aa,_,ldA (rowL akj) Ou,aa,aa,⟨rfl,p1⟩,?_,?_,λjU e62=>?_⟩
     ·rw[cB];exact qu aa
     ·rw[cB];exact qu aa
     obtain⟨q1,q2⟩:=p2 jU e62;rw[aL (n:=(iz s A).1+65536) inO]at q1;have apt:=ub akj q2 (.inl rfl) q1;have z62:=hz apt;refine⟨_,_,_,Lo.wv (rowD apt),(cW d A jU).bf λvR rG=>?_⟩;have apu:=ext apt rG;have z66:=hz apu;have hwide:fh (a,b,c):=by unfold mK sS at hw;obtain⟨-,Ik⟩:=hro;unfold yh at Ik;unfold fh;simp only at Ik⊢;omega
     have w1:aC (2*(A:Int))=2*(A:Int):=wI;have w2:aC (2*(A:Int)+1)=((2*A+1:Nat):Int):=by rw[wI];omega
     have w3:aC (2*(A:Int)+0)=((2*A:Nat):Int):=by rw[wI];omega
     have w4:aC (((2*A+1:Nat):Int)-1)=2*(A:Int):=by rw[wI];omega
     have w5:aC (((2*A+1:Nat):Int)-0)=2*(A:Int)+1:=by rw[wI];omega
     rw[w1,w2,w3,w4,w5];have hxx:∀y:List Hi,xs=pre++(((a,b,c),fc,tm)::y).map (λh=>[hiV h])->xs=(pre++[[hiV ((a,b,c),fc,tm)]])++y.map λh=>[hiV h]:=λy h=>by rw[h];simp
     refine⟨_,rfl,rG.k,rG.k,Br.mk (λhq=>(jt (a,b,c) hwide vR).mono ?_) (λhq=>(jt (a,b,c) hwide vR).mono ?_)⟩
     ·have hq:=eK hq;rw[if_pos hq,if_pos hq]at hx ab9;rintro e E8 ⟨rfl,vT⟩;have OP:=ext apu vT;have z68:=hz OP;refine⟨_,_,_,_,_,_,_,_,_,_,_,_,_,_,_,_,_,_,rfl,vT.k,vT.k,⟨aa,aa⟩,_,_,_,X3 (a,b,c) (j:=2*A+1) aa,λrF e90=>?_⟩;have hm:=sT e90;refine⟨n,aa,rfl,k+1,_,ub OP hm (.inr rfl) ((rowL OP).same (hm.same _ (rowL OP).lt aa)),aa,ab9,rfl,pre++[[hiV ((a,b,c),fc,tm)]],by simp[S7],hxx _ hx⟩
     ·have hq:=eK hq;rw[if_neg hq,if_neg hq]at hx ab9;rintro e E8 ⟨rfl,vT⟩;have OP:=ext apu vT;have z68:=hz OP;refine⟨_,_,_,_,_,_,_,_,_,_,_,_,_,_,_,_,_,_,rfl,vT.k,vT.k,⟨aa,aa⟩,_,_,_,X3 (a,b,c) (j:=2*A) aa,λrF e90=>?_⟩;have hm:=sT e90;refine⟨n,aa,rfl,k+1,_,ub OP hm (.inr rfl) ((rowL OP).same (hm.same _ (rowL OP).lt aa)),aa,ab9,rfl,pre++[[hiV ((a,b,c),fc,tm)]],by simp[S7],hxx _ hx⟩
  ·exact⟨false,rfl,k1,k2,Br.mk (λ_=>⟨⟨_,rfl⟩,.inr hJx⟩) (λq=>by cases q)⟩
 ·have hgo:goK d c0 r n s ((a,b,c),fc,tm)=[]:=by
   cases n with
   |zero=>rfl
   |succ n=>
    show(if mK c0 (a,b,c) r=true then _ else _)=_;rw[if_neg (by rw[hw];decide)]
  rw[hgo]at hx;have:xs.length=k:=by rw[hx];simp[S7]
  rw[<-this]at Te;exact⟨⟨_,rfl⟩,.inl (fin Te)⟩
def X9{α:Type}(p:α->Bool):∀(l:List α)(n:Nat)(x:α),l[n]? =some x->(∀y∈l.take n,p y=false)->p x=true->l.find? p=some x
 | [],n,x,h,_,_=>by simp at h
 |a::l,0,x,h,_,hp=>by
  have h:a=x:=by simpa using h
  subst h;rw[List.find?_cons_of_pos hp]
 |a::l,n+1,x,h,hn,hp=>by have ha:p a=false:=hn a bo;rw[List.find?_cons_of_neg (by rw[ha];decide)];exact X9 p l n x (by simpa using h) (λy hy=>hn y (by simp[hy])) hp
def nt(r:Int):Int:=min (max r 0) 64
def VM(f d:Ce)(r:Int)(w:World):ab 252 #[fQ f,fQ d,r] w λe w'=>e=(arh w)/\Row w' w (eV (eN f)) iq/\Row w' (w.heap.size+1) (eV (j9 d)) iq/\Row w' (w.heap.size+2) [(nt r)] 3/\Ext w w':=by
 apply ZP.vc;intro w0 e0 w1 e1 w2 e2;have x0:=aU e0;have z0:=zA e0;have r0:Row w0 w (eV f) iq:=Row.nw e0;have x1:=aU e1;have z1:=zA e1;have r1:Row w1 w0 (eV d) iq:=Row.nw e1;have x2:=aU e2;have z2:=zA e2;have r2:Row w2 w1 [r] 3:=Row.nw e2;have xd:=Ext.dr w2;have zd:=nV w2;refine(aaU f w2.drew).bf λw3 x3=>?_
 have z3:=x3.size;refine⟨_,_,_,rfl,x3.k,x3.k,x3.k,Lo.wv (r2.ext (xd.tr x3)),Lo.wv (r1.ext (x2.tr (xd.tr x3))),(aaV d w3).bf λw7 x7=>?_⟩;have z7:=x7.size;have y7:=xd.tr (x3.tr x7);have r27:=r2.ext y7;refine⟨_,_,_,rfl,x7.k,x7.k,x7.k,Lo.wv r27,λbE A8=>?_⟩;have r0':Row bE w (eV (eN f)) iq:=by rw[A8];exact Row.set (r0.ext (x1.tr (x2.tr y7))) [_,_,_]
 have r1':Row bE w0 (eV d) iq:=(r1.ext (x2.tr y7)).same (by rw[A8];exact setRow_other _ _ _ _ aa);have r2':Row bE w1 [r] 3:=r27.same (by rw[A8];exact setRow_other _ _ _ _ aa);have bS:Ext w bE:=(x0.tr (x1.tr (x2.tr y7))).af A8 (ak _);refine⟨Lo.wv r2',λbN ui=>?_⟩;have s1:Row bN w0 (eV (j9 d)) iq:=by rw[ui];exact Row.set r1' [_,_,_]
 have s0:=r0'.so ui;have s2:=r2'.so ui;have cr:Ext w bN:=bS.af ui aa;refine⟨Lo.wv s2,λbw Dz=>?_⟩;have er:(if 64<(if 0>r then 0 else r)then 64 else(if 0>r then 0 else r))=nt r:=by
  unfold nt
  repeat' split
  all_goals omega
 rw[er]at Dz;have t2:Row bw w1 [(nt r)] 3:=s2.st Dz;have t0:=s0.so Dz;have t1:=s1.so Dz;rw[z0]at t1;rw[z1,z0]at t2;exact⟨by rw[z1,z0],t0,t1,t2,cr.af Dz aa⟩
abbrev Rr:=Ce×Int×Int×Int
abbrev htV(h:Rr):Value:=.agg #[h.1.1,h.1.2.1,h.1.2.2,h.2.1,h.2.2.1,h.2.2.2]
def lh(V:Ce->Int)(f d:Ce)(r:Int):Rr×Bool:=
 match (lj (eN f) (j9 d) (nt r)).find? (λh=> !mN (V h.1))with
 |some h=>((h.1,V h.1,h.2.1,h.2.2),true)
 |none=>(((0,0,0),0,0,0),false)
def abl{v:Value}{V:Ce->Int}{w:World}(hV:Tl v V w)(hv:kq v=[])(f d:Ce)(r:Int)(hf:(-1900000000<=(ba (eN f)).1/\(ba (eN f)).1<=1900000000)/\(-1900000000<=(ba (eN f)).2.1/\(ba (eN f)).2.1<=1900000000)/\-1900000000<=(ba (eN f)).2.2/\(ba (eN f)).2.2<=1900000000)
  (hok:∀h∈lj (eN f) (j9 d) (nt r),pQ h.1):
  ed 191 #[v,fQ f,fQ d,r] w (Value.tuple #[htV (lh V f d r).1,.bool (lh V f d r).2]):=by
 apply ad1.vc;rw[hv,uj];intro w0 e0 w1 e1 w2 e2 w3 e3 w4 e4;have x0:=aU e0;have z0:=zA e0;have x1:=aU e1;have z1:=zA e1;have x2:=aU e2;have z2:=zA e2;have x3:=aU e3;have z3:=zA e3;have x4:=aU e4;have z4:=zA e4;have E9:=x0.tr (x1.tr (x2.tr (x3.tr x4)));refine(VM f d r w4).mono ?_;rintro e w5 ⟨rfl,t0,t1,t2,x5⟩;have z5:=x5.size;have l5:=t2.lt;have Yt:=E9.tr x5;have hdd:∀i:Nat,i<3-> -1048576<=dj (j9 d) i/\dj (j9 d) i<=1048576:=λi hi=>by
  have hc:∀n,-1048576<=wZ n/\wZ n<=1048576:=λn=>by unfold wZ;omega
  have:i=0\/i=1\/i=2:=by omega
  rcases this with rfl|rfl|rfl<;>exact hc _
 have hrr:0<=nt r/\nt r<=64:=by unfold nt;omega
 have hcast:lh V f d r=match (lj (eN f) (j9 d) (nt r)).find? (λh=> !mN (V h.1))with
  |some h=>((h.1,V h.1,h.2.1,h.2.2),true)
  |none=>(((0,0,0),0,0,0),false):=rfl
 have last:∀{w6 w7:World},Mod (λi=>i=w2.heap.size\/i=w3.heap.size\/w5.heap.size<=i) w5 w6->Rec w5 w6 w7->Ext w w7:=λhm hr=>by
  have hx:=hm.ext Yt λi hi=>by have:=Yt.size;omega
  exact(Mod.oX hr).ext hx λi hi=>by have:=Yt.size;omega
 refine⟨_,rfl,x5.k,x5.k,x5.k,x5.k,x5.k,trX (eN f) (j9 d) (nt r),λi=>i=w4.heap.size\/i=w4.heap.size+1\/i=w4.heap.size+2,λ_=>False,
  λn F a b c q s t bb w'=>(∀i,¬F i)/\(∀h∈(lj (eN f) (j9 d) (nt r)).take n,(!mN (V h.1))=false)/\Mod (λi=>w5.heap.size<=i) w5 w',
  λo F a b c q s t bb w'=>(∀i,¬F i)/\lh V f d r=(((a,b,c),q,s,t),bb)/\Mod (λi=>i=w2.heap.size\/i=w3.heap.size\/w5.heap.size<=i) w5 w',?_,?_,?_,λn F a b c q s t bb w' h i hi=>(h.1 i hi).elim,λo F a b c q s t bb w' h i hi=>(h.1 i hi).elim,λi hi=>?_,λue vt=>?_,?_,?_,?_⟩
 ·intro x hx;obtain⟨c,-,rfl⟩:=bc.1 hx;exact⟨_,_,_,_,_,_,rfl⟩
 ·rintro n F a b c q s t bb di dh ⟨h1,h2,h3⟩ kQ -;exact⟨h1,h2,h3.tr ⟨kQ.os,kQ.tape,kQ.output,kQ.size,λi hi hn=>kQ.block i (C6 hn)⟩ λi hi=>.inl hi⟩
 ·rintro o F a b c q s t bb di dh ⟨h1,h2,h3⟩ kQ -;exact⟨h1,h2,h3.tr ⟨kQ.os,kQ.tape,kQ.output,kQ.size,λi hi hn=>kQ.block i (C6 hn)⟩ λi hi=>.inl (.inr (.inr hi))⟩
 ·exact⟨aa,id,aa,aa,aa,aa,aa,trivial⟩
 ·exact⟨VF _ _ _ hf hdd hrr _ ue (t0.same (vt.ext.block _ aa)) (t1.same (vt.ext.block _ aa)) (t2.same (vt.ext.block _ aa)),rfl,rfl,rfl,λi h=>h,λc hc=>by simp at hc,Mod.aq vt.ext⟩
 ·rintro n F us a0 b0 c0 q0 s0 t0' bb a b c q s t yC hx hI vQ e58 pH TX;have Iv:Ext yC pH:=(aU e58).af TX (ak _);have z59:pH.heap.size=yC.heap.size+1:=by rw[zR TX,zA e58]
  have z56:=hI.2.2.size;refine⟨Iv,λnv fL agC=>?_⟩;obtain⟨hF,lp,hM⟩:=agC;have zr:=fL.size;obtain⟨h,hh,hval⟩:∃h:Hi,(lj (eN f) (j9 d) (nt r))[n]? =some h/\(a,b,c)=h.1/\q=0/\s=h.2.1/\t=h.2.2:=by
   rw[aW]at hx
   cases hg:(lj (eN f) (j9 d) (nt r))[n]? with
   |none=>rw[hg]at hx;cases hx
   |some h=>
    rw[hg]at hx;simp at hx;obtain⟨g1,g2,g3,g4,g5,g6⟩:=hx;exact⟨h,rfl,by rw[<-g1,<-g2,<-g3],g4.symm,g5.symm,g6.symm⟩
  obtain⟨hc,rfl,rfl,rfl⟩:=hval;have pL:=aQ hh;have aBu:pQ (a,b,c):=by rw[hc];exact hok h pL
  have z57:=hM.size;have ht:(lj (eN f) (j9 d) (nt r)).take (n+1)=(lj (eN f) (j9 d) (nt r)).take n++[h]:=by rw[dq,hh];rfl
  obtain⟨D,hD1,hD2⟩:=hV;refine bJ (hD2 nv (λi hi=>?_) (a,b,c) aBu) ?_
  ·have:=hD1 i hi;have:=Yt.size;exact(hM.same i aa aa).trans (Yt.k)
  rintro e lV ⟨rfl,qF⟩;have z60:=qF.size;refine⟨_,rfl,qF.k,qF.k,qF.k,qF.k,qF.k,qF.k,(Du (V (a,b,c)) lV).bf λjU aBv=>?_⟩;subst aBv;have Tu:=hM.trans (Mod.aq qF);refine⟨_,rfl,rfl,rfl,rfl,rfl,rfl,rfl,Br.mk (λhq=>λH4 e64 O3 e65 vR e66=>?_) (λhq=>?_)⟩
  ·have hq':(!mN (V h.1))=true:=by rw[<-hc];exact hq
   have hfd:=X9 (λh:Hi=> !mN (V h.1)) _ n h hh lp hq';have hcast:lh V f d r=((h.1,V h.1,h.2.1,h.2.2),true):=by rw[hcast,hfd]
   have m1:=sT e64;have m2:=sT e65;have m3:=sT e66;have s1:=m1.size;have s2:=m2.size;have m:Mod (λi=>i=w2.heap.size\/i=w3.heap.size\/i=yC.heap.size) jU vR:=((m1.mono λi _ h=>.inr (.inr h)).trans (m2.mono λi _ h=>.inl h)).trans (m3.mono λi _ h=>.inr (.inl h));refine⟨rfl,λ_=>False,⟨rfl,rfl,rfl,λi h=>h,by rw[hcast,hc],(Tu.mono λi _ h=>.inr (.inr h)).trans (m.mono λi _ h=>?_)⟩,?_⟩
   ·rcases h with h|h|h
    ·exact .inl h
    ·exact .inr (.inl h)
    ·exact .inr (.inr aa)
   ·have hm:=(Mod.aq (F:=λi=>i=w2.heap.size\/i=w3.heap.size\/i=yC.heap.size) qF).trans m;refine⟨λi hi=>?_,hm.size,λi hi hn=>hm.same i hi λq=>hn ?_⟩
    ·rcases hi with h|h
     ·exact h.elim
     ·exact .inl (.inl (.inr h))
    ·rcases q with rfl|rfl|rfl
     ·exact .inl (.inr bo)
     ·exact .inl (.inr bo)
     ·exact .inr (ak _)
  ·have hq':(!mN (V h.1))=false:=by rw[<-hc];exact hq
   refine⟨λ_=>False,⟨rfl,rfl,rfl,λi h=>h,λx hx=>?_,Tu⟩,Step.late ⟨λi hi=>?_,qF.size,λi hi _=>qF.block i hi⟩⟩
   ·rw[ht,dp]at hx;rcases hx with hx|hx
    ·exact lp x hx
    ·rw[ig.1 hx];exact hq'
   ·rcases hi with h|h
    ·exact h.elim
    ·exact .inl (.inr h)
 ·rintro F us a b c q s t bb Iu ⟨hF,lp,hM⟩ hD sZ akf Jt aus;have z99:=hM.size;rw[show(trX (eN f) (j9 d) (nt r)).length=(lj (eN f) (j9 d) (nt r)).length from aK ..,kB]at lp;have hfd:(lj (eN f) (j9 d) (nt r)).find? (λh=> !mN (V h.1))=none:=QC.2 λx hx=>by rw[lp x hx];decide
  have hcast:lh V f d r=(((0,0,0),0,0,0),false):=by rw[hcast,hfd]
  have m1:=sT akf;have m2:=sT aus;have s1:=m1.size;have m:=(hM.mono (F':=λi=>i=w2.heap.size\/i=w3.heap.size\/w5.heap.size<=i) λi _ h=>.inr (.inr h)).trans ((m1.mono λi _ h=>.inl h).trans (m2.mono λi _ h=>.inr (.inl h)));refine⟨?_,λapb fL=>?_⟩
  ·rw[<-hD,aus,setRow_other _ _ _ _ aa,akf,setRow_other _ _ _ _ aa]
  ·rw[hcast];exact⟨rfl,last m fL⟩
 ·rintro F us a b c q s t bb Bh ⟨hF,hcv,hM⟩ hD;refine⟨hD,λWy fL=>?_⟩;rw[hcv];exact⟨rfl,last hM fL⟩
abbrev uw:TypeId:=64
abbrev j7:TypeId:=103
abbrev cQ:=eJ×(Int×Int×Bool)
abbrev lCs:=List (Option cQ)
abbrev Gf(x:cQ):LV:=[vI x.1.aw.1,vI x.1.aw.2.1,vI x.1.aw.2.2,vI x.1.speed.1,vI x.1.speed.2.1,vI x.1.speed.2.2,vI x.1.wd,vI x.1.ht,.bool x.1.fG,vI x.2.1,vI x.2.2.1,.bool x.2.2.2]
abbrev pA(a:Option Nat):Value:=.pointer (a.map λb=>⟨b,0,none⟩)
structure EL(w:World)(av:List (Option Nat))(L:lCs):Prop where
 n:av.length=16
 m:L.length=16
 s:∀(i a:Nat),av[i]? =some (some a)->∃x,L[i]? =some (some x)/\Row w a (Gf x) j7
 z:∀i:Nat,av[i]? =some none->L[i]? =some none
 d:∀(i j a:Nat),av[i]? =some (some a)->av[j]? =some (some a)->i=j
def EF(F:Nat->Prop)(w:World)(g s o t:Nat)(M:Sm)(occ:Value)(L:lCs):Prop:=
 ∃(Fs:Nat->Prop)(av:List (Option Nat)),Row w g (.pointer (aB s)::av.map pA) uw/\SF Fs w s o t M occ/\EL w av L/\F=λi=>i=g\/Fs i\/some i∈av
abbrev dK(F:Nat->Prop)(w:World)(g s o t:Nat)(M:Sm)(occ:Value)(L:lCs)(w':World):Prop:=∃F',EF F' w' g s o t M occ L/\aJ F F' w w'
def kM:(Pe uw/\uw≠Bu/\uw≠mU/\uw≠IW/\uw≠Q.nM/\uw≠Q.cc/\uw≠rV)/\(Pe j7/\j7≠Bu/\j7≠mU/\j7≠IW/\j7≠Q.nM/\j7≠Q.cc/\j7≠rV)/\uw≠j7:=by decide
def qA{av:List (Option Nat)}{a:Nat}(h:some a∈av):∃i:Nat,av[i]? =some (some a):=JT.1 h
section
variable{F F':Nat->Prop}{w w':World}{g s o t:Nat}{M M':Sm}{occ:Value}{L:lCs}
def EL.same{av:List (Option Nat)}(h:EL w av L)(hk:∀a,some a∈av->w'.heap[a]? =w.heap[a]?):EL w' av L:=
 ⟨h.n,h.m,λi a hi=>by obtain⟨x,h1,h2⟩:=h.s i a hi;exact⟨x,h1,h2.same (hk a (aQ hi))⟩,h.z,h.d⟩
def EL.lt{av:List (Option Nat)}(h:EL w av L){a:Nat}(ha:some a∈av):a<w:=by obtain⟨i,hi⟩:=qA ha;obtain⟨x,-,h2⟩:=h.s i a hi;exact h2.lt
def EF.lt(h:EF F w g s o t M occ L){i:Nat}(hi:F i):i<w:=by
 obtain⟨Fs,av,h1,h2,h3,rfl⟩:=h;rcases hi with rfl|hi|hi
 ·exact h1.lt
 ·exact h2.lt hi
 ·exact h3.lt hi
def EF.same(h:EF F w g s o t M occ L)(hk:∀i,F i->w'.heap[i]? =w.heap[i]?):EF F w' g s o t M occ L:=by obtain⟨Fs,av,h1,h2,h3,rfl⟩:=h;exact⟨Fs,av,h1.same (hk _ (.inl rfl)),h2.same λi hi=>hk i (.inr (.inl hi)),h3.same λa ha=>hk a (.inr (.inr ha)),rfl⟩
def EF.ext(h:EF F w g s o t M occ L)(x:Ext w w'):EF F w' g s o t M occ L:=h.same λ_ hi=>x.heap (h.lt hi)
def EF.EN(h:EF F w g s o t M occ L):∃Fs,SF Fs w s o t M occ/\Vc.ld w (ae (aB g) 0)=some (.pointer (aB s))/\(∀i,Fs i->F i)/\∀{w':World}{M':Sm}{occ':Value},ni Fs w s o t M' occ' w'->dK F w g s o t M' occ' L w':=by
 obtain⟨Fs,av,h1,h2,h3,rfl⟩:=h;refine⟨Fs,h2,h1.at 0 rfl,λi hi=>.inr (.inl hi),?_⟩;rintro w' M' occ' ⟨F',h',ht⟩;have ng:¬Fs g:=h2.pX h1 kM.1.1 kM.1.2.1 kM.1.2.2.1 kM.1.2.2.2.1 kM.1.2.2.2.2.1 kM.1.2.2.2.2.2.1 kM.1.2.2.2.2.2.2;have na:∀a,some a∈av->¬Fs a:=λa ha=>by obtain⟨i,hi⟩:=qA ha;obtain⟨x,-,hr⟩:=h3.s i a hi;exact h2.pX hr kM.2.1.1 kM.2.1.2.1 kM.2.1.2.2.1 kM.2.1.2.2.2.1 kM.2.1.2.2.2.2.1 kM.2.1.2.2.2.2.2.1 kM.2.1.2.2.2.2.2.2
 refine⟨_,⟨F',av,ht.mod.row h1 ng,h',h3.same λa ha=>ht.mod.same a (h3.lt ha) (na a ha),rfl⟩,ht.mod.mono λi _ hi=>.inr (.inl hi),λi hi=>?_⟩;rcases hi with hi|hi|hi
 ·exact .inl (.inl hi)
 ·exact(ht.sub i hi).imp (λq=>.inr (.inl q)) id
 ·exact .inl (.inr (.inr hi))
def EF.row(h:EF F w g s o t M occ L):∃av,Row w g (.pointer (aB s)::av.map pA) uw/\EL w av L/\F g/\(∀a,some a∈av->F a)/\∀{w':World}{av':List (Option Nat)}{L':lCs},Mod (λi=>i=g\/some i∈av) w w'->Row w' g (.pointer (aB s)::av'.map pA) uw->EL w' av' L'->(∀a,some a∈av'->some a∈av\/w.heap.size<=a)->dK F w g s o t M occ L' w':=by
 obtain⟨Fs,av,h1,h2,h3,rfl⟩:=h;refine⟨av,h1,h3,.inl rfl,λa ha=>.inr (.inr ha),?_⟩;intro w' av' L' hm hr he dP;have ng:¬Fs g:=h2.pX h1 kM.1.1 kM.1.2.1 kM.1.2.2.1 kM.1.2.2.2.1 kM.1.2.2.2.2.1 kM.1.2.2.2.2.2.1 kM.1.2.2.2.2.2.2;have na:∀a,some a∈av->¬Fs a:=λa ha=>by obtain⟨i,hi⟩:=qA ha;obtain⟨x,-,hr⟩:=h3.s i a hi;exact h2.pX hr kM.2.1.1 kM.2.1.2.1 kM.2.1.2.2.1 kM.2.1.2.2.2.1 kM.2.1.2.2.2.2.1 kM.2.1.2.2.2.2.2.1 kM.2.1.2.2.2.2.2.2
 refine⟨_,⟨Fs,av',hr,h2.same λi hi=>hm.same i (h2.lt hi) λq=>?_,he,rfl⟩,hm.mono λi _ hi=>hi.elim .inl λq=>.inr (.inr q),λi hi=>?_⟩
 ·rcases q with rfl|q
  ·exact ng hi
  ·exact na i q hi
 ·rcases hi with hi|hi|hi
  ·exact .inl (.inl hi)
  ·exact .inl (.inr (.inl hi))
  ·exact(dP i hi).imp (λq=>.inr (.inr q)) id
def EF.tl(h:EF F w g s o t M occ L):Tl (.func (.func 113) #[t] #[]) (jc M.T.2) w:=by obtain⟨Fs,h1,-,-⟩:=h.EN;exact h1.tl
def mh(h:EF F w g s o t M occ L):kh 81 #[g] w (Value.func (.func 113) #[t] #[]):=by obtain⟨Fs,h1,h2,-,-⟩:=h.EN;obtain⟨Fw,hW,-,-⟩:=h1.world;apply xO.vc;refine⟨_,h2,(cZ h1).eL ?_⟩;refine⟨_,rfl,(lZ hW).eL ?_⟩;exact⟨_,rfl,rfl,rfl⟩
def BS(h:EF F w g s o t M occ L):kh 44 #[g] w (Value.pointer (aB s)):=by obtain⟨Fs,h1,h2,-,-⟩:=h.EN;apply zQ.vc;exact⟨_,h2,rfl,rfl⟩
def Qu(v:Ce):pQ (ba v)/\YP (pos (ba v)):=by have h:=vF v;unfold pQ cH YP Go.bW.pos;simp only;omega
abbrev BT(M:Sm)(b:eJ):Bool:=Fz M.T.2 (ba b.aw)
def C7(h:EF F w g s o t M occ L)(b:eJ):ed 79 #[g,Ip b] w (Value.bool (BT M b)):=by
 apply vZ.vc;intro w0 e0;have x0:Ext w w0.drew:=(aU e0).drew;have z0:w0.drew.heap.size=w.heap.size+1:=by show w0.heap.size=_;rw[e0];simp
 have r0:Row w0.drew w (pc b) DR:=by rw[e0];exact(Row.new w [_,_,_,_,_,_,_,_,_] _).ext (Ext.dr _)
 obtain⟨Fs,h1,h2,-,-⟩:=(h.ext x0).EN;refine⟨_,h2,(cZ h1).bf λw2 hw=>?_⟩;subst hw;refine⟨_,rfl,rfl,tP r0 rfl rfl rfl,(zH b.aw w0.drew).bf λw4 x4=>?_⟩;obtain⟨Fw,hW,-,-⟩:=(h1.ext x4).world;refine⟨_,_,_,rfl,x4.k,(CT hW (ba b.aw) (Qu _).1 (Qu _).2).bf λw8 x8=>?_⟩;have z4:=x4.size;exact⟨_,rfl,x8.k,rfl,x0.tr (x4.tr x8)⟩
end
def within(v:Ce)(m:Int):Bool:=decide (-m<=min (min v.1 v.2.1) v.2.2)&&decide (max (max v.1 v.2.1) v.2.2<=m)
def eJ.may(b:eJ):Bool:=decide (2<=b.wd)&&(decide (b.wd<=131072)&&(decide (1<=b.ht)&&(decide (b.ht<=262144)&&(within b.aw 70368744177664&&within b.speed 262144))))
def C8(v:Ce)(m:Int)(hm:0<=m/\m<=140737488355328)(w:World):ed 77 #[fQ v,m] w (Value.bool (within v m)):=by
 apply Qv.vc;intro w0 e0;have x0:=aU e0;have e1:(if v.2.2<(if v.2.1<v.1 then v.2.1 else v.1)then v.2.2 else(if v.2.1<v.1 then v.2.1 else v.1))=min (min v.1 v.2.1) v.2.2:=by
  repeat' split
  all_goals omega
 have e2:(if v.2.2>(if v.2.1>v.1 then v.2.1 else v.1)then v.2.2 else(if v.2.1>v.1 then v.2.1 else v.1))=max (max v.1 v.2.1) v.2.2:=by
  repeat' split
  all_goals omega
 have e3:aC (0-m)= -m:=by rw[wI];omega
 rw[e1,e2,e3];unfold within;apply Br.mk<;>intro h
 ·have h:=eK h;exact⟨by rw[decide_eq_true h,oU],x0⟩
 ·have h:=eK h;exact⟨by rw[decide_eq_false h,C9],x0⟩
def Gv(b:eJ)(w:World):ed 48 #[Ip b] w (Value.bool b.may):=by
 apply adR.vc;intro w0 e0;have x0:=aU e0;have z0:=fD e0;unfold eJ.may;refine Br.mk (λh1=>Br.mk (λh2=>Br.mk (λh3=>Br.mk (λh4=>(C8 b.aw _ au w0).mono ?_) (λh4=>?_)) (λh3=>?_)) (λh2=>?_)) (λh1=>?_)
 ·rintro e w1 ⟨rfl,x1⟩;have z1:=x1.size;have h1:=eK h1;have h2:=eK h2;have h3:=eK h3;have h4:=eK h4;rw[decide_eq_true h1,decide_eq_true h2,decide_eq_true h3,decide_eq_true h4];refine⟨_,rfl,x1.k,Br.mk (λh5=>(C8 b.speed _ au w1).mono ?_) (λh5=>⟨by rw[h5];rfl,x0.tr x1⟩)⟩;rintro e w3 ⟨rfl,x3⟩;exact⟨_,rfl,x3.k,by rw[h5];rfl,x0.tr (x1.tr x3)⟩
 ·have h4:=eK h4;exact⟨by rw[decide_eq_false h4];simp,x0⟩
 ·have h3:=eK h3;exact⟨by rw[decide_eq_false h3];simp,x0⟩
 ·have h2:=eK h2;exact⟨by rw[decide_eq_false h2];simp,x0⟩
 ·have h1:=eK h1;exact⟨by rw[decide_eq_false h1];simp,x0⟩
def Mu{w:World}{g:Nat}{p:Value}{av:List (Option Nat)}{τ:TypeId}(hr:Row w g (p::av.map pA) τ){k:Nat}{a:Option Nat}(ha:av[k]? =some a):Vc.ld w (ae (ae (aB g) 1) (((k:Nat):Int).toNat*1))=some (pA a):=by rw[gk,iI,zp];refine hr.at (1+k) ?_;rw[CO,Kh,aW,ha];rfl
def xz{w:World}{g:Nat}{p:Value}{av:List (Option Nat)}{τ:TypeId}(hr:Row w g (p::av.map pA) τ)(hn:av.length=16):
  kh 193 #[.slice (aE (ae (some ⟨g,0,none⟩) 1) 0 16 1) (16-0) (16-0),pno] w (vI (bK (λa:Option Nat=>a.isNone) av)):=by
 apply(Av.vc (a0:=⟨aE (ae (some ⟨g,0,none⟩) 1) 0 16 1,16-0,16-0⟩));rw[dt];refine⟨λn x wr=>∃k:Nat,x=k/\k+n=16/\wr=w/\∀j,j<k->∀y,av[j]? =some y->y.isNone=false,⟨16,0,rfl,rfl,rfl,λj hj=>by omega⟩,?_⟩;rintro n us x wr ⟨k,rfl,hk,rfl,lp⟩;apply Br.mk<;>intro hb
 ·have hb:(k:Int)<((16-0:Nat):Int):=by simpa using hb
  obtain⟨a,ha⟩:=bX (l:=av) (i:=k) aa;refine⟨⟨rfl,aa,hb⟩,_,Mu hr ha,?_⟩
  cases a with
  |none=>exact⟨congrArg (λn=>Ending.returned (vI n)) (vz ha rfl lp).symm,rfl⟩
  |some b=>
   refine bO.2 ⟨λp hp=>by rw[List.mem_singleton.1 hp],?_⟩;have wk:=nE (j:=k);refine uN rfl ⟨n-1,aa,k+1,wk,aa,rfl,λj hj y hy=>?_⟩;by_cases q:j<k
   ·exact lp j q y hy
   ·rw[show j=k from by omega,ha]at hy;rw[<-Option.some.inj hy];rfl
 ·have hb:¬(k:Int)<((16-0:Nat):Int):=by simpa using hb
  refine⟨congrArg (λn=>Ending.returned (vI n)) (mX λy hy=>?_).symm,rfl⟩;obtain⟨j,hj⟩:=List.mem_iff_getElem?.1 hy;have:=(cG.1 hj).1;exact lp j aa y hj
abbrev th(L:lCs):Int:=bK (λx:Option cQ=>x.isNone) L
section
variable{F F':Nat->Prop}{w w':World}{g s o t:Nat}{M M':Sm}{occ:Value}{L:lCs}
def EL.Ax{av:List (Option Nat)}(h:EL w av L)(i:Nat):(av[i]? =some none↔L[i]? =some none):=by
 refine⟨h.z i,λhl=>?_⟩;have hi:i<16:=by rw[<-h.m];exact(cG.1 hl).1
 obtain⟨a,ha⟩:=bX (l:=av) (i:=i) (by rw[h.n];exact hi)
 cases a with
 |none=>exact ha
 |some a=>
  obtain⟨x,hx,-⟩:=h.s i a ha;rw[hx]at hl
  cases hl
def EL.free{av:List (Option Nat)}(h:EL w av L):bK (λa:Option Nat=>a.isNone) av=th L:=by
 rcases dm (λa:Option Nat=>a.isNone) av with⟨e,lp⟩|⟨k,x,hx,hq,e,fK⟩
 ·rw[e];refine(mX λy hy=>?_).symm;obtain⟨i,hi⟩:=JT.1 hy
  cases y with
  |some y=>rfl
  |none=>
   have:=lp none (aQ ((h.Ax i).2 hi))
   cases this
 ·rw[e]
  cases x with
  |some x=>cases hq
  |none=>
   refine(vz ((h.Ax k).1 hx) rfl λj hj y hy=>?_).symm
   cases y with
   |some y=>rfl
   |none=>exact absurd (fK j hj none ((h.Ax j).2 hy)) bo
def iP(M:Sm)(L:lCs)(b:eJ):Int×Int×lCs:=
 if b.may=false then(-1,1,L)else if th L<0 then(-1,8,L)else if BT M b=false then(-1,11,L)else if j8 (jc M.T.2) b.box aD=true then(-1,12,L)
 else(th L,0,L.set (th L).toNat (some ({b with fG:=j8 (jc M.T.2) (nL b.box) aD},(0,0,false))))
abbrev nK(aw:Ce)(wd ht:Int):eJ:=⟨aw,(0,0,0),wd,ht,false⟩
def EF.res(h:EF F w g s o t M occ L)(x:Ext w w'):dK F w g s o t M occ L w':=⟨F,h.ext x,aJ.aq x⟩
def Us(h:EF F w g s o t M occ L)(aw:Ce)(wd ht:Int)(hw:cH wd):ab 132 #[.pointer (some ⟨g,0,none⟩),fQ aw,wd,ht] w λe w'=>
  e=Value.tuple #[vI (iP M L (nK aw wd ht)).1,vI (iP M L (nK aw wd ht)).2.1]/\dK F w g s o t M occ (iP M L (nK aw wd ht)).2.2 w':=by
 apply wh.vc;intro w0 e0 w1 e1 w2 e2;have x0:=aU e0;have z0:=fD e0;have x2:Ext w0 w2:=(aU e1).af e2 (ak _);have z2:=yL e1 e2;have r2:Row w2 w0 (pc (nK aw wd ht)) DR:=by rw[e2];exact Row.set (by rw[e1];exact Row.new w0 [_,_,_,_,_,_,_,_,_] _) _
 have yz:=x0.tr x2;obtain⟨av,de,jm,-⟩:=(h.ext yz).row;refine(xz de jm.n).bf λw3 Ig=>?_
 subst Ig;rw[jm.free];refine⟨_,rfl,rfl,rfl,(Gv (nK aw wd ht) w3).bf λw5 x5=>?_⟩;have z5:=x5.size;refine⟨_,rfl,x5.k,x5.k,Br.mk (λq=>?_) (λq=>Br.mk (λq2=>?_) (λq2=>(C7 (h.ext (yz.tr x5)) (nK aw wd ht)).mono ?_))⟩
 ·have q:(nK aw wd ht).may=false:=by simpa using q
  unfold iP;rw[if_pos q];exact⟨rfl,h.res (yz.tr x5)⟩
 ·have q:¬(nK aw wd ht).may=false:=by simpa using q
  have q2:th L<0:=by simpa using q2
  unfold iP;rw[if_neg q,if_pos q2];exact⟨rfl,h.res (yz.tr x5)⟩
 have q:¬(nK aw wd ht).may=false:=by simpa using q
 have q2:¬th L<0:=by simpa using q2
 unfold iP;rw[if_neg q,if_neg q2];rintro e w7 ⟨rfl,x7⟩;have z7:=x7.size;have zd7:=nV w7;have x07:=yz.tr (x5.tr x7);refine⟨_,rfl,x7.k,x7.k,Br.mk (λq3=>?_) (λq3=>(mh (h.ext (x07.drew))).mono ?_)⟩
 ·have q3:BT M (nK aw wd ht)=false:=by simpa using q3
  rw[if_pos q3];exact⟨rfl,h.res x07⟩
 have q3:¬BT M (nK aw wd ht)=false:=by simpa using q3
 rw[if_neg q3];rintro e w9 ⟨rfl,hw9⟩;subst hw9;have r9:=r2.ext ((x5.tr x7).drew);have h9:=h.ext x07.drew;refine⟨_,rfl,rfl,rfl,Lo.wv r9,(kC (nK aw wd ht) hw w7.drew).bf λbE bS=>?_⟩;have z11:=bS.size;refine⟨_,_,_,_,_,_,rfl,bS.k,bS.k,(sC (h9.ext bS).tl rfl (nK aw wd ht).box).bf λdA dc=>?_⟩;have z18:=dc.size;have Wz:=x07.drew.tr (bS.tr dc);refine⟨_,rfl,dc.k,dc.k,Br.mk (λq4=>?_) (λq4=>(mh (h.ext Wz.drew)).mono ?_)⟩
 ·rw[if_pos q4];exact⟨rfl,h.res Wz⟩
 rw[if_neg (by rw[q4];decide)];rintro e eQ ⟨rfl,azr⟩;subst azr;have r20:=r9.ext ((bS.tr dc).drew);have h20:=h.ext Wz.drew;have aGS:=nV dA;refine⟨_,rfl,rfl,rfl,Lo.wv r20,(kC (nK aw wd ht) hw dA.drew).bf λdh fX=>?_⟩;have z22:=fX.size;refine⟨_,_,_,_,_,_,rfl,fX.k,fX.k,(qd (h20.ext fX).tl rfl (nK aw wd ht).box).bf λgI kz=>?_⟩;have z29:=kz.size;have atm:=Wz.drew.tr (fX.tr kz);refine⟨_,rfl,kz.k,kz.k,λia e31 sY e32=>?_⟩;generalize gm:j8 (jc M.T.2) (nL (nK aw wd ht).box) aD=st at*;have oO:Ext w ia.drew:=(atm.af e31 (by omega)).drew;have z31:ia.drew.heap.size=gI.heap.size:=by show ia.heap.size=_;rw[e31,setRow_size]
 have mP:Ext w sY:=oO.aZ e32;have z32:sY.heap.size=gI.heap.size+1:=by rw[e32];simp[z31]
 have r32:Row sY ia.drew.heap.size (Gf ({nK aw wd ht with fG:=st},(0,0,false))) j7:=Row.nw e32;obtain⟨av,hrow0,hel0,hFg,hFa,bq⟩:=h.row;have de:=hrow0.ext mP;have jm:=hel0.same (w':=sY) λa ha=>mP.heap (hel0.lt ha)
 have hgl:=h.lt hFg;have Le:=jm.free;obtain⟨k,hk,hkL,hka⟩:∃k:Nat,th L=k/\L[k]? =some none/\av[k]? =some none:=by
  rcases dm (λx:Option cQ=>x.isNone) L with⟨e,-⟩|⟨k,x,hx,hq,e,-⟩
  ·exact absurd (show th L= -1 from e) (by omega)
  ·cases x with
   |some x=>cases hq
   |none=>exact⟨k,e,hx,(jm.Ax k).2 hx⟩
 have EG:k<16:=by rw[<-jm.m];exact(cG.1 hkL).1
 rw[hk];have hpb:bM (ae (ae (some ⟨g,0,none⟩) 1) (((k:Nat):Int).toNat*1))=some g:=by rw[cB,cB];rfl
 obtain⟨p1,p2⟩:=de.ft (j:=1+k) (v:=.pointer (some ⟨ia.drew.heap.size,0,none⟩)) (by simp[jm.n];omega) rfl;have Eu:ae (ae (some ⟨g,0,none⟩) 1) (((k:Nat):Int).toNat*1)=ae (some ⟨g,0,none⟩) (1+k):=by rw[gk,iI,Nat.mul_one]
 have hgn:g<w:=hgl;rw[hpb];refine⟨aa,aa,⟨rfl,by rw[Eu];exact p1⟩,λq=>by have:=Option.some.inj q;omega,λq=>by have:=Option.some.inj q;omega,λq=>by have:=Option.some.inj q;omega,λjV e33=>⟨rfl,?_⟩⟩;rw[Eu]at e33;obtain⟨q1,q2⟩:=p2 jV e33;have q1:Row jV g (.pointer (some ⟨s,0,none⟩)::(av.set k (some ia.drew.heap.size)).map pA) uw:=by
  have e:putCells (Value.pointer (some ⟨s,0,none⟩)::av.map pA) (1+k) [.pointer (some ⟨ia.drew.heap.size,0,none⟩)]=.pointer (some ⟨s,0,none⟩)::(av.set k (some ia.drew.heap.size)).map pA:=by show(Value.pointer (some ⟨s,0,none⟩)::av.map pA).set (1+k) _=_;rw[Nat.add_comm,List.set_cons_succ,List.map_set];rfl
  rw[<-e];exact q1
 have halt:∀a,some a∈av->a<w.heap.size:=λa ha=>h.lt (hFa a ha)
 have gl:∀a,some a∈av->a≠g:=λa ha q=>by subst q;obtain⟨i,hi⟩:=qA ha;obtain⟨x,-,hr⟩:=jm.s i a hi;exact de.ne hr kM.2.2 rfl
 have oD:∀(i a:Nat),(av.set k (some ia.drew.heap.size))[i]? =some (some a)->(i=k/\a=ia.drew.heap.size)\/(i≠k/\av[i]? =some (some a)):=λi a hi=>by
  by_cases q:i=k
  ·subst q;rw[uA (by rw[jm.n];exact EG)]at hi;exact .inl ⟨rfl,(Option.some.inj (Option.some.inj hi)).symm⟩
  ·rw[List.getElem?_set_ne (Ne.symm q)]at hi;exact .inr ⟨q,hi⟩
 have hE:EL jV (av.set k (some ia.drew.heap.size)) (L.set k (some ({nK aw wd ht with fG:=st},(0,0,false)))):=by
  refine⟨by rw[lO];exact jm.n,by rw[lO];exact jm.m,λi a hi=>?_,λi hi=>?_,λi j a hi hj=>?_⟩
  ·rcases oD i a hi with⟨rfl,rfl⟩|⟨q,hi'⟩
   ·refine⟨_,uA (by rw[jm.m];exact EG),r32.same (q2.same _ (by omega) (by omega))⟩
   ·obtain⟨x,hx,hr⟩:=jm.s i a hi';exact⟨x,by rw[List.getElem?_set_ne (Ne.symm q)];exact hx,hr.same (q2.same _ hr.lt (gl a (aQ hi')))⟩
  ·by_cases q:i=k
   ·subst q;rw[uA (by rw[jm.n];exact EG)]at hi
    cases hi
   ·rw[List.getElem?_set_ne (Ne.symm q)]at hi⊢;exact jm.z i hi
  ·rcases oD i a hi with⟨rfl,rfl⟩|⟨q,hi'⟩
   ·rcases oD j _ hj with⟨rfl,-⟩|⟨q',hj'⟩
    ·rfl
    ·have:=halt _ (aQ hj');omega
   ·rcases oD j a hj with⟨rfl,rfl⟩|⟨q',hj'⟩
    ·have:=halt _ (aQ hi');omega
    ·exact jm.d i j a hi' hj'
 exact bq ((Mod.aq mP).trans (q2.mono λi _ hi=>.inl hi)) q1 hE λa ha=>by
  obtain⟨i,hi⟩:=qA ha;rcases oD i a hi with⟨-,rfl⟩|⟨-,hi'⟩
  ·have:=atm.size;exact .inr (by omega)
  ·exact .inl (aQ hi')
end
section
variable{F F':Nat->Prop}{w w':World}{g s o t:Nat}{M M':Sm}{occ:Value}{L:lCs}
def E0{p:Value}{av:List (Option Nat)}{τ:TypeId}(hr:Row w g (p::av.map pA) τ)(hn:av.length=16)(n:Int):
  ab 76 #[g,n] w λe w'=>∃a:Option Nat,e=(pA a)/\w'=w/\((∃k:Nat,n=k/\k<16/\av[k]? =some a)\/¬(0<=n/\n<16)/\a=none):=by
 apply Cp.vc;refine Br.mk (λh=>⟨none,rfl,rfl,.inr ⟨?_,rfl⟩⟩) (λh=>Br.mk (λh2=>⟨none,rfl,rfl,.inr ⟨?_,rfl⟩⟩) (λh2=>?_))
 ·have h:=eK h;omega
 ·have h2:=eK h2;omega
 ·have h:=eK h;have h2:=eK h2;obtain⟨k,rfl⟩:∃k:Nat,n=k:=⟨n.toNat,aa⟩;obtain⟨a,ha⟩:=bX (l:=av) (i:=k) aa;exact⟨aa,aa,_,Mu hr ha,a,rfl,rfl,.inl ⟨k,rfl,aa,ha⟩⟩
def cE(L:lCs)(n:Int):Option cQ:=if 0<=n then(L[n.toNat]?).join else none
def zB(L:lCs)(n:Int):Int×lCs:=if(cE L n).isNone then(6,L)else(0,L.set n.toNat none)
def EL.aq9{av:List (Option Nat)}(h:EL w av L){k:Nat}{a:Option Nat}(ha:av[k]? =some a):(cE L k).isNone=a.isNone:=by
 unfold cE;rw[if_pos aa,iI]
 cases a with
 |none=>rw[h.z k ha];rfl
 |some a=>
  obtain⟨x,hx,-⟩:=h.s k a ha;rw[hx];rfl
def vK(hL:L.length=16){n:Int}(h:¬(0<=n/\n<16)):cE L n=none:=by
 unfold cE;split
 ·rw[jZ aa];rfl
 ·rfl
def Y4(h:EF F w g s o t M occ L)(n:Int):ab 124 #[g,n] w λe w'=>e=vI (zB L n).1/\dK F w g s o t M occ (zB L n).2 w':=by
 obtain⟨av,de,jm,hFg,hFa,bq⟩:=h.row;apply yf.vc;refine(E0 de jm.n n).mono ?_;rintro e w0 ⟨a,rfl,rfl,hc⟩;refine⟨_,rfl,?_⟩;unfold zB;rcases hc with⟨k,rfl,hk,ha⟩|⟨wD,rfl⟩
 ·rw[jm.aq9 ha]
  cases a with
  |none=>exact yes rfl ⟨rfl,h.res (Ext.bT _)⟩
  |some a=>
   refine uN rfl ?_;have Eu:ae (ae (aB g) 1) (((k:Nat):Int).toNat*1)=ae (aB g) (1+k):=by rw[gk,iI,zp]
   obtain⟨p1,p2⟩:=de.ft (j:=1+k) (v:=.pointer none) (by simp[jm.n];omega) rfl;refine⟨aa,aa,⟨rfl,by rw[Eu];exact p1⟩,λw2 e2=>⟨rfl,?_⟩⟩;rw[Eu]at e2;obtain⟨q1,q2⟩:=p2 w2 e2;have q1:Row w2 g (.pointer (aB s)::(av.set k none).map pA) uw:=by
    have e:putCells (Value.pointer (aB s)::av.map pA) (1+k) [pno]=.pointer (aB s)::(av.set k none).map pA:=by show(Value.pointer (aB s)::av.map pA).set (1+k) _=_;rw[CO,akR,pM];rfl
    rw[<-e];exact q1
   have gl:∀a,some a∈av->a≠g:=λa ha q=>by subst q;obtain⟨i,hi⟩:=qA ha;obtain⟨x,-,hr⟩:=jm.s i a hi;exact de.ne hr kM.2.2 rfl
   have oD:∀(i a:Nat),(av.set k none)[i]? =some (some a)->i≠k/\av[i]? =some (some a):=λi a hi=>by
    by_cases q:i=k
    ·subst q;rw[uA (by rw[jm.n];exact hk)]at hi
     cases hi
    ·rw[GO (Ne.symm q)]at hi;exact⟨q,hi⟩
   show dK F w0 g s o t M occ (L.set ((k:Nat):Int).toNat none) w2;refine bq (q2.mono λi _ hi=>.inl hi) q1 ⟨by rw[lO];exact jm.n,by rw[lO];exact jm.m,λi a hi=>?_,λi hi=>?_,λi j a hi hj=>?_⟩ λa ha=>?_
   ·obtain⟨q,hi'⟩:=oD i a hi;obtain⟨x,hx,hr⟩:=jm.s i a hi';exact⟨x,by rw[iI,GO (Ne.symm q)];exact hx,hr.same (q2.same _ hr.lt (gl a (aQ hi')))⟩
   ·rw[iI];by_cases q:i=k
    ·subst q;exact uA (by rw[jm.m];exact hk)
    ·rw[GO (Ne.symm q)]at hi⊢;exact jm.z i hi
   ·exact jm.d i j a (oD i a hi).2 (oD j a hj).2
   ·obtain⟨i,hi⟩:=qA ha;exact .inl (aQ (oD i a hi).2)
 ·rw[vK jm.m wD];exact yes rfl ⟨rfl,h.res (Ext.bT _)⟩
def bh(L:lCs):List Int:=((List.range 16).filter λi=>(cE L (i:Nat)).isSome).map λi:Nat=>(i:Int)
def M3{α:Type}{l:List α}(h:l.length=16):∃a b c d e f g h i j k m n o p q,l=[a,b,c,d,e,f,g,h,i,j,k,m,n,o,p,q]:=by
 match l,h with
 | [a,b,c,d,e,f,g,h,i,j,k,m,n,o,p,q],_=>exact⟨a,b,c,d,e,f,g,h,i,j,k,m,n,o,p,q,rfl⟩
def Cq(h:EF F w g s o t M occ L):ab 41 #[g] w λe w'=>∃sl:Sl,e=Value.slice sl.a sl.n sl.c/\ar w 3 1 w' sl ((bh L).map λi=>[vI i])/\Ext w w':=by
 obtain⟨av,de,jm,-⟩:=h.row;apply yg.vc;have pG:ah w (ae (aB g) 1) 0 (av.map pA):=by rw[aF];exact de.bH λj hj=>by rw[show 0+1+j=j+1 from by omega,Kh]
 have gd:∀k:Nat,k<16->∃a:Option Nat,(av.map pA)[((k:Nat):Int).toNat*1]? =some (pA a)/\(cE L k).isNone=a.isNone:=λk hk=>by obtain⟨a,ha⟩:=bX (l:=av) (i:=k) (by rw[jm.n];exact hk);exact⟨a,by rw[iI,zp,aW,ha];rfl,jm.aq9 ha⟩
 obtain⟨b0,b1,b2,b3,b4,b5,b6,b7,b8,b9,b10,b11,b12,KX,Wc,Ym,rfl⟩:=M3 jm.n;refine⟨_,_,_,_,_,_,_,_,_,_,_,_,_,_,_,_,pG,λn x sl wr=>∃k:Nat,x=k/\k+n=16/\ar w 3 1 wr sl ((((List.range k).filter λi=>(cE L (i:Nat)).isSome).map λi:Nat=>(i:Int)).map λi=>[vI i])/\Ext w wr,⟨16,0,rfl,rfl,ar.nil,Ext.bT _⟩,?_⟩;rintro n us x sl wr ⟨k,rfl,hk,ho,xr⟩;have zr:=xr.size;apply Br.mk<;>intro hb
 ·replace hb:=lM hb;obtain⟨a,ha,hl⟩:=gd k aa;have wk:=nE (j:=k);have cX:sl.n<=16:=by have h1:=(ho.rd (show 0<1 by decide)).n;have h2:=zy (λi=>(cE L (i:Nat)).isSome) (List.range k);rw[aK,aK]at h1;rw[Gx]at h2;omega
  refine⟨⟨aa,aa⟩,_,ha,Br.mk (λhq=>λie Jq=>?_) (λhq=>?_)⟩
  ·subst Jq;have hsome:(cE L (k:Nat)).isSome=true:=by
    cases a with
    |none=>exact absurd hq bo
    |some a=>
     cases hL:cE L k with
     |none=>rw[hL]at hl;cases hl
     |some y=>rfl
   obtain⟨Te,hres8⟩:=ho.l6 (bytes:=8) (news:=[vI (k:Int)]) (.cells #[vI (k:Int)] 3) aa rfl (wE _ _) aa aa;refine⟨Te,λs25 kN aAb=>?_⟩;obtain⟨f8,KZ,hn8,x8,hk8,-⟩:=hres8 s25 kN aAb;refine⟨f8,n-1,aa,k+1,wk,aa,?_,(Below.trans xr x8:Below w w kN)⟩;rw[Ki,wG,cl,cl,W6 (by simpa using hsome)];exact KZ
  ·have hnone:(cE L (k:Nat)).isSome=false:=by
    cases a with
    |some a=>exact absurd hq bo
    |none=>
     cases hL:cE L k with
     |none=>rfl
     |some y=>rw[hL]at hl;cases hl
   refine⟨n-1,aa,k+1,wk,aa,?_,xr⟩;rw[Ki,wG,cl,cl,W7 (by rw[hnone];decide)];simpa using ho
 ·replace hb:=lW hb;have EG:k=16:=by omega
  subst EG;exact⟨sl,rfl,ho,xr⟩
end
abbrev FO(aj cap room bud:Int):Sm:=⟨aj,min (max cap 1) 16,(T9 room,[]),[],⟨4096,0,[]⟩,min (max bud 1) 64,0,[]⟩
abbrev OT:lCs:=List.replicate 16 none
def Ke(aj cap room bud:Int)(w:World):ab 60 #[.agg #[aj,cap,room,bud]] w λe w'=>
  ∃(g s o t:Nat)(F:Nat->Prop),e=Value.pointer (aB g)/\EF F w' g s o t (FO aj cap room bud) (.func (.func 175) #[] #[]) OT/\Ext w w'/\∀i,F i->w.heap.size<=i:=by
 apply Vr.vc;intro w0 e0;have x0:Ext w w0.drew:=(aU e0).drew;have z0:w0.drew.heap.size=w.heap.size+1:=by show w0.heap.size=_;rw[e0];simp
 have r0:∃τ,Row w0.drew w [aj,cap,room,bud] τ:=⟨_,by rw[e0];exact(Row.new w [_,_,_,_] _).ext (Ext.dr _)⟩;obtain⟨τ,r0⟩:=r0;refine(YL aj cap room w0.drew).mono ?_;rintro e w1 ⟨o,t,Fw,rfl,hW,x1,fW⟩;have z1:=x1.size;refine⟨_,rfl,x1.k,xG (r0.ext x1) rfl,(QQ hW bud).mono ?_⟩;rintro e w3 ⟨s,F,rfl,hS,x3,fS⟩;have z3:=x3.size;refine⟨_,rfl,x3.k,λw5 e5=>?_⟩;have x5:=aU e5;have r5:Row w5 w3 (.pointer (aB s)::(List.replicate 16 none).map pA) uw:=Row.nw e5;have lp:∀(i a:Nat),(List.replicate 16 (none:Option Nat))[i]? =some (some a)->False:=λi a hi=>by
  have:=List.eq_of_mem_replicate (aQ hi)
  cases this
 have jm:EL w5 (List.replicate 16 none) OT:=⟨rfl,rfl,λi a hi=>(lp i a hi).elim,λi hi=>List.getElem?_replicate_of_lt (by
  have ab2:=(cG.1 hi).1;rw[Hl]at ab2;exact ab2),λi j a hi=>(lp i a hi).elim⟩
 refine⟨w3.heap.size,s,o,t,_,rfl,⟨F,_,r5,hS.ext x5,jm,rfl⟩,x0.tr (x1.tr (x3.tr x5)),λi hi=>?_⟩;rcases hi with rfl|hi|hi
 ·omega
 ·rcases fS i hi with q|q
  ·have:=fW i q;omega
  ·omega
 ·cases List.eq_of_mem_replicate hi
variable{R:eWp}{w:World}{a0 a1 aM aI aP cO cR da gJ gC fB:Int}
def Vg.vc{a0:Sl}{a1:Sl}(h:
 pf (λI0 n1=>I0 n1 (0) a0 w) λI0 n1 Bn x3 s4 w5=>
 Br (decide (x3<((a1.n:Nat):Int)))
 (gD a1.a x3 a1.n/\jr w5 (ae a1.a ((x3:Int).toNat*1)) λx7=>
 pf (λI8 n9=>I8 n9 (5) s4 w5) λI8 n9 agB bS qo bw=>(λAa=>
 Br (bS>=0)
 (aO (ngC (aC (8*bS))) (Aw bw #[.int .u8 Aa] 5 λc9=>
 bj 1 1 c9 qo 1 [.int .u8 Aa]/\∀(s16:Sl)(cP:World),aY 5 1 c9 qo 1 [.int .u8 Aa] s16 cP->Kp bw c9 cP/\
 ∃n14,n14<n9/\I8 n14 ((aC (bS-1))) s16 cP))
 (∃n6,n6<n1/\I0 n6 ((aC (x3+1))) qo bw)) (qH ((x7:Int).fdiv (2^(min ((aC (8*bS)):Int).toNat 64)))))
 (R s4 w5)):ab 59 #[a0,a1] w R:=
 cq ⟨[(5,⟨[(7,.int .i64),(0,.slice)],[],[]⟩),(2,⟨[(10,.int .i64),(0,.slice)],[],[]⟩)],[],[]⟩ func59 h
def vm.vc{a0:Addr}(h:(λA B=>
 ab 41 #[a0] w (rA λs1 w0=>(λAa Ab=>eO w0 B λp2=>
 ab 45 #[p2] w0 (fw λx4 w3=>Aw w3 #[x4] 3 λw5=>
 ab 59 #[.slice none 0 0,.slice (aB w3) 1 1] w5 (rA λs7 w6=>Aw w6 #[.int .u8 (qH Ab)] 5 λw8=>
 bj 1 1 w8 s7 1 Aa/\∀(s9:Sl)(br:World),aY 5 1 w8 s7 1 Aa s9 br->Kp w6 w8 br/\
 pf (λI11 n12=>aR Aa/\I11 n12 (0) s9 br) λI11 n12 aI4 cY qp bZ=>
 Br (decide (cY<Ab))
 (gD s1.a cY s1.n/\jr bZ (ae s1.a ((cY:Int).toNat*1)) λdc=>(λAc Ad=>
 (0:Int)<=dc/\dc<((16:Nat):Int)/\eO bZ (ae (ae (some a0) 1) ((dc:Int).toNat*1)) λp19=>(λAe Af=>
 ∃J20:Sl->wPp,
 (aO Af (aO Af (aO (eE Ae) (aO (eE (ae Ae 0)) (jr bZ.drew (ae (ae Ae 0) 0) λfk=>
 aO Af (aO Af (aO (eE Ae) (aO (eE (ae Ae 0)) (jr bZ.drew (ae (ae Ae 0) 1) λfX=>
 aO Af (aO Af (aO (eE Ae) (aO (eE (ae Ae 0)) (jr bZ.drew (ae (ae Ae 0) 2) λiB=>
 aO Af (aO Af (aO (eE Ae) (aO (eE (ae Ae 3)) (jr bZ.drew (ae (ae Ae 3) 0) λjn=>
 aO Af (aO Af (aO (eE Ae) (aO (eE (ae Ae 3)) (jr bZ.drew (ae (ae Ae 3) 1) λgG=>
 aO Af (aO Af (aO (eE Ae) (aO (eE (ae Ae 3)) (jr bZ.drew (ae (ae Ae 3) 2) λnU=>
 aO Af (aO Af (aO (eE Ae) (jr bZ.drew (ae Ae 6) λjl=>
 aO Af (aO Af (aO (eE Ae) (jr bZ.drew (ae Ae 7) λrC=>(λAg=>
 (Aw bZ.drew Ad 5 λgI=>
 (bj 1 1 gI qp 1 Ac/\∀(EE:Sl)(ia:World),aY 5 1 gI qp 1 Ac EE ia->Kp w6 gI ia/\ox bZ gI ia/\
 ah ia (ae Ae 7) 0 [rC]/\ah ia (ae Ae 6) 0 [jl]/\ah ia (ae (ae Ae 3) 2) 0 [nU]/\ah ia (ae (ae Ae 3) 1) 0 [gG]/\ah ia (ae (ae Ae 3) 0) 0 [jn]/\ah ia (ae (ae Ae 0) 2) 0 [iB]/\ah ia (ae (ae Ae 0) 1) 0 [fX]/\ah ia (ae (ae Ae 0) 0) 0 [fk]/\Aw ia Ag 3 λsY=>
 ab 59 #[EE,.slice (aB ia) 8 8] sY (Rs λs34 jV=>Kp w6 sY jV/\ox bZ sY jV/\
 aR Aa/\J20 s34 jV))/\(Aw gI Ag 3 λiD=>
 bj 1 1 iD qp 1 Ac/\∀(s36:Sl)(jD:World),aY 5 1 iD qp 1 Ac s36 jD->Kp w6 iD jD/\ox bZ iD jD/\Kp gI iD jD/\
 ab 59 #[s36,.slice (aB gI) 8 8] jD (Rs λs39 tH=>Kp w6 jD tH/\ox bZ jD tH/\
 aR Aa/\J20 s39 tH)))/\(Aw bZ.drew Ag 3 λnT=>
 Aw nT Ad 5 λkO=>
 bj 1 1 kO qp 1 Ac/\∀(s42:Sl)(iO:World),aY 5 1 kO qp 1 Ac s42 iO->Kp w6 kO iO/\ox bZ kO iO/\Kp nT kO iO/\
 ab 59 #[s42,.slice (aB bZ.drew.heap.size) 8 8] iO (Rs λs45 kf=>K2 w6 nT iO kf (
 aR Aa/\J20 s45 kf)))) #[fk,fX,iB,jn,gG,nU,jl,rC])))))))))))))))))))))))))))))))/\
 ∀aub:Nat->Value,∀(Tt:Sl)(lI:World),J20 Tt lI->
 aO Af (aO Af (aO (eE Ae) (Mp lI (ae Ae 8) λb49=>
 Br b49
 (Aw lI #[.int .u8 1] 5 λyR=>
 bj 1 1 yR Tt 1 [.int .u8 1]/\∀(s51:Sl)(Yo:World),aY 5 1 yR Tt 1 [.int .u8 1] s51 Yo->K2 w6 lI yR Yo (
 ∃n17,n17<n12/\aR Aa/\I11 n17 ((aC (cY+1))) s51 Yo))
 (Aw lI #[.int .u8 0] 5 λw53=>
 bj 1 1 w53 Tt 1 [.int .u8 0]/\∀(We:Sl)(yS:World),aY 5 1 w53 Tt 1 [.int .u8 0] We yS->K2 w6 lI w53 yS (
 ∃n17,n17<n12/\aR Aa/\I11 n17 ((aC (cY+1))) We yS)))))) (ae p19 0) (eE p19)) [.int .u8 (qH dc)] #[.int .u8 (qH dc)])
 (eO bZ B λp56=>
 ab 46 #[p56] bZ (Rs λOR nv=>(λAh Ai Aj=>Kp w6 bZ nv/\
 (0:Int)<=Ai/\Ai<=((OR.c:Nat):Int)/\Aw nv #[.int .u8 (qH ((Ah:Int).fdiv A)),.int .u8 (qH Ah)] 5 λpH=>
 bj 1 1 pH qp 2 [.int .u8 (qH ((Ah:Int).fdiv A)),.int .u8 (qH Ah)]/\∀(s60:Sl)(vr:World),aY 5 1 pH qp 2 [.int .u8 (qH ((Ah:Int).fdiv A)),.int .u8 (qH Ah)] s60 vr->K2 w6 nv pH vr (
 pf (λI62 n63=>aR Aa/\aR [.int .u8 (qH ((Ah:Int).fdiv A)),.int .u8 (qH Ah)]/\I62 n63 (0) s60 vr) λI62 n63 axo Be s66 pI=>
 Br (decide (Be<Ah))
 (gD Aj Be ((Ai:Int).toNat-0)/\ti pI (ae Aj ((Be:Int).toNat*4)) λyD CJ Bf DB=>
 Aw pI #[ai,ai,ai,ai] 106 λJu=>
 Sw Ju pI #[yD,CJ,Bf,DB] λCE=>
 Aw CE #[yD,CJ,Bf,DB] 3 λuh=>
 ab 59 #[s66,.slice (aB CE) 4 4] uh (Rs λs77 pB=>K3 w6 nv pI uh pB (
 ∃n68,n68<n63/\aR Aa/\aR [.int .u8 (qH ((Ah:Int).fdiv A)),.int .u8 (qH Ah)]/\I62 n68 ((aC (Be+1))) s77 pB)))
 (R s66 pI))) (((((if 2000<((OR.n:Nat):Int)then 2000 else((OR.n:Nat):Int)):Int).toNat-0):Nat):Int) (if 2000<((OR.n:Nat):Int)then 2000 else((OR.n:Nat):Int)) (aE OR.a (0) (OR.c) 4)))))) [.int .u8 (qH ((s1.n:Nat):Int))] ((s1.n:Nat):Int))) (2^(min (8:Int).toNat 64)) (ae (some a0) 0)):ab 25 #[a0] w R:=
 cq ⟨[(16,⟨[(124,.int .i64),(4,.slice)],[],[]⟩),(4,⟨[(27,.int .i64),(4,.slice)],[],[]⟩)],[(8,⟨[(4,.slice)],[],[]⟩)],[]⟩ func25 h
def xy.vc{a0:Addr}(h:
 eO w (ae (some a0) 0) λp0=>
 ab 39 #[p0] w (nH λp2 w1=>ab 40 #[p2] w1 (nH λp4 w3=>ab 25 #[a0] w3 (rA λs6 w5=>ab 182 #[p4,s6] w5 (fw λx8 w7=>R x8 w7))))):ab 121 #[a0] w R:=
 cq bz func121 h
def ua.vc{c0:Addr}(h:(λA=>
 Br (!(A).isNone)
 (aO (eE A) (aO (eE A) (jR w.drew (ae A 0) λx0 x1 x2 x3 x4 x5 x6 x7 b8=>
 C3 w.drew (some c0) λx9 bL bS cr cJ cY=>
 ab 149 #[.agg #[x0,x1,x2,x3,x4,x5,x6,x7,b8]] w.drew (amx λdw dO dc dQ fe fk c9=>ah c9 (some c0) 0 [x9,bL,bS,cr,cJ,cY]/\ab 148 #[.agg #[dw,dO,dc,dQ,fe,fk],.agg #[x9,bL,bS,cr,cJ,cY]] c9 (yM λb23 dh=>R b23 dh)))))
 (R false w.drew)) (none:Option Addr)):ab 147 #[.pointer (none:Option Addr),c0] w R:=
 cq bz func147 h
def Sx(h:Rr):Ce×Bool:=if 0<=h.2.2.1/\h.2.2.1<6 then((rZ h.1).getD h.2.2.1.toNat (0,0,0),true)else((0,0,0),false)
def Sy(h:Rr)(hc:fh h.1)(w:World):ed 190 #[htV h] w (Value.tuple #[fQ (Sx h).1,.bool (Sx h).2]):=by
 obtain⟨c,b,f,t⟩:=h;apply U3.vc;intro w0 e0 w1 e1;have x0:=aU e0;have z0:=zA e0;have r0:∃τ,Row w0 w [c.1,c.2.1,c.2.2,b,f,t] τ:=⟨_,by rw[e0];exact Row.new w [_,_,_,_,_,_] _⟩;have x1:=aU e1;have z1:=zA e1;have lq:=x0.tr x1;have hd:=nV w1;obtain⟨τ,r0⟩:=r0;unfold Sx;simp only;refine Br.mk (λh=>λw2 e2=>?_) (λh=>Br.mk (λh2=>λw3 e3=>?_) (λh2=>(jt c hc w1.drew).mono ?_))
 ·have h:=eK h;rw[if_neg aa];exact⟨rfl,lq.af e2 aa⟩
 ·have h2:=eK h2;rw[if_neg aa];exact⟨rfl,lq.af e3 aa⟩
 ·have h:=eK h;have h2:=eK h2;obtain⟨k,rfl⟩:∃k:Nat,f=k:=⟨f.toNat,aa⟩;rw[if_pos aa,iI];rintro e w4 ⟨rfl,x4⟩;have z4:=x4.size;refine⟨_,_,_,_,_,_,_,_,_,_,_,_,_,_,_,_,_,_,rfl,x4.k,x4.k,xG (r0.ext (x1.tr ((Ext.dr w1).tr x4))) rfl,⟨aa,aa⟩,((rZ c).getD k (0,0,0)).1,((rZ c).getD k (0,0,0)).2.1,((rZ c).getD k (0,0,0)).2.2,?_,λkN TB=>⟨rfl,(lq.tr ((Ext.dr w1).tr x4)).af TB aa⟩⟩;have:k=0\/k=1\/k=2\/k=3\/k=4\/k=5:=by omega
  rcases this with rfl|rfl|rfl|rfl|rfl|rfl<;>rfl
def pk(b:eJ):Ce:=iY b.aw (0,Int.tdiv (b.ht*4) 5,0)
def HS(b:eJ)(hh: -1000000000<=b.ht/\b.ht<=1000000000)(w:World):ed 192 #[Ip b] w ((fQ (pk b))):=by
 apply Jb.vc;intro w0 e0 w1 e1;have x0:=aU e0;have z0:=zA e0;have x1:=aU e1;have z1:=zA e1;have e4:aC (Int.tdiv (aC (b.ht*4)) 5)=Int.tdiv (b.ht*4) 5:=by
  have h5: -4000000000<=Int.tdiv (b.ht*4) 5/\Int.tdiv (b.ht*4) 5<=4000000000:=by
   rcases Int.le_total 0 (b.ht*4)with h|h
   ·rw[uI h];omega
   ·have e:b.ht*4= -(-(b.ht*4)):=by omega
    rw[e,Int.neg_tdiv,uI aa];omega
  rw[aL (n:=b.ht*4) inO,wI]
 rw[e4];refine(jw b.aw (0,Int.tdiv (b.ht*4) 5,0) w1).bf λw2 x2=>?_
 have z2:=x2.size;exact⟨_,_,_,rfl,x2.k,x2.k,λw6 e6=>⟨rfl,(x0.tr (x1.tr x2)).af e6 aa⟩⟩
def Gg(c:Ce):Bx:=((uM c.1,uM c.2.1,uM c.2.2),iY (uM c.1,uM c.2.1,uM c.2.2) (65536,65536,65536))
def Zh(c:Ce)(w:World):ed 145 #[fQ c] w ((xB (Gg c))):=by
 apply ad2.vc;intro w0 e0 w1 e1;have x0:=aU e0;have z0:=zA e0;have r0:∃τ,Row w0 w [c.1,c.2.1,c.2.2] τ:=⟨_,by rw[e0];exact Row.new w [_,_,_] _⟩;have x1:=aU e1;have z1:=zA e1;have hd:=nV w1;obtain⟨τ,r0⟩:=r0;have r1:=r0.ext (x1.tr (Ext.dr w1));have lq:=x0.tr (x1.tr (Ext.dr w1));have last:∀v1 v2:World,v1=w1.drew.alloc (.cells #[ai,ai,ai] iq)->v2=v1.setRow w1.drew.heap.size #[(uM c.1),(uM c.2.1),(uM c.2.2)]->
   ab 206 #[fQ (uM c.1,uM c.2.1,uM c.2.2),fQ (65536,65536,65536)] v2.drew λe br=>∃x y z:Int,e=Value.agg #[x,y,z]/\br.heap[w.heap.size]? =v2.drew.heap[w.heap.size]?/\br.heap[w0.heap.size]? =v2.drew.heap[w0.heap.size]?/\br.heap[w1.drew.heap.size]? =v2.drew.heap[w1.drew.heap.size]?/\
    ah br (aB w1.drew.heap.size) 0 [(uM c.1),(uM c.2.1),(uM c.2.2)]/\∀cp:World,cp=br.setRow w0 #[(uM c.1),(uM c.2.1),(uM c.2.2),x,y,z]->
    Ending.returned (.agg #[(uM c.1),(uM c.2.1),(uM c.2.2),x,y,z])=(xB (Gg c))/\Ext w cp:=by
  intro v1 v2 f1 f2;have y1:Ext w1.drew v2:=(aU f1).af f2 (ak _);have s2:v2.drew.heap.size=w1.heap.size+1:=by show v2.heap.size=_;rw[zR f2,zA f1];rfl
  have rv:Row v2 w1.drew.heap.size [(uM c.1),(uM c.2.1),(uM c.2.2)] iq:=by rw[f2,f1];exact Row.set (Row.new w1.drew [_,_,_] _) [_,_,_]
  refine(jw (uM c.1,uM c.2.1,uM c.2.2) (65536,65536,65536) v2.drew).bf λbr bL=>?_
  exact⟨_,_,_,rfl,bL.k,bL.k,bL.k,Lo.wv (rv.ext ((Ext.dr v2).tr bL)),λcp yF=>⟨rfl,(lq.tr (y1.tr ((Ext.dr v2).tr bL))).af yF aa⟩⟩
 have of1:∀(n:Int) {u:World}{R:eWp},R (.returned (vI (uM n))) u->ab 213 #[vI n] u R:=λn u R h=>(sB n u).mono (by rintro e w' ⟨rfl,rfl⟩;exact h)
 have l2:ah w1.drew (jM w.heap.size 2) 0 [c.2.2]:=xG r1 rfl;have l1:ah w1.drew (jM w.heap.size 1) 0 [c.2.1]:=xG r1 rfl;refine⟨of1 _ ⟨_,rfl,rfl,rfl,l2,l1,of1 _ ⟨_,rfl,rfl,rfl,l2,of1 _ ⟨_,rfl,rfl,rfl,λw8 e8 w9 e9=>last _ _ e8 e9,λw8 e8 w9 e9=>last _ _ e8 e9⟩,λdh Dy=>?_⟩,λia e31=>?_⟩,λnS e42=>?_⟩
 ·exact of1 _ ⟨_,rfl,rfl,rfl,rfl,λdL OX=>last _ _ Dy OX⟩
 ·have xa:=aU e31;exact of1 _ ⟨_,rfl,rfl,rfl,rfl,xG (r1.ext xa) rfl,of1 _ ⟨_,rfl,rfl,rfl,rfl,λmG e36=>last _ _ e31 e36⟩⟩
 ·have xa:=aU e42;exact of1 _ ⟨_,rfl,rfl,rfl,rfl,xG (r1.ext xa) rfl,xG (r1.ext xa) rfl,of1 _ ⟨_,rfl,rfl,rfl,rfl,xG (r1.ext xa) rfl,of1 _ ⟨_,rfl,rfl,rfl,rfl,λnB e49=>last _ _ e42 e49⟩⟩⟩
def adx(c:Ce)(x:Option cQ):Bool:=match x with|some y=>vl y.1.box (Gg c)|none=>false
def Gh(L:lCs)(c:Ce):Bool:=L.any (adx c)
def UH{w:World}{a:Option Nat}{x:Option cQ}(ha:∀b,a=some b->∃y,x=some y/\Row w b (Gf y) j7/\cH y.1.wd)(hn:a=none->x=none){c:Ce}{g:Nat}{τ:TypeId}(hg:Row w g (pE (Gg c)) τ):
  ed 147 #[pA a,g] w (Value.bool (adx c x)):=by
 cases a with
 |none=>
  rw[hn rfl];apply ua.vc;exact uN rfl ⟨rfl,Ext.dr w⟩
 |some b=>
  obtain⟨y,rfl,hr,hw⟩:=ha b rfl;apply(uU.vc (a0:=⟨b,0,none⟩));refine⟨_,_,_,_,_,_,_,_,_,(hr.ext (Ext.dr w)).bH (vs:=pc y.1) (o:=0) (λj hj=>?_),_,_,_,_,_,_,Lo.wv (hg.ext (Ext.dr w)),(kC y.1 hw w.drew).mono ?_⟩
  ·have hj:j<9:=hj;have:j=0\/j=1\/j=2\/j=3\/j=4\/j=5\/j=6\/j=7\/j=8:=by omega
   rcases this with rfl|rfl|rfl|rfl|rfl|rfl|rfl|rfl|rfl<;>rfl
  rintro e c9 ⟨rfl,dn⟩;refine⟨_,_,_,_,_,_,rfl,Lo.wv (hg.ext ((Ext.dr w).tr dn)),(AZ y.1.box (Gg c) c9).bf λdh fX=>?_⟩;exact⟨_,rfl,rfl,(Ext.dr w).tr (dn.tr fX)⟩
def ES(m:Int)(L:lCs):Prop:=∀y,some y∈L->okB m y.1
def ES.up{m n:Int}{L:lCs}(h:ES m L)(hn:m<=n):ES n L:=λy hy=>(h y hy).up hn
section
variable{F F':Nat->Prop}{w w':World}{g s o t:Nat}{M M':Sm}{occ:Value}{L:lCs}
def EL.held{av:List (Option Nat)}(he:EL w av L){m:Int}(hL:ES m L){k:Nat}{a:Option Nat}(ha:av[k]? =some a):
  ∃x,L[k]? =some x/\(∀b,a=some b->∃y,x=some y/\Row w b (Gf y) j7/\cH y.1.wd)/\(a=none->x=none):=by
 cases a with
 |none=>exact⟨none,he.z k ha,λb hb=>(by cases hb),λ_=>rfl⟩
 |some b=>
  obtain⟨y,hy,hr⟩:=he.s k b ha;exact⟨some y,hy,λb' hb=>by cases hb;exact⟨y,rfl,hr,(hL y (aQ hy)).wdi⟩,λq=>(by cases q)⟩
def Qa{p:Value}{av:List (Option Nat)}{τ τ':TypeId}(hr:Row w g (p::av.map pA) τ)(he:EL w av L){m:Int}(hL:ES m L){c:Ce}{b:Nat}(hb:Row w b (pE (Gg c)) τ'):
  ab 214 #[.slice (aE (ae (some ⟨g,0,none⟩) 1) 0 16 1) (16-0) (16-0),.func (.func 147) #[] #[b]] w λe w'=>(∃n:Int,e=vI n/\decide (n>=0)=Gh L c)/\Ext w w':=by
 apply(tQ.vc (a0:=⟨aE (ae (some ⟨g,0,none⟩) 1) 0 16 1,16-0,16-0⟩));rw[dt];refine⟨λn x wr=>∃k:Nat,x=k/\k+n=16/\Ext w wr/\∀j,j<k->∀y,L[j]? =some y->adx c y=false,⟨16,0,rfl,rfl,Ext.bT _,λj hj=>by omega⟩,?_⟩;rintro n us x wr ⟨k,rfl,hk,xr,lp⟩;apply Br.mk<;>intro hq
 ·have hq:(k:Int)<((16-0:Nat):Int):=by simpa using hq
  obtain⟨a,ha⟩:=bX (l:=av) (i:=k) (by have:=he.n;omega);obtain⟨y,hy,h1,h2⟩:=he.held hL ha;refine⟨⟨rfl,aa,hq⟩,_,Mu (hr.ext xr) ha,bR (by kernel_rfl) rfl ((UH (a:=a) (x:=y) (λb' e=>?_) h2 (hb.ext xr)).mono ?_)⟩
  ·obtain⟨z,e1,e2,e3⟩:=h1 b' e;exact⟨z,e1,e2.ext xr,e3⟩
  rintro e w7 ⟨rfl,x7⟩;refine⟨_,rfl,Br.mk (λhm=>⟨⟨_,rfl,?_⟩,xr.tr x7⟩) (λhm=>?_)⟩
  ·rw[decide_eq_true (by omega:(k:Int)>=0)];exact(List.any_eq_true.2 ⟨y,aQ hy,hm⟩).symm
  ·have wk:=nE (j:=k);refine⟨n-1,aa,k+1,wk,aa,xr.tr x7,λj hj z hz=>?_⟩;by_cases q:j<k
   ·exact lp j q z hz
   ·rw[show j=k from by omega,hy]at hz;rw[<-Option.some.inj hz];exact hm
 ·have hq:¬(k:Int)<((16-0:Nat):Int):=by simpa using hq
  refine⟨⟨_,rfl,?_⟩,xr⟩;rw[decide_eq_false au];refine(List.any_eq_false.2 λy hy=>?_).symm;obtain⟨j,hj⟩:=List.mem_iff_getElem?.1 hy;have:=(cG.1 hj).1;have:=he.m;rw[lp j aa y hj];decide
def Kb{p:Value}{av:List (Option Nat)}{τ:TypeId}(hr:Row w g (p::av.map pA) τ)(he:EL w av L){m:Int}(hL:ES m L)(c:Ce):
  ed 84 #[g,fQ c] w (Value.bool (Gh L c)):=by
 apply xI.vc;intro w0 e0;have x0:=aU e0;have z0:=zA e0;refine(Zh c w0).bf λw1 x1=>?_
 have z1:=x1.size;refine⟨_,_,_,_,_,_,rfl,x1.k,λw8 e8 w9 e9=>?_⟩;have x9:Ext w1 w9:=(aU e8).af e9 (ak _);have r9:∃τ',Row w9 w1 (pE (Gg c)) τ':=⟨_,by rw[e9,e8];exact Row.set (Row.new w1 [_,_,_,_,_,_] _) [_,_,_,_,_,_]⟩;have z9:w9.heap.size=w1.heap.size+1:=by rw[zR e9,zA e8]
 obtain⟨τ',r9⟩:=r9;have Ts:=x0.tr (x1.tr x9);refine Calls.mono (qw.vc (a0:=⟨aE (ae (aB g) 1) 0 16 1,16-0,16-0⟩) (R:=λe w'=>e=Value.bool (Gh L c)/\Ext w9 w') ?_) ?_
 ·refine(Qa (hr.ext Ts) (he.same λa ha=>Ts.heap (he.lt ha)) hL r9).mono ?_;rintro e br ⟨⟨n,rfl,hn⟩,bL⟩;exact⟨n,rfl,by rw[hn],bL⟩
 ·rintro e br ⟨rfl,bL⟩;exact⟨_,rfl,bL.k,rfl,Ts.tr bL⟩
end
def Qb(a b:Ce)(n:Nat):Prop:=(-(n:Int)<=a.1-b.1/\a.1-b.1<=n)/\(-(n:Int)<=a.2.1-b.2.1/\a.2.1-b.2.1<=n)/\-(n:Int)<=a.2.2-b.2.2/\a.2.2-b.2.2<=n
def amo(c:Ce)(i:Nat):Qb (nbN c i) c 1:=by unfold nbN Qb;split<;>(simp only;omega)
def adz{d c0:Ce}{r:Int}:∀{n:Nat}{s:S3}{h0 h:Hi},h∈goK d c0 r n s h0->mK c0 h.1 r=true/\(h.2.1=h0.2.1\/0<=h.2.1/\h.2.1<6)/\Qb h.1 h0.1 n
 |0,s,h0,h,hm=>by cases hm
 |n+1,s,h0,h,hm=>by
  unfold goK at hm
  split at hm
  ·rename_i hw
   rcases cu.1 hm with rfl|hm
   ·exact⟨hw,.inl rfl,by unfold Qb;omega⟩
   ·cases hq:iU d s h0 with
    |none=>rw[hq]at hm;cases hm
    |some q=>
     rw[hq]at hm
     obtain⟨h1,h2,h3⟩:=adz hm
     unfold iU at hq
     split at hq
     ·cases hq
     injection hq with hq
     refine⟨h1,.inr ?_,?_⟩
     ·rcases h2 with h2|h2
      ·rw[h2,<-hq]
       have:=at3 s
       simp only
       split<;>omega
      ·exact h2
     ·have hn:Qb q.2.1 h0.1 1:=by rw[<-hq];exact amo _ _
      unfold Qb at hn h3⊢;omega
  ·cases hm
def Vs:Rr:=((0,0,0),0,0,0)
def cM(M:Sm)(L:lCs)(n:Int)(gE:Ce):Rr×Int:=
 match cE L n with
 |none=>(Vs,6)
 |some y=>if(lh (jc M.T.2) (pk y.1) gE 5).2=false then(Vs,13)else if(lh (jc M.T.2) (pk y.1) gE 5).1.2.1= -1 then(Vs,11)else((lh (jc M.T.2) (pk y.1) gE 5).1,0)
def Sv{b:eJ}{m:Int}(h:okB m b)(hm:m<=99970000000000):(-1600000000<=(ba (eN (pk b))).1/\(ba (eN (pk b))).1<=1600000000)/\(-1600000000<=(ba (eN (pk b))).2.1/\(ba (eN (pk b))).2.1<=1600000000)/\-1600000000<=(ba (eN (pk b))).2.2/\(ba (eN (pk b))).2.2<=1600000000:=by
 obtain⟨⟨h1,h2,h3⟩,-,h5,-⟩:=h;have ht:0<=Int.tdiv (b.ht*4) 5/\Int.tdiv (b.ht*4) 5<=1000000:=by rw[uI aa];omega
 have e1:(ba (eN (pk b))).1=bY (dD (dU b.aw.1 0)):=rfl;have e2:(ba (eN (pk b))).2.1=bY (dD (dU b.aw.2.1 (Int.tdiv (b.ht*4) 5))):=rfl;have e3:(ba (eN (pk b))).2.2=bY (dD (dU b.aw.2.2 0)):=rfl;rw[e1,e2,e3];unfold bY dU dD;omega
def CC{a b r:Int}(h:sS a b r=true)(ha: -4000000000<=a/\a<=4000000000)(hb: -4000000000<=b/\b<=4000000000):a-b<=r/\b-a<=r:=by unfold sS at h;simp only[fF,cC]at h;rw[wI,wI]at h;exact h
def HR{f d:Ce}{r:Int}(hr:nt r<=5):∀h∈lj (eN f) (j9 d) (nt r),(((ba (eN f)).1-h.1.1<=5/\h.1.1-(ba (eN f)).1<=5)/\((ba (eN f)).2.1-h.1.2.1<=5/\h.1.2.1-(ba (eN f)).2.1<=5)/\(ba (eN f)).2.2-h.1.2.2<=5/\h.1.2.2-(ba (eN f)).2.2<=5)/\(h.2.1= -1\/0<=h.2.1/\h.2.1<6):=by
 intro h hh;obtain⟨h1,h2,h3⟩:=adz hh;replace h3:Qb h.1 (ba (eN f)) _:=h3;have hc:=vF (eN f);have hn:((3*(nt r).toNat+2:Nat):Int)<=17:=by omega
 unfold Qb at h3;unfold mK at h1;simp only[fF]at h1;have q1:=CC h1.1 aa aa;have q2:=CC h1.2.1 aa aa;have q3:=CC h1.2.2 aa aa;exact⟨⟨aa,aa,aa⟩,h2⟩
def Rp{V:Ce->Int}{f d:Ce}{r:Int}(hr:nt r<=5){h:Rr}(e:lh V f d r=(h,true)):
  ((ba (eN f)).1-h.1.1<=5/\h.1.1-(ba (eN f)).1<=5)/\((ba (eN f)).2.1-h.1.2.1<=5/\h.1.2.1-(ba (eN f)).2.1<=5)/\((ba (eN f)).2.2-h.1.2.2<=5/\h.1.2.2-(ba (eN f)).2.2<=5)/\V h.1=h.2.1/\(h.2.2.1= -1\/0<=h.2.2.1/\h.2.2.1<6):=by
 unfold lh at e;split at e
 ·rename_i x hx;obtain⟨⟨h1,h2,h3⟩,h4⟩:=HR hr x (G6 hx);injection e with e1 e2;subst e1;exact⟨h1,h2,h3,rfl,h4⟩
 ·injection e with e1 e2
  cases e2
def afv{f d:Ce}{r:Int}(hr:nt r<=5)(hf:(-1600000000<=(ba (eN f)).1/\(ba (eN f)).1<=1600000000)/\(-1600000000<=(ba (eN f)).2.1/\(ba (eN f)).2.1<=1600000000)/\-1600000000<=(ba (eN f)).2.2/\(ba (eN f)).2.2<=1600000000):
  ∀h∈lj (eN f) (j9 d) (nt r),pQ h.1:=by
 intro h hh;obtain⟨h1,-⟩:=HR hr h hh;unfold pQ cH;omega
def aiQ:nt 5=5:=by decide
section
variable{F F':Nat->Prop}{w w':World}{g s o t:Nat}{M M':Sm}{occ:Value}{L:lCs}
def EL.at{av:List (Option Nat)}(he:EL w av L){k b:Nat}(ha:av[k]? =some (some b)):∃y,cE L k=some y/\some y∈L/\Row w b (Gf y) j7:=by obtain⟨y,hy,hr⟩:=he.s k b ha;refine⟨y,?_,aQ hy,hr⟩;unfold cE;rw[if_pos aa,iI,hy];rfl
def EL.at0{av:List (Option Nat)}(he:EL w av L){k:Nat}(ha:av[k]? =some none):cE L k=none:=by unfold cE;rw[if_pos aa,iI,he.z k ha];rfl
def Xr{b:Nat}{y:cQ}(hr:Row w b (Gf y) j7):ah w (ae (aB b) 0) 0 (pc y.1):=by
 rw[aF];refine hr.bH (o:=0) λj hj=>?_
 have hj:j<9:=hj;have:j=0\/j=1\/j=2\/j=3\/j=4\/j=5\/j=6\/j=7\/j=8:=by omega
 rcases this with rfl|rfl|rfl|rfl|rfl|rfl|rfl|rfl|rfl<;>rfl
def aqV{b:Nat}{y:cQ}(hr:Row w b (Gf y) j7):ah w (ae (aB b) 9) 0 [y.2.1,y.2.2.1,.bool y.2.2.2]:=by
 rw[aF];refine hr.bH (o:=9) λj hj=>?_
 have hj:j<3:=hj;have:j=0\/j=1\/j=2:=by omega
 rcases this with rfl|rfl|rfl<;>rfl
def vL(h:EF F w g s o t M occ L){m:Int}(hL:ES m L)(hm:m<=99970000000000)(n:Int)(gE:Ce):
  ed 131 #[g,n,fQ gE] w (Value.tuple #[htV (cM M L n gE).1,vI (cM M L n gE).2]):=by
 apply xR.vc;intro w0 e0 w1 e1;have x0:=aU e0;have z0:=zA e0;have r0:∃τ,Row w0 w (eV gE) τ:=⟨_,by rw[e0];exact Row.new w [_,_,_] _⟩;have x1:=aU e1;have z1:=zA e1;obtain⟨τ,r0⟩:=r0;have r1:=r0.ext x1;have lq:=x0.tr x1;have h1:=h.ext lq;obtain⟨av,de,jm,-,-,-⟩:=h1.row;refine(E0 de jm.n n).mono ?_;rintro e w2 ⟨a,rfl,yE,hc⟩;subst yE;refine⟨_,rfl,rfl,rfl,?_⟩;rcases hc with⟨k,rfl,hk,ha⟩|⟨wD,rfl⟩
 case inr=>
  refine yes rfl λw4 e4=>⟨?_,lq.af e4 aa⟩
  unfold cM;rw[vK jm.m wD];rfl
 cases a with
 |none=>
  refine yes rfl λw4 e4=>⟨?_,lq.af e4 aa⟩
  unfold cM;rw[jm.at0 ha];rfl
 |some b=>
  obtain⟨y,hy,pL,WD⟩:=jm.at ha;have oky:=hL y pL;refine uN rfl (lC rfl (lC rfl ?_));have xd:=Ext.dr w2;have hd:=nV w2;have eyn:=Sv oky hm;have hhb: -1000000000<=y.1.ht/\y.1.ht<=1000000000:=by have:=oky.2.2.1;omega
  have qG:cM M L k gE=if(lh (jc M.T.2) (pk y.1) gE 5).2=false then(Vs,13)else if(lh (jc M.T.2) (pk y.1) gE 5).1.2.1= -1 then(Vs,11)else((lh (jc M.T.2) (pk y.1) gE 5).1,0):=by unfold cM;rw[hy]
  have castS:∀{u:World},Ext w2.drew u->ed 191 #[.func (.func 113) #[t] #[],fQ (pk y.1),fQ gE,(5:Int)] u (Value.tuple #[htV (lh (jc M.T.2) (pk y.1) gE 5).1,.bool (lh (jc M.T.2) (pk y.1) gE 5).2]):=λ{u} xu=>
   abl (h1.ext (xd.tr xu)).tl rfl (pk y.1) gE 5 ⟨aa,aa,aa⟩ (afv (by rw[aiQ];decide) eyn)
  generalize lh (jc M.T.2) (pk y.1) gE 5=ck at qG castS;obtain⟨⟨⟨cx,cy,cz⟩,cb,cf,ct⟩,cq⟩:=ck;have fin:∀{u:World},Ext w2.drew u->Br (!cq)
    (∀pw:World,pw=u.setRow w0 #[ai,ai,ai,ai,ai,ai]->Ending.returned (.tuple #[.agg #[ai,ai,ai,ai,ai,ai],(13:Int)])=Value.tuple #[htV (cM M L k gE).1,vI (cM M L k gE).2]/\Ext w pw)
    (Br (cb==(-1))
     (∀pw:World,pw=u.setRow w0 #[ai,ai,ai,ai,ai,ai]->Ending.returned (.tuple #[.agg #[ai,ai,ai,ai,ai,ai],(11:Int)])=Value.tuple #[htV (cM M L k gE).1,vI (cM M L k gE).2]/\Ext w pw)
     (∀pw:World,pw=u.setRow w0 #[cx,cy,cz,cb,cf,ct]->Ending.returned (.tuple #[.agg #[cx,cy,cz,cb,cf,ct],(0:Int)])=Value.tuple #[htV (cM M L k gE).1,vI (cM M L k gE).2]/\Ext w pw)):=by
   intro u xu;have xx:=lq.tr (xd.tr xu);rw[qG];refine Br.mk (λhb=>λpw e30=>⟨?_,xx.af e30 aa⟩) (λhb=>Br.mk (λlk=>λpw e30=>⟨?_,xx.af e30 aa⟩) (λlk=>λpw e30=>⟨?_,xx.af e30 aa⟩))
   ·have hb:cq=false:=by simpa using hb
    rw[if_pos hb];rfl
   ·have hb:cq=true:=by simpa using hb
    have lk:cb= -1:=by simpa using lk
    rw[if_neg (by simp[hb]),if_pos lk];rfl
   ·have hb:cq=true:=by simpa using hb
    have lk:¬cb= -1:=by simpa using lk
    rw[if_neg (by simp[hb]),if_neg lk]
  have wayL:∀{u:World},Ext w2.drew u->ah u (some ⟨w.heap.size,0,none⟩) 0 (eV gE):=λxu=>Lo.wv (r1.ext (xd.tr xu))
  have bdyL:∀{u:World},Ext w2.drew u->ah u (ae (some ⟨b,0,none⟩) 0) 0 (pc y.1):=λxu=>Xr (WD.ext (xd.tr xu))
  refine⟨_,_,_,_,_,_,_,_,_,bdyL (Ext.bT _),?_,?_⟩
  ·refine(mh (h1.ext xd)).bf λcp aBs=>?_
   subst aBs;refine⟨_,rfl,rfl,rfl,wayL (Ext.bT _),bdyL (Ext.bT _),?_,λIw e46=>?_⟩
   ·refine(HS y.1 hhb w2.drew).bf λbZ dw=>?_
    have z16:=dw.size;refine⟨_,_,_,rfl,dw.k,dw.k,wayL dw,?_,λjV e33=>?_⟩
    ·refine(castS dw).bf λeQ fe=>?_
     have z20:=fe.size;refine⟨_,_,_,_,_,_,_,rfl,fe.k,fe.k,λiZ e28 gI S8=>?_⟩;exact fin ((dw.tr fe).tr ((aU e28).af S8 (ak _)))
    ·have gA:=aU e33;have z33:=zA e33;refine(castS (dw.tr gA)).bf λke jW=>?_
     have z34:=jW.size;refine⟨_,_,_,_,_,_,_,rfl,jW.k,jW.k,jW.k,λnS e42=>?_⟩;exact fin (((dw.tr gA).tr jW).af e42 aa)
   ·have oq:=aU e46;have z46:=zA e46;refine(HS y.1 hhb Iw).bf λoE A9=>?_
    have z47:=A9.size;refine⟨_,_,_,rfl,A9.k,A9.k,A9.k,wayL (oq.tr A9),(castS (oq.tr A9)).bf λw51 vp=>?_⟩;have z51:=vp.size;refine⟨_,_,_,_,_,_,_,rfl,vp.k,vp.k,vp.k,λpH TX=>?_⟩;exact fin (((oq.tr A9).tr vp).af TX aa)
  ·intro Ov e63;have Bo:=aU e63;have z63:=zA e63;refine(mh (h1.ext (xd.tr Bo))).bf λH4 aBt=>?_
   subst aBt;refine⟨_,rfl,rfl,rfl,rfl,wayL Bo,bdyL Bo,(HS y.1 hhb H4).bf λvR rG=>?_⟩;have z66:=rG.size;refine⟨_,_,_,rfl,rG.k,rG.k,rG.k,wayL (Bo.tr rG),(castS (Bo.tr rG)).bf λwu CJ=>?_⟩;have z70:=CJ.size;refine⟨_,_,_,_,_,_,_,rfl,CJ.k,CJ.k,CJ.k,λuf e78=>?_⟩;exact fin (((Bo.tr rG).tr CJ).af e78 aa)
end
def Qx{w:World}{g:Nat}{cs vs:LV}{E:TypeId}(hr:Row w g cs E){off:Nat}(hl:off+vs.length<=cs.length)(h1:One vs):
  Wr w (ae (aB g) off) vs.length/\∀w',w'=Vc.bB w (ae (aB g) off) vs->Row w' g (putCells cs off vs) E/\Mod (λi=>i=g) w w':=by
 rw[aF,eF];refine⟨hr.wr hl,λw' e=>?_⟩;rw[hr.bB hl h1]at e;subst e;exact⟨hr.set _,rfl,rfl,rfl,by rw[setRow_size];exact ak _,λi _ hn=>setRow_other _ _ _ _ hn⟩
section
variable{F F':Nat->Prop}{w w':World}{g s o t:Nat}{M M':Sm}{occ:Value}{L:lCs}
def EL.put{av:List (Option Nat)}(he:EL w av L){k b:Nat}(ha:av[k]? =some (some b)){y:cQ}(hr:Row w' b (Gf y) j7)(hs:∀a,some a∈av->a≠b->w'.heap[a]? =w.heap[a]?):EL w' av (L.set k (some y)):=by
 have hk:k<16:=by rw[<-he.n];exact(cG.1 ha).1
 refine⟨he.n,by rw[lO];exact he.m,λi a hi=>?_,λi hi=>?_,he.d⟩
 ·by_cases q:i=k
  ·subst q;rw[ha]at hi
   cases hi
   exact⟨y,uA (by rw[he.m];exact hk),hr⟩
  ·obtain⟨x,h1,h2⟩:=he.s i a hi;refine⟨x,by rw[GO (Ne.symm q)];exact h1,h2.same (hs a (aQ hi) λe=>?_)⟩;subst e;exact q (he.d i k a hi ha)
 ·have q:i≠k:=λe=>by subst e;rw[ha]at hi;cases hi
  rw[GO (Ne.symm q)];exact he.z i hi
def dK.aq{w0:World}(x:Ext w w0)(h:dK F w0 g s o t M occ L w'):dK F w g s o t M occ L w':=by obtain⟨F',h1,h2⟩:=h;exact⟨F',h1,(aJ.aq x).trans h2⟩
def A2(L:lCs)(n:Int)(i:Int×Int×Bool):Int×lCs:=match cE L n with|none=>(6,L)|some y=>(0,L.set n.toNat (some (y.1,i)))
def abw(h:EF F w g s o t M occ L)(n:Int)(i:Int×Int×Bool):ab 133 #[g,n,.agg #[i.1,i.2.1,.bool i.2.2]] w λe w'=>e=vI (A2 L n i).1/\dK F w g s o t M occ (A2 L n i).2 w':=by
 apply xU.vc;intro w0 e0;have x0:=aU e0;have z0:=zA e0;have h0:=h.ext x0;obtain⟨av,de,jm,hFg,hFa,bq⟩:=h0.row;refine(E0 de jm.n n).mono ?_;rintro e w1 ⟨a,rfl,Tc,hc⟩;subst Tc;unfold A2;refine⟨_,rfl,rfl,?_⟩;rcases hc with⟨k,rfl,hk,ha⟩|⟨wD,rfl⟩
 case inr=>
  rw[vK jm.m wD];exact yes rfl ⟨rfl,dK.aq x0 (h0.res (Ext.bT _))⟩
 cases a with
 |none=>
  rw[jm.at0 ha];exact yes rfl ⟨rfl,dK.aq x0 (h0.res (Ext.bT _))⟩
 |some b=>
  obtain⟨y,hy,pL,WD⟩:=jm.at ha;have hb:=h.lt (i:=b);rw[hy];have H3:One [i.1,i.2.1,.bool i.2.2]:=by intro u hu;simp at hu;rcases hu with rfl|rfl|rfl<;>rfl
  obtain⟨p1,p2⟩:=Qx WD (off:=9) (vs:=[vI i.1,vI i.2.1,.bool i.2.2]) (by show 9+3<=12;decide) H3;have hbw:b<w:=h.lt (hFa b (aQ ha));refine uN rfl (lC rfl (lC rfl ⟨⟨rfl,p1⟩,?_,λw3 e3=>?_⟩))
  ·intro q;have q:some b=some w.heap.size:=q;have q:b=w.heap.size:=Option.some.inj q;omega
  obtain⟨q1,q2⟩:=p2 w3 e3;have q1:Row w3 b (Gf (y.1,i)) j7:=q1;have gl:b≠g:=λe=>de.ne WD kM.2.2 e.symm
  refine⟨rfl,dK.aq x0 (bq (q2.mono λj _ hj=>.inr (by rw[hj];exact aQ ha)) (de.same (q2.same _ de.lt λe=>gl e.symm)) ?_ λa ha=>.inl ha)⟩;show EL w3 av (L.set ((k:Nat):Int).toNat (some (y.1,i)));rw[iI];exact jm.put ha q1 λa ha' hn=>q2.same _ (jm.lt ha') hn
def adw:eJ:=⟨(0,0,0),(0,0,0),0,0,false⟩
def dJ(L:lCs)(n:Int):eJ×Bool:=match cE L n with|none=>(adw,false)|some y=>(y.1,true)
def J7(h:EF F w g s o t M occ L)(n:Int):ed 47 #[g,n] w (Value.tuple #[Ip (dJ L n).1,.bool (dJ L n).2]):=by
 apply xV.vc;intro w0 e0;have x0:=aU e0;have z0:=zA e0;have h0:=h.ext x0;obtain⟨av,de,jm,-,-,-⟩:=h0.row;refine(E0 de jm.n n).mono ?_;rintro e w1 ⟨a,rfl,Tc,hc⟩;subst Tc;unfold dJ;refine⟨_,rfl,rfl,?_⟩;rcases hc with⟨k,rfl,hk,ha⟩|⟨wD,rfl⟩
 case inr=>
  rw[vK jm.m wD];exact yes rfl λw3 e3=>⟨rfl,x0.af e3 aa⟩
 cases a with
 |none=>
  rw[jm.at0 ha];exact yes rfl λw3 e3=>⟨rfl,x0.af e3 aa⟩
 |some b=>
  obtain⟨y,hy,pL,WD⟩:=jm.at ha;rw[hy];exact uN rfl (lC rfl (lC rfl ⟨_,_,_,_,_,_,_,_,_,Xr WD,λbw Dz=>⟨rfl,x0.af Dz aa⟩⟩))
def iA(M:Sm)(L:lCs)(c:Ce)(b:Int):Int×Sm:=if aD b=true/\Gh L c=true then(12,M)else((jo M.T.2 c b).2,Ay M c b)
def Dx(h:EF F w g s o t M occ L){m:Int}(hL:ES m L)(c:Ce)(b:Int)(Er:pQ c)(hc:(jo M.T.2 c b).2=0->fh c)(hk:qB M 800000000):ab 126 #[g,fQ c,b] w λe w'=>e=vI (iA M L c b).1/\dK F w g s o t (iA M L c b).2 occ L w':=by
 apply xS.vc;intro w0 e0;have x0:=aU e0;have z0:=zA e0;have inner:∀{u:World},Ext w0 u->¬(aD b=true/\Gh L c=true)->∃p:Option Addr,Vc.ld u (ae (aB g) 0)=some (.pointer p)/\
   ab 188 #[p,fQ c,b] u λe w6=>∃x7:Int,e=x7/\w6.heap[w.heap.size]? =u.heap[w.heap.size]?/\Ending.returned x7=vI (iA M L c b).1/\dK F w g s o t (iA M L c b).2 occ L w6:=by
  intro u xu hn;have hu:=h.ext (x0.tr xu);have zu:=xu.size;obtain⟨Fs,hs,pG,dP,bq⟩:=hu.EN;refine⟨_,pG,(Dl hs c b Er hc hk).bf λw6 hr=>?_⟩;have hk6:w6.heap[w.heap.size]? =u.heap[w.heap.size]? :=by obtain⟨F6,-,t6⟩:=hr;exact t6.mod.same _ aa λq=>by have:=h.lt (dP _ q);omega
  unfold iA;rw[if_neg hn];exact⟨_,rfl,hk6,rfl,dK.aq (x0.tr xu) (bq hr)⟩
 refine(qV b w0).bf λw1 Tc=>?_
 subst Tc;refine⟨_,rfl,rfl,Br.mk (λhb=>?_) (λhb=>inner (Ext.dr _) λq=>by rw[hb]at q;cases q.1)⟩;have h1:=h.ext x0;obtain⟨av,de,jm,-,-,-⟩:=h1.row;refine(Kb de jm hL c).bf λw3 x3=>?_
 have z3:=x3.size;refine⟨_,rfl,x3.k,Br.mk (λhq=>?_) (λhq=>?_)⟩
 ·unfold iA;rw[if_pos ⟨hb,hq⟩];exact⟨rfl,h.res (x0.tr x3)⟩
 ·exact inner (x3.tr (Ext.dr _)) λq=>by rw[hq]at q;cases q.2
def HW(h:EF F w g s o t M occ L){m:Int}(hL:ES m L)(c:Ce)(hc:fh c)(b:Int)(hk:qB M 800000000):ab 126 #[g,fQ c,b] w λe w'=>e=vI (iA M L c b).1/\dK F w g s o t (iA M L c b).2 occ L w':=
 Dx h hL c b hc.ok (λ_=>hc) hk
end
def jL(c:Ce)(m:Int):Prop:=(-m<=c.1/\c.1<=m)/\(-m<=c.2.1/\c.2.1<=m)/\-m<=c.2.2/\c.2.2<=m
def jL.wide{c:Ce}{m:Int}(h:jL c m)(hm:m<=2000000000):fh c:=by unfold jL at h;unfold fh;omega
def Ro{M:Sm}{L:lCs}{n:Int}{gE:Ce}(e:(cM M L n gE).2=0):∃y,cE L n=some y/\some y∈L/\lh (jc M.T.2) (pk y.1) gE 5=((cM M L n gE).1,true)/\(cM M L n gE).1.2.1≠-1:=by
 unfold cM at e⊢
 cases hq:cE L n with
 |none=>rw[hq]at e;simp only at e;omega
 |some y=>
  rw[hq]at e;simp only at e⊢;have hm:some y∈L:=by
   unfold cE at hq;split at hq
   ·rcases J6.1 hq with hq;exact aQ hq
   ·cases hq
  refine⟨y,rfl,hm,?_⟩;split at e
  ·simp only at e;omega
  split at e
  ·simp only at e;omega
  rename_i h1 h2;rw[if_neg h1,if_neg h2];exact⟨Prod.ext rfl (by simpa using h1),h2⟩
def Cr{M:Sm}{L:lCs}{m:Int}(hL:ES m L)(hm:m<=99970000000000){n:Int}{gE:Ce}(e:(cM M L n gE).2=0):jL (cM M L n gE).1.1 1600000005/\jL (Sx (cM M L n gE).1).1 1600000006:=by
 obtain⟨y,h1,h2,h3,h4⟩:=Ro e;have hn:=Rp (by rw[aiQ];decide) h3;have he:=Sv (hL y h2) hm;have hc:jL (cM M L n gE).1.1 1600000005:=by unfold jL;omega
 refine⟨hc,?_⟩;generalize (cM M L n gE).1=h at hc;obtain⟨c,b,f,tt⟩:=h;unfold Sx;split
 ·rename_i hf;simp only at hf⊢;obtain⟨k,rfl⟩:∃k:Nat,f=k:=⟨f.toNat,aa⟩;rw[iI];unfold jL at hc;have:k=0\/k=1\/k=2\/k=3\/k=4\/k=5:=by omega
  rcases this with rfl|rfl|rfl|rfl|rfl|rfl
  ·show jL (c.1-1,c.2.1,c.2.2) _;unfold jL;simp only;simp only at hc;omega
  ·show jL (c.1+1,c.2.1,c.2.2) _;unfold jL;simp only;simp only at hc;omega
  ·show jL (c.1,c.2.1-1,c.2.2) _;unfold jL;simp only;simp only at hc;omega
  ·show jL (c.1,c.2.1+1,c.2.2) _;unfold jL;simp only;simp only at hc;omega
  ·show jL (c.1,c.2.1,c.2.2-1) _;unfold jL;simp only;simp only at hc;omega
  ·show jL (c.1,c.2.1,c.2.2+1) _;unfold jL;simp only;simp only at hc;omega
 ·unfold jL;simp only;omega
def sW(M:Sm)(L:lCs)(n:Int)(gE:Ce)(b:Int):Int×Sm:=
 if(cM M L n gE).2=6 then(6,M)else if cN b=false then(1,M)else if b=0 then(1,M)else if(cM M L n gE).2≠0 then((cM M L n gE).2,M)else if(Sx (cM M L n gE).1).2=false then(12,M)else iA M L (Sx (cM M L n gE).1).1 b
def mE(M:Sm)(L:lCs)(n:Int)(gE:Ce):(Int×Int)×Sm:=
 if(cM M L n gE).2≠0 then((0,(cM M L n gE).2),M)else if(iA M L (cM M L n gE).1.1 0).1≠0 then((0,(iA M L (cM M L n gE).1.1 0).1),(iA M L (cM M L n gE).1.1 0).2)else(((cM M L n gE).1.2.1,0),(iA M L (cM M L n gE).1.1 0).2)
section
variable{F F':Nat->Prop}{w w':World}{g s o t:Nat}{M M':Sm}{occ:Value}{L:lCs}
def dK.aV{k:Nat}(h:EF F w g s o t M occ L){w0:World}(x:Ext w w0)(hk:w.heap.size<=k)(hk0:k<w0)(h0:∀i,F i->i<w.heap.size){M':Sm}{occ':Value}{L':lCs}(r:dK F w0 g s o t M' occ' L' w'):w'.heap[k]? =w0.heap[k]? :=by obtain⟨F',-,h2⟩:=r;exact h2.mod.same _ hk0 λq=>by have:=h0 _ q;omega
def SY(h:EF F w g s o t M occ L){m:Int}(hL:ES m L)(hm:m<=99970000000000)(n:Int)(gE:Ce)(b:Int)(hk:qB M 800000000):
  ab 127 #[g,n,fQ gE,b] w λe w'=>e=vI (sW M L n gE b).1/\dK F w g s o t (sW M L n gE b).2 occ L w':=by
 apply we.vc;intro w0 e0;have x0:=aU e0;have z0:=zA e0;refine(vL (h.ext x0) hL hm n gE).bf λw1 x1=>?_
 have z1:=x1.size;refine⟨_,_,_,_,_,_,_,rfl,x1.k,λw9 e9 br vv=>?_⟩;have bL:Ext w1 br:=(aU e9).af vv (ak _);have z10:br.heap.size=w1.heap.size+1:=by rw[zR vv,zA e9]
 have OS:=x0.tr (x1.tr bL);unfold sW;refine Br.mk (λh6=>?_) (λh6=>(gZ b br).mono ?_)
 ·rw[if_pos (by simpa using h6)];have h6:=eK h6;rw[h6];exact⟨rfl,h.res OS⟩
 rw[if_neg (by simpa using h6)];rintro e bE ⟨rfl,bS⟩;have z11:=bS.size;have aks:=OS.tr bS;refine⟨_,rfl,bS.k,bS.k,Br.mk (λhb=>?_) (λhb=>Br.mk (λOM=>?_) (λOM=>Br.mk (λhn=>?_) (λhn=>?_)))⟩
 ·rw[if_pos (by simpa using hb)];exact⟨rfl,h.res aks⟩
 ·rw[if_neg (by simpa using hb),if_pos (by simpa using OM)];exact⟨rfl,h.res aks⟩
 ·rw[if_neg (by simpa using hb),if_neg (by simpa using OM),if_pos (by simpa using hn)];exact⟨rfl,h.res aks⟩
 rw[if_neg (by simpa using hb),if_neg (by simpa using OM),if_neg (by simpa using hn)];have hn0:=eK hn;obtain⟨hn1,hn2⟩:=Cr hL hm hn0;refine(Sy (cM M L n gE).1 (hn1.wide au) bE).bf λbw cJ=>?_
 have z13:=cJ.size;refine⟨_,_,_,_,rfl,cJ.k,cJ.k,λdA Ot fm Td=>?_⟩;have dQ:Ext bw fm:=(aU Ot).af Td (ak _);have z19:fm.heap.size=bw.heap.size+1:=by rw[zR Td,zA Ot]
 have ace:=aks.tr (cJ.tr dQ);apply Br.mk<;>intro hq
 ·rw[if_pos (by simpa using hq)];exact⟨rfl,h.res ace⟩
 rw[if_neg (by simpa using hq)];refine(HW (h.ext ace) hL (Sx (cM M L n gE).1).1 (hn2.wide au) b hk).bf λeQ r=>?_
 have hh:∀i,F i->i<w.heap.size:=λi=>h.lt
 exact⟨_,rfl,dK.aV h ace aa aa hh r,dK.aV h ace aa aa hh r,dK.aV h ace aa aa hh r,rfl,dK.aq ace r⟩
def SZ(h:EF F w g s o t M occ L){m:Int}(hL:ES m L)(hm:m<=99970000000000)(n:Int)(gE:Ce)(hk:qB M 800000000):
  ab 129 #[g,n,fQ gE] w λe w'=>e=Value.tuple #[vI (mE M L n gE).1.1,vI (mE M L n gE).1.2]/\dK F w g s o t (mE M L n gE).2 occ L w':=by
 apply wg.vc;intro w0 e0;have x0:=aU e0;have z0:=zA e0;refine(vL (h.ext x0) hL hm n gE).bf λw1 x1=>?_
 have z1:=x1.size;refine⟨_,_,_,_,_,_,_,rfl,x1.k,λw9 e9 br vv=>?_⟩;have bL:Ext w1 br:=(aU e9).af vv (ak _);have z10:br.heap.size=w1.heap.size+1:=by rw[zR vv,zA e9]
 have OS:=x0.tr (x1.tr bL);unfold mE;refine Br.mk (λh0=>?_) (λh0=>yes (by simpa using h0) ?_)
 ·have hn0:=eK h0;rw[if_neg (by simp[hn0])];obtain⟨hn1,-⟩:=Cr hL hm hn0;refine(HW (h.ext OS) hL (cM M L n gE).1.1 (hn1.wide au) 0 hk).bf λbE r=>?_
  have hh:∀i,F i->i<w.heap.size:=λi=>h.lt
  refine⟨_,rfl,dK.aV h OS aa aa hh r,dK.aV h OS aa aa hh r,Br.mk (λhq=>?_) (λhq=>?_)⟩
  ·rw[if_pos (by simpa using hq)];exact⟨rfl,dK.aq OS r⟩
  ·rw[if_neg (by simpa using hq)];exact⟨rfl,dK.aq OS r⟩
 ·rw[if_pos (by simpa using h0)];exact⟨rfl,h.res OS⟩
end
def wQ(M:Sm)(L:lCs)(i:Nat):Bool:=match cE L i with|some y=>BT M y.1|none=>false
def kJ(M:Sm)(L:lCs):List Nat:=(List.range 16).filter (wQ M L)
def uP(M:Sm)(L:lCs)(i:Nat):eJ:=match cE L i with|some y=>zU (jc M.T.2) y.1 y.2|none=>adw
def Gw(M:Sm)(L:lCs):List eJ:=uX (jc M.T.2) ((kJ M L).map (uP M L))
def D4(L:lCs)(i:Nat)(b:eJ):lCs:=match cE L i with|some y=>L.set i (some (b,y.2))|none=>L
def Kf(L:lCs)(l:List (Nat×eJ)):lCs:=l.foldl (λL x=>D4 L x.1 x.2) L
def sD(M:Sm)(L:lCs):lCs:=Kf L ((kJ M L).zip (Gw M L))
def zS(M:Sm)(L:lCs):Sm×lCs:=(QT (Gh (sD M L)) M,sD M L)
abbrev tLp:TypeId:=61
def aqU(p:Option Addr):One [.pointer p]:=by intro u hu;simp at hu;subst hu;rfl
def uQ{L:lCs}{i:Nat}{y:cQ}(h:cE L i=some y):some y∈L:=by unfold cE at h;rw[if_pos aa,iI]at h;exact aQ (J6.1 h)
def zT{M:Sm}{L:lCs}{i:Nat}(h:i∈kJ M L):i<16/\∃y,cE L i=some y:=by
 unfold kJ at h;obtain⟨h1,h2⟩:=jY.1 h;refine⟨qc.1 h1,?_⟩;unfold wQ at h2
 cases hq:cE L i with
 |none=>rw[hq]at h2;cases h2
 |some y=>exact⟨y,rfl⟩
def afD{L:lCs}{i j:Nat}{b:eJ}:(cE (D4 L i b) j).isSome=(cE L j).isSome:=by
 unfold D4
 cases hq:cE L i with
 |none=>rfl
 |some y=>
  simp only;unfold cE at hq⊢;rw[if_pos aa,iI]at hq⊢;rw[if_pos aa];by_cases e:i=j
  ·subst e;have hq:=J6.1 hq;rw[uA (cG.1 hq).1,hq];rfl
  ·rw[GO e]
def Kj{j:Nat}:∀(l:List (Nat×eJ))(L:lCs),(cE (Kf L l) j).isSome=(cE L j).isSome
 | [],L=>rfl
 |x::l,L=>(Kj l (D4 L x.1 x.2)).trans afD
def ani{L:lCs}{i:Nat}{b:eJ}{m:Int}(h:ES m L)(hb:okB m b):ES m (D4 L i b):=by
 unfold D4
 cases hq:cE L i with
 |none=>exact h
 |some y=>
  intro z hz;rcases pY hz with hz|hz
  ·exact h z hz
  ·cases hz
   exact hb
def Xs{m:Int}:∀(l:List (Nat×eJ)) {L:lCs},ES m L->(∀x∈l,okB m x.2)->ES m (Kf L l)
 | [],L,h,_=>h
 |x::l,L,h,hl=>Xs l (ani h (hl x bo)) λy hy=>hl y (by simp[hy])
def aii(M:Sm)(L:lCs):(kJ M L).length<=16:=by have:=zy (wQ M L) (List.range 16);rw[Gx]at this;exact this
def adT{M:Sm}{L:lCs}{m:Int}(h:ES m L)(hm:m<=99970000000000):∀b∈(kJ M L).map (uP M L),okB (m+16777216) b:=by intro b hb;obtain⟨i,hi,rfl⟩:=bc.1 hb;obtain⟨-,y,hy⟩:=zT hi;unfold uP;rw[hy];exact aiv (h y (uQ hy)) hm
section
variable{F F':Nat->Prop}{w w':World}{g s o t:Nat}{M M':Sm}{occ:Value}{L:lCs}
def EL.awb{av:List (Option Nat)}(he:EL w av L){k b:Nat}(ha:av[k]? =some (some b)){y:cQ}(hy:cE L k=some y)(x:eJ){w':World}(hr:Row w' b (Gf (x,y.2)) j7)(hs:∀a,some a∈av->a≠b->w'.heap[a]? =w.heap[a]?):EL w' av (D4 L k x):=by
 have e:D4 L k x=L.set k (some (x,y.2)):=by unfold D4;rw[hy]
 rw[e];exact he.put ha hr hs
def EL.full{av:List (Option Nat)}(he:EL w av L){k:Nat}{y:cQ}(hk:k<16)(hy:cE L k=some y):∃b,av[k]? =some (some b)/\Row w b (Gf y) j7:=by
 obtain⟨a,ha⟩:=bX (l:=av) (i:=k) (by rw[he.n];exact hk)
 cases a with
 |none=>rw[he.at0 ha]at hy;cases hy
 |some b=>
  obtain⟨z,h1,-,h3⟩:=he.at ha;rw[h1]at hy
  cases hy
  exact⟨b,ha,h3⟩
def SF.oc{Fs:Nat->Prop}(h2:SF Fs w s o t M occ){p:Value}{av:List (Option Nat)}(h1:Row w g (p::av.map pA) uw)(h3:EL w av L){m:Int}(hL:ES m L):Oc (.func (.func 84) #[g] #[]) (Gh L) Fs w:=by
 have ng:¬Fs g:=h2.pX h1 kM.1.1 kM.1.2.1 kM.1.2.2.1 kM.1.2.2.2.1 kM.1.2.2.2.2.1 kM.1.2.2.2.2.2.1 kM.1.2.2.2.2.2.2;have na:∀a,some a∈av->¬Fs a:=λa ha=>by obtain⟨i,hi⟩:=qA ha;obtain⟨x,-,hr⟩:=h3.s i a hi;exact h2.pX hr kM.2.1.1 kM.2.1.2.1 kM.2.1.2.2.1 kM.2.1.2.2.2.1 kM.2.1.2.2.2.2.1 kM.2.1.2.2.2.2.2.1 kM.2.1.2.2.2.2.2.2
 refine⟨λi=>i=g\/some i∈av,λi hi=>?_,λw' hk c _=>bR (by kernel_rfl) rfl (Kb (h1.same (hk _ (.inl rfl))) (h3.same λa ha=>hk a (.inr ha)) hL c)⟩;rcases hi with rfl|hi
 ·exact⟨h1.lt,ng⟩
 ·exact⟨h3.lt hi,na i hi⟩
end
section
variable{F F':Nat->Prop}{w w':World}{g s o t:Nat}{M M':Sm}{occ:Value}{L:lCs}
abbrev Qw(M:Sm)(L:lCs)(j:Nat):lCs:=Kf L (((kJ M L).zip (Gw M L)).take j)
def ZD{j:Nat}{i:Nat}{b:eJ}(hi:(kJ M L)[j]? =some i)(hb:(Gw M L)[j]? =some b):Qw M L (j+1)=D4 (Qw M L j) i b:=by
 have e:((kJ M L).zip (Gw M L))[j]? =some (i,b):=by rw[List.getElem?_zip_eq_some];exact⟨hi,hb⟩
 unfold Qw Kf;rw[dq,e,og];rfl
def adS(h:(Gw M L).length=(kJ M L).length):Qw M L (kJ M L).length=sD M L:=by unfold Qw sD;rw[dN (by rw[List.length_zip,h];omega)]
def Kg(h:EF F w g s o t M occ L){m:Int}(hL:ES m L)(hm0:0<=m)(hm:m<=99900000000000)(hd:Xq (uO M))(hk:qB M 600000000)(ayB:1<=M.dz/\M.dz<=64):
  ab 50 #[g] w λe w'=>e=vI (uO M).length/\dK F w g s o t (zS M L).1 (.func (.func 84) #[g] #[]) (zS M L).2 w'/\ES (m+3300000000) (zS M L).2:=by
 apply xP.vc;obtain⟨av,de,jm,hFg,hFa,bq⟩:=h.row;have pG:ah w (ae (aB g) 1) 0 (av.map pA):=by rw[aF];exact de.bH λj hj=>by rw[show 0+1+j=j+1 from by omega,Kh]
 obtain⟨b0,b1,b2,b3,b4,b5,b6,b7,b8,b9,b10,b11,b12,KX,Wc,Ym,hav⟩:=M3 jm.n;have gd:∀k:Nat,k<16->∃a:Option Nat,(([b0,b1,b2,b3,b4,b5,b6,b7,b8,b9,b10,b11,b12,KX,Wc,Ym]:List (Option Nat)).map pA)[((k:Nat):Int).toNat*1]? =some (pA a)/\av[k]? =some a:=λk hk=>by obtain⟨a,ha⟩:=bX (l:=av) (i:=k) (by rw[jm.n];exact hk);exact⟨a,by rw[<-hav,iI,zp,aW,ha];rfl,ha⟩
 rw[hav]at pG;have atk:∀i:Nat,i∈kJ M L->∃b y,av[i]? =some (some b)/\cE L i=some y/\Row w b (Gf y) j7:=λi hi=>by obtain⟨h1,y,hy⟩:=zT hi;obtain⟨b,h2,h3⟩:=jm.full h1 hy;exact⟨b,y,h2,hy,h3⟩
 have hwl:=aii M L
 let ptr:Nat->LV:=λi=>[pA (av.getD i none)]
 have ptr_eq:∀{i:Nat}{a:Option Nat},av[i]? =some a->ptr i=[pA a]:=λ{i a} ha=>by show [pA (av.getD i none)]=_;rw[dG,ha];rfl
 refine⟨_,_,_,_,_,_,_,_,_,_,_,_,_,_,_,_,pG,λn x sl wr=>∃k:Nat,x=k/\k+n=16/\ar w tLp 1 wr sl (((List.range k).filter (wQ M L)).map ptr)/\Ext w wr,⟨16,0,rfl,rfl,ar.nil,Ext.bT _⟩,?_⟩;rintro n us x sl wr ⟨k,rfl,hk',ho,xr⟩;have zr:=xr.size;apply Br.mk<;>intro hb
 ·have hb:=eK hb;obtain⟨a,ha,ha'⟩:=gd k aa;have wk:=nE (j:=k);have cX:sl.n<=16:=by have h1:=(ho.rd (show 0<1 by decide)).n;have h2:=zy (wQ M L) (List.range k);rw[aK]at h1;rw[Gx]at h2;omega
  have skip:wQ M L k=false->∀{u:World},Ext wr u->∃n22,n22<n/\∃k':Nat,aC ((k:Int)+1)=k'/\k'+n22=16/\ar w tLp 1 u ⟨sl.a,sl.n,sl.c⟩ (((List.range k').filter (wQ M L)).map ptr)/\Ext w u:=λhq {u} xu=>by refine⟨n-1,aa,k+1,wk,aa,?_,xr.tr xu⟩;rw[Ki,wG,cl,W7 (by rw[hq];decide)];simpa using ho.ext xu
  refine⟨⟨aa,aa⟩,_,ha,?_⟩
  cases a with
  |none=>
   refine uN rfl (skip ?_ (Ext.bT _));unfold wQ;rw[jm.at0 ha']
  |some b=>
   obtain⟨y,hy,pL,WD⟩:=jm.at ha';refine yes rfl (lC rfl (lC rfl ⟨_,_,_,_,_,_,_,_,_,Xr (WD.ext xr),(C7 (h.ext xr) y.1).bf λjV gA=>?_⟩));have z33:=gA.size;have hwake:wQ M L k=BT M y.1:=by unfold wQ;rw[hy]
   refine⟨_,rfl,Br.mk (λhq=>λiD e35=>?_) (λhq=>skip (by rw[hwake];exact hq) gA)⟩;subst e35;obtain⟨Te,hres8⟩:=(ho.ext gA).l6 (bytes:=8) (news:=[pA (some b)]) (.cells #[pA (some b)] tLp) aa rfl (aqU _) aa aa;refine⟨Te,λs36 jD ayC=>?_⟩;obtain⟨f8,KZ,hn8,x8,hk8,-⟩:=hres8 s36 jD ayC;refine⟨f8,n-1,aa,k+1,wk,aa,?_,(Below.trans (xr.tr gA) x8:Below w w jD)⟩;rw[Ki,wG,cl,W6 (by rw[hwake];exact hq)];show ar _ _ _ _ _ (_++[ptr k]);rw[ptr_eq ha'];exact KZ
 have hb:=eK hb;have EG:k=16:=by omega
 subst EG;replace ho:ar w tLp 1 wr sl ((kJ M L).map ptr):=ho;have tE:sl.n=(kJ M L).length:=by rw[(ho.rd (show 0<1 by decide)).n,aK]
 have slk:∀b,sl.aX=some b->w.heap.size<=b/\b<wr.heap.size:=λb hb=>ho.own.lt hb
 refine⟨λn x s2 iO=>∃j:Nat,x=j/\j+n=(kJ M L).length/\ar wr DR 9 iO s2 ((((kJ M L).take j).map (uP M L)).map pc)/\Ext wr iO,⟨(kJ M L).length,0,rfl,aa,ar.nil,Ext.bT _⟩,?_⟩;rintro n2 Bn x s2 iO ⟨j,rfl,hj,ho2,vU⟩;have z43:=vU.size;apply Br.mk<;>intro hb
 ·have hb:=eK hb;have hjw:j<(kJ M L).length:=by omega
  obtain⟨i,hi⟩:=bX (l:=kJ M L) (i:=j) hjw;obtain⟨b,y,hab,hy,WD⟩:=atk i (aQ hi);have agI:=(ho.ext vU).rd (show 0<1 by decide);have Yu:((kJ M L).map ptr)[j]? =some [pA (some b)]:=by rw[aW,hi];exact congrArg some (ptr_eq hab)
  have aoO:Vc.ld iO (ae sl.a ((j:Int).toNat*1))=some (pA (some b)):=by have:=agI.at Yu (j:=0) (v:=pA (some b)) rfl;rw[gk]at this;exact this
  have xd:=Ext.dr iO;have hbdL:∀{u:World},Ext iO u->ah u (ae (aB b) 0) 0 (pc y.1):=λxu=>Xr (WD.ext (xr.tr (vU.tr xu)))
  have hinL:∀{u:World},Ext iO u->ah u (ae (aB b) 9) 0 [vI y.2.1,vI y.2.2.1,.bool y.2.2.2]:=λxu=>aqV (WD.ext (xr.tr (vU.tr xu)))
  refine⟨agI.jX au aa aa,_,aoO,lC rfl (lC rfl ⟨_,_,_,_,_,_,_,_,_,hbdL xd,lC rfl (lC rfl ⟨_,_,_,hinL xd,(mh (h.ext (xr.tr (vU.tr xd)))).bf λvQ ayE=>?_⟩)⟩)⟩;subst ayE;have oky:=hL y (uQ hy);refine⟨_,rfl,hinL xd,hbdL xd,(UX (h.ext (xr.tr (vU.tr xd))).tl rfl y.1 oky.wdi oky.2.2.2 (oky.zG aa) aa y.2).bf λlV qF=>?_⟩;have z60:=qF.size;have zd:=nV iO;refine⟨_,_,_,_,_,_,_,_,_,rfl,λwu e70=>?_⟩;subst e70;have cX:s2.n<=16:=by have h1:=(ho2.rd (show 0<9 by decide)).n;rw[aK,aK,cS]at h1;omega
  obtain⟨Te,hres8⟩:=(ho2.ext (xd.tr qF)).l6 (bytes:=72) (news:=pc (zU (jc M.T.2) y.1 y.2)) (.cells (pc (zU (jc M.T.2) y.1 y.2)).toArray DR) aa rfl (M4 _) aa aa;refine⟨Te,λs71 w72 ayF=>?_⟩;obtain⟨f8,KZ,hn8,x8,hk8,-⟩:=hres8 s71 w72 ayF;have wk:=nE (j:=j);refine⟨f8,n2-1,aa,j+1,wk,aa,?_,(Below.trans (vU.tr (xd.tr qF)) x8:Below wr wr w72)⟩;rw[dq,hi,cl,cl];have e1:uP M L i=zU (jc M.T.2) y.1 y.2:=by unfold uP;rw[hy]
  show ar _ _ _ _ _ (_++[pc (uP M L i)]);rw[e1];exact KZ
 have hb:=eK hb;have hjw:j=(kJ M L).length:=by omega
 subst hjw;rw[kB]at ho2;have h43:=h.ext (xr.tr vU);refine(mh h43).bf λJu ayG=>?_
 subst ayG;refine⟨_,rfl,(UY h43.tl rfl ho2 (by rw[aK];exact hwl) (adT hL aa) aa aa).mono ?_⟩;rintro e uh ⟨s76,rfl,agJ,Lc,hok,hln⟩;rw[aK]at hln;replace agJ:ar Ju DR 9 uh s76 ((Gw M L).map pc):=agJ;replace hln:(Gw M L).length=(kJ M L).length:=hln;replace hok:∀b∈Gw M L,okB (m+16777216+16*16*12582912) b:=hok;have z75:=Lc.size;have s76k:∀b,s76.aX=some b->Ju.heap.size<=b/\b<uh.heap.size:=λb hb=>agJ.own.lt hb
 have aFW:s76.n=(kJ M L).length:=by rw[(agJ.rd (show 0<9 by decide)).n,aK,hln]
 have agK:=xr.tr (vU.tr Lc);have avlt:∀a,some a∈av->a<w.heap.size:=λa ha=>jm.lt ha
 have gl:∀a,some a∈av->a≠g:=λa ha q=>by subst q;obtain⟨i,hi⟩:=qA ha;obtain⟨x,-,hr⟩:=jm.s i a hi;exact de.ne hr kM.2.2 rfl
 refine⟨s76,rfl,λn x wA=>∃j:Nat,x=j/\j+n=(kJ M L).length/\EL wA av (Qw M L j)/\Mod (λi=>some i∈av) uh wA,⟨(kJ M L).length,0,rfl,aa,(jm.same λa ha=>agK.heap (jm.lt ha)),Mod.refl _ _⟩,?_⟩;rintro n3 us3 x wA ⟨j,rfl,hj,ajY,m81⟩;have z81:=m81.size;apply Br.mk<;>intro hb
 ·have hb:=eK hb;have hjw:j<(kJ M L).length:=by omega
  obtain⟨i,hi⟩:=bX (l:=kJ M L) (i:=j) hjw;obtain⟨x,hx⟩:=bX (l:=Gw M L) (i:=j) aa;obtain⟨b,y0,hab,hy0,-⟩:=atk i (aQ hi);have ab2:=(zT (aQ hi)).1;obtain⟨y,hy⟩:∃y,cE (Qw M L j) i=some y:=by
   have:=Kj (j:=i) (((kJ M L).zip (Gw M L)).take j) L;rw[hy0]at this
   cases hq:cE (Qw M L j) i with
   |none=>rw[hq]at this;cases this
   |some y=>exact⟨y,rfl⟩
  obtain⟨b',asn,WD⟩:=ajY.full ab2 hy;rw[hab]at asn
  cases asn
  have hrd76:=(m81.gR agJ λb hb hq=>by have:=s76k b hb;have:=avlt b hq;omega).rd (show 0<9 by decide);have hrx:((Gw M L).map pc)[j]? =some (pc x):=by rw[aW,hx];rfl
  refine⟨hrd76.jX au aa aa,_,_,_,_,_,_,_,_,_,hrd76.bH hrx,λw92 e92 Ld e93=>?_⟩;have Wi:Ext wA Ld:=(aU e92).af e93 (ak _);have z93:Ld.heap.size=wA.heap.size+1:=by rw[zR e93,zA e92]
  have xd:=Wi.tr (Ext.dr Ld);have agI:=(((m81.gR ((ho.ext vU).ext Lc) λb hb hq=>by have:=slk b hb;have:=avlt b hq;omega).ext Wi).ext (Ext.dr Ld)).rd (show 0<1 by decide);have Yu:((kJ M L).map ptr)[j]? =some [pA (some b)]:=by rw[aW,hi];exact congrArg some (ptr_eq hab)
  have aoO:Vc.ld Ld.drew (ae sl.a ((j:Int).toNat*1))=some (pA (some b)):=by have:=agI.at Yu (j:=0) (v:=pA (some b)) rfl;rw[gk]at this;exact this
  have aFY:=avlt b (aQ hab);have hwz:=agK.size;obtain⟨p1,p2⟩:=Qx (WD.ext xd) (off:=0) (vs:=pc x) (by show 0+9<=12;decide) (M4 x);refine⟨agI.jX au aa aa,_,aoO,lC rfl (lC rfl ⟨⟨rfl,p1⟩,?_,λw95 e95=>?_⟩)⟩
  ·intro q;have q:some b=some wA.heap.size:=q;have q:b=wA.heap.size:=Option.some.inj q;omega
  obtain⟨q1,q2⟩:=p2 w95 e95;have q1:Row w95 b (Gf (x,y.2)) j7:=q1;have wk:=nE (j:=j);refine⟨n3-1,aa,j+1,wk,aa,?_,m81.trans ((Mod.aq xd).trans (q2.mono λi _ hi=>by rw[hi];exact aQ hab))⟩;rw[ZD hi hx];refine ajY.awb hab hy x q1 λa ha hn=>?_
  have:=avlt a ha;exact(q2.same a (by have:=xd.size;omega) hn).trans (xd.k)
 have hb:=eK hb;have hjw:j=(kJ M L).length:=by omega
 subst hjw;rw[adS hln]at ajY;have ayH:Mod (λi=>i=g\/some i∈av) w wA:=(Mod.aq agK).trans (m81.mono λi _ hi=>.inr hi);obtain⟨F81,h81,t81⟩:=bq ayH (de.ext agK|>.same (m81.same _ (by have:=agK.size;have:=de.lt;omega) λq=>gl g q rfl)) ajY λa ha=>.inl ha
 have hok2:ES (m+3300000000) (sD M L):=Xs _ (hL.up aa) λx hx=>(hok x.2 (List.of_mem_zip hx).2).up aa
 obtain⟨Fs,hs,pG,dP,hresS⟩:=h81.EN;refine⟨_,pG,(M5 hs (.func 84) #[g] #[]).mono ?_⟩;rintro e w97 ⟨rfl,hr,-⟩;refine⟨rfl,?_⟩;obtain⟨F97,h97,t97⟩:=hresS hr;obtain⟨Fs2,yL,hld2,hsub2,hresS2⟩:=h97.EN;obtain⟨av2,hrow2,hel2,-,-,-⟩:=h97.row;refine⟨_,hld2,(ZE yL (yL.oc hrow2 hel2 hok2) hd hk ayB).bf λIu jT=>?_⟩;obtain⟨F99,h99,t99⟩:=hresS2 jT;exact⟨_,rfl,rfl,⟨F99,h99,t81.trans (t97.trans t99)⟩,hok2⟩
end
structure Ap(B:Nat)(w0:World)(s0:Sl)(w:World)(s:Sl)(b:List Int):Prop where
 own:nY B w s b
 bel:Below B w0 w
 Vf:∀j,s0.aX≠some j->j<w0.heap.size->w.heap[j]? =w0.heap[j]?
 aX:∀j,s.aX=some j->s0.aX=some j\/w0.heap.size<=j
 low:B<=w0
def Ap.refl{B:Nat}{w:World}{s:Sl}{b:List Int}(h:nY B w s b)(hB:B<=w):Ap B w s w s b:=⟨h,Below.refl _ _,λ_ _ _=>rfl,λ_ hj=>.inl hj,hB⟩
def Ap.ext{B:Nat}{w0 w u:World}{s0 s:Sl}{b:List Int}(h:Ap B w0 s0 w s b)(x:Ext w u):Ap B w0 s0 u s b:=
 ⟨h.own.ext x,Below.trans h.bel (Below.mono x (cV h.low h.bel.size)),λj hj hl=>(x.heap (gK hl h.bel.size)).trans (h.Vf j hj hl),h.aX,h.low⟩
def Ap.n{B:Nat}{w0 w:World}{s0 s:Sl}{b:List Int}(h:Ap B w0 s0 w s b):s.n=b.length:=by rw[(h.own.rd au).n,aK]
def Ap.app{B:Nat}{w0 w:World}{s0 s:Sl}{b:List Int}(h:Ap B w0 s0 w s b)(news:List Int)(hl:b.length+news.length<=1000000):
  bj 1 1 w s news.length (news.map yv).flatten/\∀s' w',aY jG 1 w s news.length (news.map yv).flatten s' w'->Ap B w0 s0 w' s' (b++news)/\(∀j,s.aX≠some j->j<w.heap.size->w'.heap[j]? =w.heap[j]?)/\(s'.aX=s.aX\/s'.aX=some w.heap.size)/\w.heap.size<=w'.heap.size:=by
 have hn:=h.n;have hlm:(news.map yv).length=news.length:=aK ..;have hB:B<=w:=cV h.low h.bel.size;obtain⟨hp,hr⟩:=h.own.FB (bytes:=1) (more:=news.map yv) hB (λr hr=>by obtain⟨x,-,rfl⟩:=bc.1 hr;rfl) (λr hr=>by obtain⟨x,-,rfl⟩:=bc.1 hr;exact wE _ _) aa aa;rw[hlm]at hp hr;refine⟨hp,λs' w' bq=>?_⟩;obtain⟨h1,h2,h3,h4,h5⟩:=hr s' w' bq;have hz:=h3.size;have hz0:=h.bel.size;refine⟨⟨by show ar _ _ _ _ _ ((b++news).map yv);rw[cl];exact h1,Below.trans h.bel h3,λj hj hl=>?_,λj hj=>?_,h.low⟩,h4,h5,h3.size⟩
 ·have:s.aX≠some j:=λe=>by
   rcases h.aX j e with q|q
   ·exact hj q
   ·omega
  exact(h4 j this aa).trans (h.Vf j hj hl)
 ·rcases h5 with q|q
  ·exact h.aX j (by rw[<-q];exact hj)
  ·rw[q]at hj;injection hj with hj;exact .inr aa
def Ap.ne{B:Nat}{w0 w:World}{s0 s:Sl}{b:List Int}(h:Ap B w0 s0 w s b){j:Nat}(hj:w.heap.size<=j):s.aX≠some j:=λe=>by have:=(h.own.own.lt e).2;omega
def Ap.l6{B:Nat}{w0 w v:World}{s0 s:Sl}{b:List Int}(h:Ap B w0 s0 w s b)(news:List Int)(hl:b.length+news.length<=1000000){o:Obj}(e:v=w.alloc o):
  bj 1 1 v s news.length (news.map yv).flatten/\∀s' w',aY jG 1 v s news.length (news.map yv).flatten s' w'->Ap B w0 s0 w' s' (b++news)/\w'.heap[w.heap.size]? =v.heap[w.heap.size]?/\(∀j,s.aX≠some j->j<v.heap.size->w'.heap[j]? =v.heap[j]?)/\(s'.aX=s.aX\/s'.aX=some v.heap.size)/\v.heap.size<=w'.heap.size:=by
 obtain⟨hp,hr⟩:=(h.ext (aU e)).app news hl;have z:=zA e;refine⟨hp,λs' w' bq=>?_⟩;obtain⟨h1,h2,h3,h4⟩:=hr s' w' bq;exact⟨h1,h2 _ (h.ne (ak _)) aa,h2,h3,h4⟩
def sJ{s s':Sl}{n j:Nat}(hb:s'.aX=s.aX\/s'.aX=some n)(h1:s.aX≠some j)(h2:n≠j):s'.aX≠some j:=λe=>by
 rcases hb with q|q
 ·exact h1 (q.symm.trans e)
 ·rw[q]at e
  injection e with e
  exact h2 e
def Ap.off{B:Nat}{w0 w:World}{s0 s:Sl}{b:List Int}(h:Ap B w0 s0 w s b){j:Nat}(hj:s0.aX≠some j)(hl:j<w0):s.aX≠some j:=λe=>by
 rcases h.aX j e with q|q
 ·exact hj q
 ·omega
def Ap.trans{B:Nat}{w0 w w':World}{s0 s s':Sl}{b b':List Int}(h:Ap B w0 s0 w s b)(k:Ap B w s w' s' b'):Ap B w0 s0 w' s' b':=
 ⟨k.own,Below.trans h.bel k.bel,λj hj hl=>(k.Vf j (h.off hj hl) (gK hl h.bel.size)).trans (h.Vf j hj hl),λj hj=>(k.aX j hj).elim (λq=>h.aX j q) λq=>.inr (cV h.bel.size q),h.low⟩
def rdI{w v:World}{l:List Int}{o:TypeId}(e:v=w.alloc (.cells (l.map (Value.int .i64)).toArray o)):RdK v ⟨aB w.heap.size,l.length,l.length⟩ 1 (l.map iv):=by
 have hr:Row v w (l.map (Value.int .i64)) o:=by rw[e];exact Row.new w _ _
 have hf:∀l:List Int,(l.map iv).flatten=l.map (Value.int .i64):=λl=>by
  induction l with
  |nil=>rfl
  |cons a l ih=>rw[eH,kX,ih];rfl
 exact(ar.jO (B:=0) (k:=1) (eG _) hr (by rw[aK];omega) (ak _) (by rw[hf,dN (by rw[aK];omega)]) λr hr=>by obtain⟨x,-,rfl⟩:=bc.1 hr;rfl).rd au
def Xz(n:Int):Nat->Int
 |0=>n/1099511627776%256
 |1=>n/4294967296%256
 |2=>n/16777216%256
 |3=>n/65536%256
 |4=>n/256%256
 |_=>n%256
def j3(n:Int):List Int:=(List.range 6).map (Xz n)
def qt(l:List Int):List Int:=(l.map j3).flatten
def uz(n:Int):(j3 n).length=6:=rfl
def AH(l:List Int):(qt l).length=6*l.length:=by
 unfold qt
 induction l with
 |nil=>rfl
 |cons a l ih=>rw[eH,kX,cj,ih,uz,cL];omega
def aac{l:List Int}{k:Nat}{n:Int}(h:l[k]? =some n):qt (l.take (k+1))=qt (l.take k)++j3 n:=by unfold qt;rw[dq,h,cl,zm];simp
def ac4(n:Int)(q:Nat):0<=Xz n q/\Xz n q<256:=by unfold Xz;split<;>omega
def aad{α:Type}(f:Nat->α)(q:Nat):(List.range (q+1)).map f=(List.range q).map f++[f q]:=by rw[Ki,cl];rfl
def aiI(n:Int)(q:Nat)(hq:q<6):qH (n.fdiv (2^(min (aC (8*(5-(q:Int)))).toNat 64)))=Xz n q:=by
 rw[wrap_u8];have:q=0\/q=1\/q=2\/q=3\/q=4\/q=5:=by omega
 rcases this with rfl|rfl|rfl|rfl|rfl|rfl
 all_goals
  rw[tj _ au]
 ·show n/1099511627776%256=_;rfl
 ·show n/4294967296%256=_;rfl
 ·show n/16777216%256=_;rfl
 ·show n/65536%256=_;rfl
 ·show n/256%256=_;rfl
 ·show n/1%256=_;rw[Int.ediv_one];rfl
def q9{B:Nat}{w:World}{s:Sl}{b:List Int}(h:nY B w s b)(hB:B<=w){s1:Sl}{l:List Int}(hl:RdK w s1 1 (l.map iv))(gl:l≠[]->∀j,s1.aX=some j->s.aX≠some j)(cX:b.length+6*l.length<=900000):
  ab 59 #[s,s1] w λe w'=>∃s':Sl,e=s'/\Ap B w s w' s' (b++qt l):=by
 apply Vg.vc;have hn1:s1.n=l.length:=by rw[hl.n,aK]
 refine⟨λn x sl wr=>∃k:Nat,x=k/\k+n=l.length/\Ap B w s wr sl (b++qt (l.take k)),⟨l.length,0,rfl,aa,by rw[JO];show Ap B w s w s (b++[]);rw[oV];exact Ap.refl h hB⟩,?_⟩;rintro n us x sl wr ⟨k,rfl,hk,ha⟩;apply Br.mk<;>intro hq
 ·have hq:=eK hq;have Yv:k<l.length:=by omega
  obtain⟨y,hy⟩:=bX Yv;have azM:l≠[]:=λe=>by rw[e]at Yv;exact absurd Yv bo
  have gF:RdK wr s1 1 (l.map iv):=hl.akO λhrn j hj=>ha.Vf j (gl azM j hj) (hl.Me au hrn hj)
  have hyi:(l.map iv)[k]? =some (iv y):=by rw[aW,hy];rfl
  have pG:=gF.at hyi (j:=0) (v:=vI y) rfl;rw[gk]at pG;have hdl:(qt (l.take k)).length=6*k:=by rw[AH,cS];omega
  have wk:=nE (j:=k);refine⟨gF.jX au aa hq,y,pG,λn x qo bw=>∃q:Nat,x=5-(q:Int)/\q+n=6/\Ap B w s bw qo (b++qt (l.take k)++(List.range q).map (Xz y)),⟨6,0,rfl,rfl,by simpa using ha⟩,?_⟩;rintro n9 agB x qo bw ⟨q,rfl,hq6,hA⟩;apply Br.mk<;>intro hc
  ·have hc:=eK hc;rw[aiI y q aa];refine bO.2 ⟨EJ.2 (by rw[wI];omega),λc9 pC=>?_⟩;obtain⟨hp,hr⟩:=hA.l6 [Xz y q] (by simp only[cj,aK,Gx,hdl,cL,mV];omega) pC;refine⟨hp,λs16 cP h17=>?_⟩;obtain⟨h1,h2,-⟩:=hr s16 cP h17;refine⟨h2,n9-1,aa,q+1,by rw[wI];omega,aa,?_⟩;rw[aad,<-fT];exact h1
  ·have hc:=eK hc;have:q=6:=by omega
   subst this;refine⟨n-1,aa,k+1,wk,aa,?_⟩;rw[aac hy,<-fT];exact hA
 ·have hq:=eK hq;have:k=l.length:=by omega
  subst this;rw[kB]at ha;exact⟨sl,rfl,ha⟩
def stB(b:Bool):Int:=if b then 1 else 0
abbrev tk(b:eJ):List Int:=[b.aw.1,b.aw.2.1,b.aw.2.2,b.speed.1,b.speed.2.1,b.speed.2.2,b.wd,b.ht]
def BD(i:Int)(b:eJ):List Int:=i::(qt (tk b)++[stB b.fG])
def FG(L:lCs)(i:Int):List Int:=match cE L i with|some y=>BD i y.1|none=>[]
def dT(L:lCs)(l:List Int):List Int:=(l.map (FG L)).flatten
def ir(x:dS.It):List Int:=qt [x.1,x.2.1,x.2.2.1,x.2.2.2]
def ij(l:List dS.It):List Int:=[((min l.length 2000:Nat):Int)/256%256,((min l.length 2000:Nat):Int)%256]++((l.take 2000).map ir).flatten
def fZ(now:Int)(n:Nat):List Int:=j3 now++[(n:Int)%256]
def dy(M:Sm)(L:lCs):List Int:=fZ M.now (bh L).length++dT L (bh L)++ij M.q.l
def uy(L:lCs):(bh L).length<=16:=by unfold bh;rw[aK];have:=zy (λi:Nat=>(cE L (i:Nat)).isSome) (List.range 16);rw[Gx]at this;exact this
def ux{L:lCs}{x:Int}(h:x∈bh L):∃i:Nat,x=i/\i<16/\∃y,cE L i=some y:=by unfold bh at h;obtain⟨i,hi,rfl⟩:=bc.1 h;obtain⟨h1,h2⟩:=jY.1 hi;exact⟨i,rfl,qc.1 h1,qI.1 h2⟩
def VP(i:Int)(b:eJ):(BD i b).length=50:=by unfold BD;rw[cL,cj,AH];rfl
def rR(L:lCs):∀l:List Int,(dT L l).length<=50*l.length
 | []=>ak _
 |x::l=>by
  have:=rR L l
  unfold dT at this⊢
  rw[eH,kX,cj,cL]
  have:(FG L x).length<=50:=by
   unfold FG;split
   ·rw[VP];exact ak _
   ·exact eG _
  omega
def Sf(x:dS.It):(ir x).length=24:=by unfold ir;rw[AH];rfl
def KK{α:Type}(f:α->List Int){l:List α}{k:Nat}{x:α}(h:l[k]? =some x):((l.take (k+1)).map f).flatten=((l.take k).map f).flatten++f x:=by rw[dq,h,cl,zm];simp
def Lz:∀l:List dS.It,(l.map ir).flatten.length=24*l.length
 | []=>rfl
 |x::l=>by rw[eH,kX,cj,Sf,Lz l,cL];omega
def am5{B E k:Nat}{w:World}{s:Sl}{xs:LV}(h:Vc.Own B E k w s xs):s.n<=s.c:=by
 cases h with
 |nil=>exact ak _
 |row g n c cs hg hr hc hn=>exact hn
def Sg{w:World}{b:Nat}{y:cQ}(hr:Row w b (Gf y) j7)(j:Nat){v:Value}(h:(Gf y)[j]? =some v):ah w (ae (aB b) j) 0 [v]:=by rw[aF,eF];exact xG hr h
def A1{w:World}{b:Nat}{y:cQ}(hr:Row w b (Gf y) j7)(j:Nat){v:Value}(h:(Gf y)[j]? =some v):Vc.ld w (ae (aB b) j)=some v:=hr.at j h
section
variable{F F':Nat->Prop}{w w':World}{g s o t:Nat}{M M':Sm}{occ:Value}{L:lCs}
def Cz(h:SF F w s o t M occ):kh 45 #[s] w ((M.now)):=by obtain⟨g,sd,h1,-⟩:=h.row;apply Qf.vc;exact⟨_,h1.at 3 rfl,rfl,rfl⟩
def Px(h:EF F w g s o t M occ L):ab 25 #[g] w λe w'=>∃sl:Sl,e=Value.slice sl.a sl.n sl.c/\nY w w' sl (dy M L)/\Ext w w':=by
 apply vm.vc;refine(Cq h).mono ?_;rintro e w1 ⟨s1,rfl,ho1,x1⟩;have z1:=x1.size;have h1:=h.ext x1;have hn1:s1.n=(bh L).length:=by rw[(ho1.rd au).n,aK]
 have hll:=uy L;obtain⟨Fs,hs,pG,dP,-⟩:=h1.EN;refine⟨s1,rfl,_,pG,(Cz hs).bf λw3 Ig=>?_⟩;subst Ig;refine⟨_,rfl,λw5 e5=>?_⟩;have x5:=aU e5;have z5:=zA e5;have hr5:=rdI (l:=[M.now]) e5;refine(q9 (B:=w3.heap.size) (s:=⟨none,0,0⟩) (b:=[]) ar.nil x5.size hr5 (λ_ j _ q=>(by cases q)) bo).mono ?_;rintro e w6 ⟨s7,rfl,a6⟩;have e6:([]:List Int)++qt [M.now]=j3 M.now:=by show j3 M.now++[]=_;rw[oV]
 rw[e6]at a6;refine⟨s7,rfl,λw8 e8=>?_⟩;have ew:qH ((s1.n:Nat):Int)=((bh L).length:Int)%256:=by rw[wrap_u8,hn1]
 rw[ew]at e8⊢;obtain⟨Te,hr8⟩:=a6.l6 [((bh L).length:Int)%256] (by rw[uz];simp) e8;have z8:=zA e8;refine⟨Te,λs9 br r10=>?_⟩;obtain⟨S9,k10,-,b10,z10⟩:=hr8 s9 br r10;replace S9:Ap w3 w5 ⟨none,0,0⟩ br s9 (fZ M.now (bh L).length):=S9;have z6:=a6.bel.size;have apB:Ext w3 br:=x5.trans (Below.mono S9.bel (ak _));have n96:s9.aX≠some w6.heap.size:=sJ b10 (a6.ne (ak _)) aa;have ht7:(fZ M.now (bh L).length).length=7:=rfl;have A0:Ap w3 br s9 br s9 (fZ M.now (bh L).length):=Ap.refl S9.own aa;refine⟨k10,λn x sl wr=>∃k:Nat,x=k/\k+n=(bh L).length/\Ap w3 br s9 wr sl (fZ M.now (bh L).length++dT L ((bh L).take k)),⟨(bh L).length,rfl,0,rfl,aa,by rw[JO];show Ap _ _ _ _ _ (_++[]);rw[oV];exact A0⟩,?_⟩;rintro n us x qp bZ ⟨k,rfl,hk,WL⟩;have apD:Ext w3 bZ:=apB.trans (Below.mono WL.bel (ak _));have z16:=WL.bel.size;have kQ:(fZ M.now (bh L).length++dT L ((bh L).take k)).length<=1000:=by have:=rR L ((bh L).take k);rw[cS]at this;rw[cj,ht7];omega
 apply Br.mk<;>intro hq
 ·have hq:=eK hq;obtain⟨v,hv⟩:=bX (l:=bh L) (i:=k) aa;obtain⟨i,rfl,ab2,y,hy⟩:=ux (aQ hv);have gF:=(ho1.ext apD).rd (show 0<1 by decide);have hvi:((bh L).map λi=>[vI i])[k]? =some [vI (i:Int)]:=by rw[aW,hv];rfl
  have aua:=gF.at hvi (j:=0) (v:=vI i) rfl;rw[gk]at aua;obtain⟨av,de,jm,-,-,-⟩:=h1.row;obtain⟨b,hab,WD⟩:=jm.full ab2 hy;have rowU:∀{u:World}{c:Sl}{bs:List Int},Ap w3 br s9 u c bs->Row u b (Gf y) j7:=λ{u c bs} ha=>WD.ext (apB.trans (Below.mono ha.bel (ak _)))
  have aAV:=rowU WL;have xd:=Ext.dr bZ;have rbd:=aAV.ext xd;have zd:=nV bZ;have ad:=WL.ext xd;have wk:=nE (j:=k);have ei:qH ((i:Nat):Int)=(i:Int):=by rw[wrap_u8];omega
  refine⟨gF.jX au aa hq,_,aua,aa,aa,_,Mu (de.ext apD) hab,?_⟩;refine⟨λc u=>Ap w3 br s9 u c (fZ M.now (bh L).length++dT L ((bh L).take k)++((i:Int)::qt (tk y.1))),?_,?_⟩
  ·refine lC rfl (lC rfl (lC rfl (lC rfl ⟨_,A1 rbd 0 rfl,lC rfl (lC rfl (lC rfl (lC rfl ⟨_,A1 rbd 1 rfl,lC rfl (lC rfl (lC rfl (lC rfl ⟨_,A1 rbd 2 rfl,lC rfl (lC rfl (lC rfl (lC rfl ⟨_,A1 rbd 3 rfl,lC rfl (lC rfl (lC rfl (lC rfl ⟨_,A1 rbd 4 rfl,lC rfl (lC rfl (lC rfl (lC rfl ⟨_,A1 rbd 5 rfl,lC rfl (lC rfl (lC rfl ⟨_,A1 rbd 6 rfl,lC rfl (lC rfl (lC rfl ⟨_,A1 rbd 7 rfl,?_⟩))⟩))⟩)))⟩)))⟩)))⟩)))⟩)))⟩)));rw[ei];have fin:∀{u u':World}{c c':Sl},Ap w3 br s9 u c (fZ M.now (bh L).length++dT L ((bh L).take k)++[(i:Int)])->Ap w3 u c u' c' (fZ M.now (bh L).length++dT L ((bh L).take k)++[(i:Int)]++qt (tk y.1))->Ap w3 br s9 u' c' (fZ M.now (bh L).length++dT L ((bh L).take k)++((i:Int)::qt (tk y.1))):=λh1 h2=>by have:=h1.trans h2;rw[fT,fT]at this;rw[fT];exact this
   have hlen1:((fZ M.now (bh L).length++dT L ((bh L).take k))++[(i:Int)]).length+6*(tk y.1).length<=900000:=by rw[cj];show _+1+6*8<=_;omega
   have n156:qp.aX≠some w6.heap.size:=WL.off n96 aa;refine⟨λgI S8=>⟨?_,λiD e35=>?_⟩,λnT e40 kO e41=>?_⟩
   ·obtain⟨hp,hr⟩:=ad.l6 [(i:Int)] (by rw[cL,mV];omega) S8;have z29:=zA S8;refine⟨hp,λEE ia r31=>?_⟩;obtain⟨a31,k31,m31,b31,z31⟩:=hr EE ia r31;have TG:=rowU a31;refine⟨m31 _ n156 aa,k31,Sg TG 7 rfl,Sg TG 6 rfl,Sg TG 5 rfl,Sg TG 4 rfl,Sg TG 3 rfl,Sg TG 2 rfl,Sg TG 1 rfl,Sg TG 0 rfl,λsY e32=>?_⟩;have a32:=a31.ext (aU e32);have z32:=zA e32;have hrd32:=rdI (l:=tk y.1) e32;have nd:EE.aX≠some bZ.drew.heap.size:=sJ b31 (WL.ne (ak _)) aa;refine(q9 a32.own (by have:=a32.bel.size;omega) hrd32 (λ_ j hj q=>?_) hlen1).mono ?_
    ·have hj:j=ia.heap.size:=(Option.some.inj hj).symm;subst hj;exact a31.ne (ak _) q
    rintro e jV ⟨s34,rfl,a33⟩;exact⟨s34,rfl,a33.Vf _ (a31.off n96 aa) aa,a33.Vf _ nd aa,rfl,fin a32 a33⟩
   ·have kz:=aU S8;have z29:=zA S8;obtain⟨hp,hr⟩:=(ad.ext kz).l6 [(i:Int)] (by rw[cL,mV];omega) e35;have z35:=zA e35;have hrd35:=rdI (l:=tk y.1) e35;refine⟨hp,λs36 jD r37=>?_⟩;obtain⟨a37,k37,m37,b37,z37⟩:=hr s36 jD r37;have nd:qp.aX≠some bZ.drew.heap.size:=WL.ne (ak _);have n29:s36.aX≠some gI.heap.size:=sJ b37 (WL.ne aa) aa;refine⟨m37 _ n156 aa,m37 _ nd aa,k37,(q9 a37.own (by have:=a37.bel.size;omega) (hrd35.same λj hj=>?_) (λ_ j hj q=>?_) hlen1).mono ?_⟩
    ·have hj:j=gI.heap.size:=(Option.some.inj hj).symm;subst hj;exact k37
    ·have hj:j=gI.heap.size:=(Option.some.inj hj).symm;subst hj;exact n29 q
    rintro e tH ⟨s39,rfl,a38⟩;exact⟨s39,rfl,a38.Vf _ (a37.off n96 aa) aa,a38.Vf _ (sJ b37 nd aa) aa,rfl,fin a37 a38⟩
   ·have rE:=aU e40;have z40:=zA e40;have hrd40:=rdI (l:=tk y.1) e40;obtain⟨hp,hr⟩:=(ad.ext rE).l6 [(i:Int)] (by rw[cL,mV];omega) e41;have z41:=zA e41;have kA:=aU e41;refine⟨hp,λs42 iO r43=>?_⟩;obtain⟨a43,k43,m43,b43,z43⟩:=hr s42 iO r43;have nd:qp.aX≠some bZ.drew.heap.size:=WL.ne (ak _);have n40:qp.aX≠some nT.heap.size:=WL.ne aa;refine⟨m43 _ n156 aa,m43 _ nd aa,k43,(q9 a43.own (by have:=a43.bel.size;omega) ((hrd40.ext kA).same λj hj=>?_) (λ_ j hj q=>?_) hlen1).mono ?_⟩
    ·have hj:j=bZ.drew.heap.size:=(Option.some.inj hj).symm;subst hj;exact m43 _ nd aa
    ·have hj:j=bZ.drew.heap.size:=(Option.some.inj hj).symm;subst hj;exact sJ b43 nd aa q
    rintro e kf ⟨s45,rfl,a44⟩;exact⟨s45,rfl,a44.Vf _ (a43.off n96 aa) aa,a44.Vf _ (sJ b43 n40 aa) aa,rfl,fin a43 a44⟩
  ·intro aub Tt lI a48;have aAX:=rowU a48;have z48:=a48.bel.size;have aIs:(fZ M.now (bh L).length++dT L ((bh L).take k)++((i:Int)::qt (tk y.1))).length<=2000:=by rw[cj,cL,AH];show _+(6*8+1)<=_;omega
   have endS:∀(st:Int),st=stB y.1.fG->∀{v:World}{c:Sl},Ap w3 br s9 v c (fZ M.now (bh L).length++dT L ((bh L).take k)++((i:Int)::qt (tk y.1))++[st])->Ap w3 br s9 v c (fZ M.now (bh L).length++dT L ((bh L).take (k+1))):=λst gm {v c} h=>by
    have e:dT L ((bh L).take (k+1))=dT L ((bh L).take k)++((i:Int)::(qt (tk y.1)++[st])):=by unfold dT;rw[KK (FG L) hv];unfold FG BD;rw[hy,gm]
    rw[e,<-fT];rw[fT]at h;exact h
   refine lC rfl (lC rfl (lC rfl ⟨_,A1 aAX 8 rfl,Br.mk (λhb=>λyR e50=>?_) (λhb=>λw53 e53=>?_)⟩))
   ·obtain⟨hp,hr⟩:=a48.l6 [1] (by rw[cL,mV];omega) e50;have z50:=zA e50;refine⟨hp,λs51 Yo r52=>?_⟩;obtain⟨a52,k52,m52,b52,z52⟩:=hr s51 Yo r52;exact⟨m52 _ (a48.off n96 aa) aa,k52,n-1,aa,rfl,k+1,wk,aa,endS 1 (by rw[hb];rfl) a52⟩
   ·obtain⟨hp,hr⟩:=a48.l6 [0] (by rw[cL,mV];omega) e53;have z53:=zA e53;refine⟨hp,λWe yS r55=>?_⟩;obtain⟨a55,k55,m55,b55,z55⟩:=hr We yS r55;exact⟨m55 _ (a48.off n96 aa) aa,k55,n-1,aa,rfl,k+1,wk,aa,endS 0 (by rw[hb];rfl) a55⟩
 ·have hq:=eK hq;have hk':k=(bh L).length:=by omega
  subst hk';rw[kB]at WL kQ;obtain⟨aIA,auc,hld16,-,-⟩:=(h1.ext apD).EN;refine⟨_,hld16,(wT auc).mono ?_⟩;rintro e nv ⟨OR,rfl,akm,H8⟩;have z57:=H8.size;obtain⟨gq,mq,qs,-,Ih,-⟩:=auc.queue;have hql:M.q.l.length<=4096:=by have:=Ih.len;have:=Ih.room;omega
  have aAY:OR.n=M.q.l.length:=by rw[(akm.rd (show 0<4 by decide)).n,aK]
  have aAZ:=(akm.rd (show 0<4 by decide));have Is:OR.n<=OR.c:=am5 akm.own;have n156:qp.aX≠some w6.heap.size:=WL.off n96 aa;have aA0:(if 2000<((OR.n:Nat):Int)then 2000 else((OR.n:Nat):Int))=((min M.q.l.length 2000:Nat):Int):=by rw[aAY];split<;>omega
  refine⟨OR,rfl,H8.k,?_⟩;rw[aA0];refine⟨aa,aa,λpH TX=>?_⟩;rw[dt];have a57:=WL.ext H8;have eb1:qH (((((((min M.q.l.length 2000:Nat):Int):Int).toNat-0:Nat):Int)).fdiv (2^(min (8:Int).toNat 64)))=((min M.q.l.length 2000:Nat):Int)/256%256:=by rw[wrap_u8,tj _ au];rfl
  have eb2:qH ((((((min M.q.l.length 2000:Nat):Int):Int).toNat-0:Nat):Int))=((min M.q.l.length 2000:Nat):Int)%256:=by rw[wrap_u8];rfl
  rw[eb1,eb2]at TX⊢;obtain⟨hp,hr⟩:=a57.l6 [((min M.q.l.length 2000:Nat):Int)/256%256,((min M.q.l.length 2000:Nat):Int)%256] (by rw[cL,cL,mV];omega) TX;have z59:=zA TX;refine⟨hp,λs60 vr r61=>?_⟩;obtain⟨a61,k61,m61,b61,z61⟩:=hr s60 vr r61;have Iv:=aU TX;have aA2:s60.aX≠some w6.heap.size:=sJ b61 n156 aa;have aud:s60.aX≠some nv.heap.size:=sJ b61 (a57.ne (ak _)) aa;have apG:∀j,OR.aX=some j->bZ.heap.size<=j/\j<nv.heap.size:=λj hj=>akm.own.lt hj
  have aue:∀j,OR.aX=some j->s60.aX≠some j:=λj hj=>by obtain⟨q1,q2⟩:=apG j hj;exact sJ b61 (WL.ne q1) aa
  have hrd61:RdK vr OR 4 (M.q.l.map fM):=aAZ.same λj hj=>by obtain⟨q1,q2⟩:=apG j hj;exact(m61 j (WL.ne q1) aa).trans (Iv.heap q2)
  let W:=M.q.l.take 2000
  have hW:W.length=min M.q.l.length 2000:=by rw[cS,Nat.min_comm]
  have A61:Ap w3 vr s60 vr s60 (fZ M.now (bh L).length++dT L (bh L)++[((min M.q.l.length 2000:Nat):Int)/256%256,((min M.q.l.length 2000:Nat):Int)%256]):=Ap.refl a61.own (by have:=a61.bel.size;omega);have apk:((((min M.q.l.length 2000:Nat):Int)).toNat-0:Nat)=W.length:=by rw[hW];omega
  rw[apk];refine⟨m61 _ n156 aa,k61,λn x sl wr=>∃k:Nat,x=k/\k+n=W.length/\Ap w3 vr s60 wr sl (fZ M.now (bh L).length++dT L (bh L)++[((min M.q.l.length 2000:Nat):Int)/256%256,((min M.q.l.length 2000:Nat):Int)%256]++((W.take k).map ir).flatten),⟨W.length,rfl,rfl,0,rfl,aa,by rw[JO];show Ap _ _ _ _ _ (_++[]);rw[oV];exact A61⟩,?_⟩;rintro n2 Bn x s66 pI ⟨k,rfl,hk,a67⟩;have z67:=a67.bel.size;apply Br.mk<;>intro hq
  ·have hq:=eK hq;have hkW:k<W.length:=by omega
   obtain⟨it,hit⟩:=bX hkW;have aA3:M.q.l[k]? =some it:=by have h2:W[k]? =M.q.l[k]? :=List.getElem?_take_of_lt aa;rw[<-h2];exact hit
   have de:(M.q.l.map fM)[k]? =some (fM it):=by rw[aW,aA3];rfl
   have hrd67:RdK pI OR 4 (M.q.l.map fM):=hrd61.same λj hj=>a67.Vf j (aue j hj) (by have:=apG j hj;omega)
   have px:gD OR.a (k:Int) W.length:=by obtain⟨q1,q2,q3⟩:=hrd67.jX (i:=(k:Int)) au aa aa;exact⟨q1,q2,hq⟩
   refine⟨px,_,_,_,_,hrd67.bH de,λJu e73 CE e74 uh e75=>?_⟩;have O1:Ext pI CE:=(aU e73).af e74 (ak _);have z74:CE.heap.size=pI.heap.size+1:=by rw[zR e74,zA e73]
   have Lc:=aU e75;have z75:=zA e75;have hrd75:=rdI (l:=[it.1,it.2.1,it.2.2.1,it.2.2.2]) e75;have a75:=a67.ext (O1.tr Lc);have aIG:(fZ M.now (bh L).length++dT L (bh L)++[((min M.q.l.length 2000:Nat):Int)/256%256,((min M.q.l.length 2000:Nat):Int)%256]++((W.take k).map ir).flatten).length<=100000:=by rw[cj,cj,Lz,cS];show _+2+_<=_;omega
   refine(q9 a75.own (by have:=a75.bel.size;omega) hrd75 (λ_ j hj q=>?_) (by show _+6*4<=_;omega)).mono ?_
   ·have hj:j=CE.heap.size:=(Option.some.inj hj).symm;subst hj;exact a67.ne aa q
   rintro e pB ⟨s77,rfl,a76⟩;refine⟨s77,rfl,a76.Vf _ (a67.off aA2 aa) aa,a76.Vf _ (a67.off aud aa) aa,a76.Vf _ (a67.ne (ak _)) aa,n2-1,aa,rfl,rfl,k+1,by rw[wI];omega,aa,?_⟩;rw[KK ir hit,<-fT];exact a75.trans a76
  ·have hq:=eK hq;have hk':k=W.length:=by omega
   subst hk';rw[kB]at a67;refine⟨s66,rfl,?_,?_⟩
   ·have e:dy M L=fZ M.now (bh L).length++dT L (bh L)++[((min M.q.l.length 2000:Nat):Int)/256%256,((min M.q.l.length 2000:Nat):Int)%256]++(W.map ir).flatten:=by unfold dy ij;rw[<-fT]
    rw[e];exact ar.low a67.own z1
   ·have b3:Below w3 w3 pI:=Below.trans apB (Below.trans a61.bel a67.bel);exact x1.tr b3
end
def am8(l:List En):Flt (jc l):=λx y y' z hy hy'=>by
 have e:pos (x,y,z)=pos (x,y',z):=rfl
 have h0:∀(p:Po)(C:List Int)(v:Int),32<=v->Z3 p C (x,v,z)=0:=λp C v hv=>by
  unfold Z3 Q8
  rw[decide_eq_false (show ¬((x,v,z):Ce).2.1<32 by simp only;omega)]
  simp
 have hn:∀v:Int,32<=v->¬((x,v,z):Ce).2.1<0:=λv hv=>by simp only;omega
 unfold jc
 rw[e,if_neg (hn y hy),if_neg (hn y' hy')]
 simp only[h0 _ _ _ hy,h0 _ _ _ hy']
def kj{b:eJ}:b.may=true↔(2<=b.wd/\b.wd<=131072)/\(1<=b.ht/\b.ht<=262144)/\c8 b.aw 70368744177664/\c8 b.speed 262144:=by unfold eJ.may within c8;simp only[fF,cC];omega
def VT{b:eJ}(h:b.may=true):okB 70368744177664 b:=by obtain⟨h1,h2,h3,h4⟩:=kj.1 h;unfold c8 at h4;exact⟨h3,aa,aa,aa⟩
def arl{b:eJ}(h:b.may=true):b.box.1.2.1=b.aw.2.1/\b.box.1.2.1<b.box.2.2.1:=by obtain⟨h1,h2,h3,h4⟩:=kj.1 h;unfold c8 at h3;have e1:b.box.1.2.1=nh b.aw.2.1 0:=rfl;have e2:b.box.2.2.1=dU b.aw.2.1 (max b.ht 0):=rfl;rw[e1,e2];unfold nh dU dD;omega
def aa1{V:Ce->Int}{b:eJ}(h:b.may=true)(d:Ce):(jj V b d).may=true:=by
 have hn:=(VT h).zG au;obtain⟨h1,h2,h3,h4⟩:=kj.1 h;obtain⟨y,x,z,-,-,-,e,hx,hy,hz⟩:=E2 (V:=V) (p:=aD) (d:=jA b.aw d) hn au;have ho:=F7 (V:=V) (p:=aD) (d:=jA b.aw d) hn au;rw[e]at ho;have ef:(jj V b d).aw=(b.aw.1+x,b.aw.2.1+y,b.aw.2.2+z):=by show iY b.aw (uJ (j4 V aD b.box (jA b.aw d)).1.1 b.box.1)=_;rw[e];exact KH h3 hn au (ho.up au)
 refine kj.2 ⟨h1,h2,?_,h4⟩;rw[ef];exact⟨aeX h3 (r:=(x,y,z)) hx,N7 h3 (r:=(x,y,z)) hy,X5 h3 (r:=(x,y,z)) hz⟩
def aa2(h:Bool×Bool×Bool){v:Ce}(hv:c8 v 262144):c8 (uW h v) 262144:=by
 have c0:dD 0=0:=by decide
 have hw:∀{v:Ce}(ax:Int),c8 v 262144->c8 (fV v ax 0) 262144:=λ{v} ax hv=>by unfold c8 at hv;unfold fV Gl c8;rw[c0];simp only;refine⟨?_,?_,?_⟩<;>split<;>omega
 unfold uW;simp only;have h1:c8 (if h.1=true then fV v 0 0 else v) 262144:=by
  split
  ·exact hw 0 hv
  ·exact hv
 generalize (if h.1=true then fV v 0 0 else v)=v1 at*;have h2:c8 (if h.2.1=true then fV v1 1 0 else v1) 262144:=by
  split
  ·exact hw 1 h1
  ·exact h1
 generalize (if h.2.1=true then fV v1 1 0 else v1)=v2 at*;split
 ·exact hw 2 h2
 ·exact h2
def afd{V:Ce->Int}{b:eJ}(hV:Flt V)(h:b.may=true):(GM V b).may=true:=by
 have hn:=(VT h).zG au;obtain⟨h1,h2,h3,h4⟩:=kj.1 h;obtain⟨x,y,z,e,hx,hy,hz⟩:=aiW (V:=V) (p:=aD) (d:=jA b.aw b.speed) (up:=32768) hn au au;have ho:=(PT (V:=V) (p:=aD) (d:=jA b.aw b.speed) (up:=32768) hn au).1;have ef:(GM V b).aw=(b.aw.1+x,b.aw.2.1+y,b.aw.2.2+z):=by show iY b.aw (uJ (jH V aD b.box (jA b.aw b.speed) 32768).1.1 b.box.1)=_;rw[e];rw[e]at ho;exact KH h3 hn au ho
 refine kj.2 ⟨h1,h2,?_,aa2 _ h4⟩;rw[ef];refine⟨aeX h3 (r:=(x,y,z)) hx,?_,X5 h3 (r:=(x,y,z)) hz⟩;rcases hy with hy|hy
 ·exact N7 h3 (r:=(x,y,z)) hy
 by_cases q:b.aw.2.1<=70368744100000
 ·unfold c8 at h3;simp only;omega
 ·obtain⟨b1,b2⟩:=arl h;have es:=aiX (V:=V) (p:=aD) (d:=jA b.aw b.speed) (up:=32768) hV hn au aa b2;obtain⟨y',x',z',-,-,-,e',-,hy',-⟩:=E2 (V:=V) (p:=aD) (d:=jA b.aw b.speed) hn au;rw[es,e']at e;have:y'=y:=by have e2:=congrArg (λq:Bx=>q.1.2.1) e;unfold iJ at e2;simp only at e2;omega
  rw[this]at hy';exact N7 h3 (r:=(x,y,z)) hy'
def vN{b:eJ}(h:b.may=true){v:Ce}(hv:c8 v 262144):({b with speed:=v}:eJ).may=true:=by obtain⟨h1,h2,h3,-⟩:=kj.1 h;exact kj.2 ⟨h1,h2,h3,hv⟩
def afe{V:Ce->Int}{b:eJ}(hV:Flt V)(h:b.may=true)(i:QO):(zU V b i).may=true:=by
 refine afd hV ?_;have hw:(tq b i).may=true:=vN h (by
  have:=(kj.1 h).2.2.2;have h0:∀n,-262144<=Kc n/\Kc n<=262144:=λn=>by unfold Kc;omega
  unfold c8 at this⊢;exact⟨h0 _,this.2.1,h0 _⟩)
 generalize tq b i=c at*;have hs:=(kj.1 hw).2.2.2;unfold tp;have hf:∀(n jump less least:Int)(j:Bool),(-262144<=n/\n<=262144)->(0<=jump/\jump<=262144)->0<=less->(0<=least/\least<=262144)-> -262144<=wS n jump less least j/\wS n jump less least j<=262144:=λn jump less least j h1 h2 h3 h4=>by unfold wS;split<;>omega
 unfold c8 at hs;split
 ·exact vN hw ⟨hs.1,hf _ _ _ _ _ hs.2.1 au au au,hs.2.2⟩
 split
 ·exact vN hw ⟨hs.1,hf _ _ _ _ _ hs.2.1 au au au,hs.2.2⟩
 ·exact vN hw ⟨hs.1,hf _ _ _ _ _ hs.2.1 au au au,hs.2.2⟩
def kG(P:eJ->Prop)(L:lCs):Prop:=∀y,some y∈L->P y.1
section
variable{P:eJ->Prop}{V:Ce->Int}(hn:∀b d,P b->P (jj V b d))
include hn
def aff{i k:Nat}{l:List eJ}(h:∀b∈l,P b):∀b∈Km V i k l,P b:=by
 unfold Km;split
 ·rename_i a b ha hb;intro x hx;rcases pY hx with hx|rfl
  ·rcases pY hx with hx|rfl
   ·exact h x hx
   ·exact hn _ _ (h a (aQ ha))
  ·exact hn _ _ (h b (aQ hb))
 ·exact h
def Ye{i:Nat}:∀(n k:Nat) {l:List eJ},(∀b∈l,P b)->∀b∈U6 V i k n l,P b
 |0,_,_,h=>h
 |n+1,k,_,h=>Ye n (k+1) (aff hn h)
def afg:∀(n i:Nat) {l:List eJ},(∀b∈l,P b)->∀b∈crB V i n l,P b
 |0,_,_,h=>h
 |n+1,i,_,h=>afg n (i+1) (Ye hn _ _ h)
end
def ai6{P:eJ->Prop}{L:lCs}{i:Nat}{b:eJ}(h:kG P L)(hb:P b):kG P (D4 L i b):=by
 unfold D4
 cases hq:cE L i with
 |none=>exact h
 |some y=>
  intro z hz;rcases pY hz with hz|hz
  ·exact h z hz
  ·cases hz
   exact hb
def Sp{P:eJ->Prop}:∀(l:List (Nat×eJ)) {L:lCs},kG P L->(∀x∈l,P x.2)->kG P (Kf L l)
 | [],_,h,_=>h
 |x::l,_,h,hl=>Sp l (ai6 h (hl x bo)) λy hy=>hl y (by simp[hy])
def afh{P:eJ->Prop}{M:Sm}{L:lCs}(hs:∀b i,P b->P (zU (jc M.T.2) b i))(hn:∀b d,P b->P (jj (jc M.T.2) b d))(h:kG P L):kG P (sD M L):=by
 refine Sp _ h λx hx=>afg hn _ _ (λb hb=>?_) x.2 (List.of_mem_zip hx).2
 obtain⟨i,hi,rfl⟩:=bc.1 hb;obtain⟨-,y,hy⟩:=zT hi;unfold uP;rw[hy];exact hs _ _ (h y (uQ hy))
abbrev kx(L:lCs):Prop:=kG (λb=>b.may=true) L
def kx.tick{M:Sm}{L:lCs}(h:kx L):kx (sD M L):=afh (λ_ i hb=>afe (am8 _) hb i) (λ_ d hb=>aa1 hb d) h
def kx.ok{L:lCs}(h:kx L):ES 70368744177664 L:=λy hy=>VT (h y hy)
def adn{P:eJ->Prop}{L:lCs}(h:kG P L)(i:Int):kG P (zB L i).2:=by
 unfold zB;split
 ·exact h
 ·intro y hy;rcases pY hy with hy|hy
  ·exact h y hy
  ·cases hy
def afi{P:eJ->Prop}{L:lCs}(h:kG P L)(i:Int)(inp:QO):kG P (A2 L i inp).2:=by
 unfold A2
 cases hq:cE L i with
 |none=>exact h
 |some y=>
  intro z hz;rcases pY hz with hz|hz
  ·exact h z hz
  ·cases hz
   unfold cE at hq;split at hq
   ·exact h y (aQ (J6.1 hq))
   ·cases hq
def Y5{M:Sm}{L:lCs}(h:kx L)(b:eJ):kx (iP M L b).2.2:=by
 unfold iP;split
 ·exact h
 rename_i hb;split
 ·exact h
 split
 ·exact h
 split
 ·exact h
 ·intro z hz;rcases pY hz with hz|hz
  ·exact h z hz
  ·cases hz
   show eJ.may {b with fG:=_}=true;have:b.may=true:=by simpa using hb
   rw[<-this];rfl
def I9(v:Ce)(r:Int):Prop:=v.1<=r/\-r<=v.2.2
def acp(a b:Ce)(k:Int):Prop:=(-k<=b.1-a.1/\b.1-a.1<=k)/\-k<=b.2.2-a.2.2/\b.2.2-a.2.2<=k
def I9.agF{a b:Ce}{r k:Int}(h:I9 a r)(w:acp a b k):I9 b (r+k):=by unfold I9 acp at*;omega
def I9.up{a:Ce}{r s:Int}(h:I9 a r)(w:r<=s):I9 a s:=by unfold I9 at*;omega
section
variable{V V':Ce->Int}{b:eJ}{m r:Int}
def N9(h:okB m b)(hm:m<=99970000000000){E:Int}(hr:I9 b.aw r)(hE:r+500000+E<3145728):Md b.box E:=by obtain⟨h1,h2,-⟩:=h;have e1:b.box.1.1=nh b.aw.1 (max b.wd 0/2):=rfl;have e2:b.box.2.1=dU b.aw.1 (max b.wd 0/2):=rfl;have e3:b.box.1.2.2=nh b.aw.2.2 (max b.wd 0/2):=rfl;have e4:b.box.2.2.2=dU b.aw.2.2 (max b.wd 0/2):=rfl;have hf:=h1.1;have hg:=h1.2.2;unfold I9 at hr;unfold Md;rw[e1,e2,e3,e4];unfold nh dU dD;omega
def acq{aw d:Ce}{m:Int}(h:c8 aw m)(hm:m<=70368744177664):max (jA aw d).1 (-(jA aw d).1)<=max d.1 (-d.1)/\max (jA aw d).2.2 (-(jA aw d).2.2)<=max d.2.2 (-d.2.2):=by have e:(jA aw d).1=nh (iW (dU aw.1 d.1)) aw.1:=rfl;have e':(jA aw d).2.2=nh (iW (dU aw.2.2 d.2.2)) aw.2.2:=rfl;have hf:=h.1;have hg:=h.2.2;rw[e,e'];unfold iW nh dU dD;omega
def XO{b:eJ}{c:Bx}{m n k:Int}(hf:c8 b.aw m)(hb:c8 b.box.1 n)(hc:c8 c.1 n)(hm:m<=100000000000000)(hn:n<=130000000000000)(h:Ka b.box c k k)(hk:0<=k/\k<=10000000):acp b.aw (iY b.aw (uJ c.1 b.box.1)) k:=by have e:(iY b.aw (uJ c.1 b.box.1)).1=dU b.aw.1 (nh c.1.1 b.box.1.1):=rfl;have e':(iY b.aw (uJ c.1 b.box.1)).2.2=dU b.aw.2.2 (nh c.1.2.2 b.box.1.2.2):=rfl;unfold c8 at hf hb hc;unfold Ka at h;unfold acp;rw[e,e'];unfold dU nh dD;omega
def abI(h:v8 V V')(hb:okB m b)(hm:m<=70368744177664){s:Int}(hs:max b.speed.1 (-b.speed.1)<=s/\max b.speed.2.2 (-b.speed.2.2)<=s)(hs1:s<=1000000)(hr:I9 b.aw r)(hr0:r+500000+s<3145728):GM V b=GM V' b/\acp b.aw (GM V b).aw s:=by
 have hR:=N9 hb aa hr hr0;have w:=acq (d:=b.speed) hb.1 aa;have hn:=hb.zG aa;obtain⟨e,n,q⟩:=abn (p:=aD) h (d:=jA b.aw b.speed) (up:=32768) hn aa hR aa aa;have hq:Md (jH V aD b.box (jA b.aw b.speed) 32768).1 0:=hR.of q aa;unfold Md at hq;have u:=oh (p:=aD) h (AJ (b:=(jH V aD b.box (jA b.aw b.speed) 32768).1) aa aa);refine⟨?_,?_⟩
 ·unfold GM;simp only;rw[<-e,<-u]
 ·exact XO hb.1 (hn.up (show m+1000000<=m+1000000+16777216 by omega)).lo n.lo aa aa q aa
def abJ(h:v8 V V')(hb:okB m b)(hm:m<=70368744177664)(hr:I9 b.aw r)(hr0:r+500000<3145728)(i:QO):tp V b i=tp V' b i/\(tp V b i).aw=b.aw/\(tp V b i).speed.1=b.speed.1/\(tp V b i).speed.2.2=b.speed.2.2:=by
 have hR:=N9 (E:=0) hb aa hr aa;unfold Md at hR;have hl:b.box.1.1<3145728/\b.box.2.1<3145728:=by omega
 have hz: -3145728<=b.box.1.2.2:=by omega
 have a1:=oh (p:=λx=>x==4) h (CF hl hz);have a2:=oh (p:=rW) h (CF hl hz);have a3:=oh (p:=aD) h (AJ hl hz);refine⟨?_,?_⟩
 ·unfold tp;rw[a1,a2,a3]
 ·unfold tp;split
  ·exact⟨rfl,rfl,rfl⟩
  ·split<;>exact⟨rfl,rfl,rfl⟩
def V3(h:v8 V V')(hb:okB m b)(hm:m<=70368744177664)(hr:I9 b.aw r)(hr0:r+600000<3145728)(i:QO):zU V b i=zU V' b i/\I9 (zU V b i).aw (r+16384):=by
 have hw:okB m (tq b i):=hb;obtain⟨e1,e2,e3,e4⟩:=abJ (b:=tq b i) h hw hm hr aa i;have hf:(tp V (tq b i) i).aw=b.aw:=by rw[e2];rfl
 have hx:(tp V (tq b i) i).speed.1=Kc i.1:=by rw[e3];rfl
 have hz:(tp V (tq b i) i).speed.2.2=Kc i.2.1:=by rw[e4];rfl
 have hk:∀n,-16384<=Kc n/\Kc n<=16384:=λn=>by unfold Kc;omega
 have k1:=hk i.1;have k2:=hk i.2.1;obtain⟨g1,g2⟩:=abI (b:=tp V (tq b i) i) (s:=16384) h (aiu hw) hm (by rw[hx,hz];omega) aa (by rw[hf];exact hr) aa;rw[hf]at g2;exact⟨by unfold zU;rw[<-e1,g1],hr.agF g2⟩
def Jh(h:v8 V V')(hb:okB m b)(hm:m<=70368744177664){d:Ce}(hd:(-4096<=d.1/\d.1<=4096)/\-4096<=d.2.2/\d.2.2<=4096)(hr:I9 b.aw r)(hr0:r+600000<3145728):jj V b d=jj V' b d/\I9 (jj V b d).aw (r+4096):=by
 have hR:=N9 (E:=4096) hb aa hr aa;have w:=acq (d:=d) hb.1 aa;have hn:=hb.zG aa;obtain⟨e,n,q⟩:=KO (p:=aD) h (d:=jA b.aw d) hn aa hR aa aa;refine⟨?_,?_⟩
 ·unfold jj;rw[<-e]
 ·exact hr.agF (XO hb.1 (hn.up (show m+1000000<=m+1000000+12582912 by omega)).lo n.lo aa aa q aa)
def adA{a b:eJ}{m:Int}(ha:okB m a)(hb:okB m b)(hm:m<=99970000000000):((-4096<=(jJ a b).1.1/\(jJ a b).1.1<=4096)/\-4096<=(jJ a b).1.2.2/\(jJ a b).1.2.2<=4096)/\(-4096<=(jJ a b).2.1/\(jJ a b).2.1<=4096)/\-4096<=(jJ a b).2.2.2/\(jJ a b).2.2.2<=4096:=by
 have na:=ha.zG hm;have nb:=hb.zG hm;have side:∀{c:eJ},okB m c->dj c.box.1 (axP a b)<=dj c.box.2 (axP a b):=λ{c} hc=>by
  have e1:c.box.1.1=nh c.aw.1 (max c.wd 0/2):=rfl;have e2:c.box.2.1=dU c.aw.1 (max c.wd 0/2):=rfl;have e3:c.box.1.2.2=nh c.aw.2.2 (max c.wd 0/2):=rfl;have e4:c.box.2.2.2=dU c.aw.2.2 (max c.wd 0/2):=rfl;obtain⟨⟨f1,f2,f3⟩,w,-⟩:=hc;unfold axP;split
  ·show c.box.1.2.2<=c.box.2.2.2;rw[e3,e4];unfold nh dU dD;omega
  ·show c.box.1.1<=c.box.2.1;rw[e1,e2];unfold nh dU dD;omega
 have saY7:=side ha;have sbY7:=side hb;unfold jJ;split
 ·rename_i ho;unfold vl ovK at ho;simp only[fF,decide_eq_true_eq]at ho;have hov:dj a.box.1 (axP a b)<dj b.box.2 (axP a b)/\dj b.box.1 (axP a b)<dj a.box.2 (axP a b):=by
   unfold axP;split
   ·exact ho.2
   ·exact ho.1.1
  have xa:=na.ax (by have:=na.lo.1;omega) (axP a b);have xb:=nb.ax (by have:=nb.lo.1;omega) (axP a b);have hN:0<=R9 a.box b.box (axP a b):=by unfold R9;rw[wI (by unfold cH;split<;>split<;>omega)];split<;>split<;>omega
  have hP:0<=nP a b/\nP a b<=4096:=by unfold nP;split<;>omega
  have hS: -4096<=sP a b/\sP a b<=4096:=by
   unfold sP;split
   ·rw[wI (by unfold cH;omega)];omega
   ·omega
  have e:∀n:Int,-4096<=n/\n<=4096->(-4096<=(fV (0,0,0) (axP a b) n).1/\(fV (0,0,0) (axP a b) n).1<=4096)/\-4096<=(fV (0,0,0) (axP a b) n).2.2/\(fV (0,0,0) (axP a b) n).2.2<=4096:=λn hn=>by have:=JW (ax:=axP a b) hn au;exact⟨this.1,this.2.2⟩
  exact⟨e _ hS,e _ (by rw[wI (by unfold cH;omega)];omega)⟩
 ·have z:∀x:Ce,x=(0,0,0)->(-4096<=x.1/\x.1<=4096)/\-4096<=x.2.2/\x.2.2<=4096:=λx h=>by rw[h];decide
  exact⟨z _ rfl,z _ rfl⟩
end
abbrev Hp(r:Int)(l:List eJ):Prop:=∀b∈l,b.may=true/\I9 b.aw r
section
variable{V V':Ce->Int}{r:Int}{l:List eJ}
def Hp.up(h:Hp r l){r':Int}(hr:r<=r'):Hp r' l:=λb hb=>⟨(h b hb).1,(h b hb).2.up hr⟩
def abK(h:v8 V V')(hl:Hp r l)(hr:r+600000<3145728)(i k:Nat):Km V i k l=Km V' i k l/\Hp (r+4096) (Km V i k l)/\(Km V i k l).length=l.length:=by
 unfold Km
 cases ha:l[i]? with
 |none=>exact⟨rfl,hl.up aa,rfl⟩
 |some a=>
  cases hb:l[k]? with
  |none=>exact⟨rfl,hl.up aa,rfl⟩
  |some b=>
   obtain⟨a1,a2⟩:=hl a (aQ ha);obtain⟨b1,b2⟩:=hl b (aQ hb);obtain⟨p1,p2⟩:=adA (VT a1) (VT b1) au;obtain⟨e1,f1⟩:=Jh h (VT a1) au p1 a2 hr;obtain⟨e2,f2⟩:=Jh h (VT b1) au p2 b2 hr;simp only;refine⟨by rw[<-e1,<-e2],λx hx=>?_,by rw[lO,lO]⟩;rcases pY hx with hx|rfl
   ·rcases pY hx with hx|rfl
    ·exact⟨(hl x hx).1,(hl x hx).2.up aa⟩
    ·exact⟨aa1 a1 _,f1⟩
   ·exact⟨aa1 b1 _,f2⟩
def TA(h:v8 V V')(i:Nat):∀(n k:Nat) {l:List eJ}{r:Int},Hp r l->r+n*4096+600000<3145728->U6 V i k n l=U6 V' i k n l/\Hp (r+n*4096) (U6 V i k n l)/\(U6 V i k n l).length=l.length
 |0,k,l,r,hl,hr=>⟨rfl,hl.up aa,rfl⟩
 |n+1,k,l,r,hl,hr=>by
  obtain⟨e,q,z⟩:=abK h hl aa i k
  obtain⟨e',q',z'⟩:=TA h i n (k+1) q aa
  unfold U6
  rw[<-e]
  exact⟨e',q'.up aa,z'.trans z⟩
def XP(h:v8 V V'):∀(n i:Nat) {l:List eJ}{r:Int},l.length<=16->Hp r l->r+n*(16*4096)+600000<3145728->crB V i n l=crB V' i n l/\Hp (r+n*(16*4096)) (crB V i n l)
 |0,i,l,r,hz,hl,hr=>⟨rfl,hl.up aa⟩
 |n+1,i,l,r,hz,hl,hr=>by
  obtain⟨e,q,z⟩:=TA h i (l.length-(i+1)) (i+1) hl aa
  have q16:Hp (r+16*4096) (U6 V i (i+1) (l.length-(i+1)) l):=q.up aa
  obtain⟨e',q'⟩:=XP h n (i+1) (by rw[z];exact hz) q16 aa
  unfold crB
  rw[<-e]
  exact⟨e',q'.up aa⟩
def V5(h:v8 V V')(hz:l.length<=16)(hl:Hp r l)(hr:r<=1064960):uX V l=uX V' l/\Hp (r+1048576) (uX V l):=by obtain⟨e,q⟩:=XP h l.length 0 hz hl aa;exact⟨e,q.up aa⟩
end
end Go.Proofs.YtjcnjlaelhdjeaaGreatDoor
