import Derived.Test.YtkkkfkopcfdmaaaGreatDoorF
import Derived.Test.YtkkkfkopcfdmaaaGreatDoorG
import Derived.Test.YtkkkfkopcfdmaaaGreatDoorD
set_option linter.all false
namespace Go.Proofs.YtkkkfkopcfdmaaaGreatDoor
open Go Go.Vc Go.RowKit Go.Proofs
set_option maxRecDepth 100000
set_option maxHeartbeats 8000000
set_option linter.unusedVariables false
variable {R:Ending->World->Prop} {w:World} {a0 a1 a2 a3 a4 a5 a6 a7 a8 a9 aA aq au aS aT aW bM bG bH Cr ak ao aw bz bT bR eW eX eD Cs bq bA bo wL wM uS uT wN wO wP Ct Cu Cv Cw Cx Cy Cz CA CB CC:Int}
theorem XQ.vc(h:
 Aw w #[aA,aq,au] 41 λw0=>
 Aw w0 #[aa,aa,aa] 41 λw1=>
 ah 220 #[aA] w1.drew (Ri λx3 w2=>K2 w w0 w1.drew w2 (
 ag w2 (some ⟨w,2,none⟩) 0 [au]/\ag w2 (some ⟨w,1,none⟩) 0 [aq]/\ah 220 #[aq] w2 (Ri λx5 w4=>K2 w w0 w2 w4 (
 ag w4 (some ⟨w,2,none⟩) 0 [au]/\ah 220 #[au] w4 (Ri λx7 w6=>K2 w w0 w4 w6 (
 Sw w6 w0 #[x3,x5,x7] λw8=>
 R (Value.agg #[x3,x5,x7]) w8))))))):ah 210 #[.agg #[aA,aq,au]] w R:=
 cq bV Tryz.func210 h
theorem DQ.vc(h:
 R (Value.int .i64 (if 2147483648<(if (-2147483648)>a0 then (-2147483648) else a0) then 2147483648 else (if (-2147483648)>a0 then (-2147483648) else a0))) w):ah 220 #[a0] w R:=
 cq bV Tryz.func220 h
theorem TU.vc(h:
 Aw w #[aA,aq,au] 41 λw0=>
 Aw w0 #[aa,aa,aa,aa,aa,aa,aa,aa,aa,aa,aa,aa,aa,aa,aa,aa,aa,aa] 186 λw1=>
 ah 219 #[(-1:Int),aa,aa,w] w1 (λe w2=>∃(x3 x4 x5:Int),e=Value.agg #[x3,x4,x5]/\
 ah 219 #[(1:Int),aa,aa,w] w2 (λe w6=>∃(x7 x8 x9:Int),e=Value.agg #[x7,x8,x9]/\
 ah 219 #[aa,(-1:Int),aa,w] w6 (λe bO=>∃(bC bN cm:Int),e=Value.agg #[bC,bN,cm]/\
 ah 219 #[aa,(1:Int),aa,w] bO (λe bP=>∃(cA cD cY:Int),e=Value.agg #[cA,cD,cY]/\
 ah 219 #[aa,aa,(-1:Int),w] bP (λe dG=>∃(cn cW dh:Int),e=Value.agg #[cn,cW,dh]/\
 ah 219 #[aa,aa,(1:Int),w] dG (λe dT=>∃(dz eE dQ:Int),e=Value.agg #[dz,eE,dQ]/\
 Wt dT ⟨w0,0,none⟩ 18/\(∀fi,fi=aH dT (some ⟨w0,0,none⟩) [x3,x4,x5,x7,x8,x9,bC,bN,cm,cA,cD,cY,cn,cW,dh,dz,eE,dQ]->
 ∃(fE g7 gd jD ic ig eF g8 kv nk fB gA ou mc kI lh oE jY:Int),ag fi (some ⟨w0,0,none⟩) 0 [fE,g7,gd,jD,ic,ig,eF,g8,kv,nk,fB,gA,ou,mc,kI,lh,oE,jY]/\
 R (Value.agg #[fE,g7,gd,jD,ic,ig,eF,g8,kv,nk,fB,gA,ou,mc,kI,lh,oE,jY]) fi)))))))):ah 159 #[.agg #[aA,aq,au]] w R:=
 cq bV Tryz.func159 h
theorem K0.vc{c0:Addr}(h:
 Aw w #[aa,aa,aa] 41 λw0=>
 ∃(x1:Int),ld w0.drew (af (some c0) 0)=some (.int .i64 x1)/\
 ∃(x2:Int),ld w0.drew (af (some c0) 1)=some (.int .i64 x2)/\
 ∃(x3:Int),ld w0.drew (af (some c0) 2)=some (.int .i64 x3)/\
 ah 220 #[x1] w0.drew (Ri λx5 w4=>Kp w w0.drew w4/\
 ag w4 (af (some c0) 2) 0 [x3]/\ag w4 (af (some c0) 1) 0 [x2]/\ah 220 #[x2] w4 (Ri λx7 w6=>Kp w w4 w6/\
 ag w6 (af (some c0) 2) 0 [x3]/\ah 220 #[x3] w6 (Ri λx9 w8=>Kp w w6 w8/\
 ah 210 #[.agg #[(aj (x5+a0)),(aj (x7+a1)),(aj (x9+a2))]] w8 (iC λbC bN cm bO=>Kp w w8 bO/\
 Sw bO w #[bC,bN,cm] λbP=>
 R (Value.agg #[bC,bN,cm]) bP))))):ah 219 #[a0,a1,a2,c0] w R:=
 cq bV Tryz.func219 h
theorem Pz.vc(h:
 ah 243 #[a0] w (λe w0=>∃(b1:Bool),e=b1/\
 Br b1
 (R (2:Int) w0)
 (ah 202 #[a0] w0 (λe w2=>∃(b3:Bool),e=b3/\
 Br b3
 (R (5:Int) w2)
 (R (0:Int) w2))))):ah 223 #[a0] w R:=
 cq bV Tryz.func223 h
theorem PA.vc{a0:Value}(h:
 Aw w #[ak,ao,aw] 41 λw0=>
 ah 159 #[.agg #[ak,ao,aw]] w0 (λe w1=>∃(x2 x3 x4 x5 x6 x7 x8 x9 bh bC bN cm bX cA cD cY cp cn:Int),e=Value.agg #[x2,x3,x4,x5,x6,x7,x8,x9,bh,bC,bN,cm,bX,cA,cD,cY,cp,cn]/\Kp w w0 w1/\
 ((0:Int)<=3/\(3:Int)<((6:Nat):Int))/\∃(cW dh dN:Int),(([x2,x3,x4,x5,x6,x7,x8,x9,bh,bC,bN,cm,bX,cA,cD,cY,cp,cn]:LV).drop ((3:Int).toNat*3)).take 3=[.int .i64 cW,.int .i64 dh,.int .i64 dN]/\
 cr Tryz.prog a0 [.agg #[cW,dh,dN]] w1 (Ri λeE eh=>Kp w w1 eh/\
 ah 202 #[eE] eh (Rb λFj cU=>Kp w eh cU/\
 Br Fj
 (R (Value.tuple #[(1:Int),true]) cU)
 (ah 303 #[.agg #[ak,ao,aw]] cU (Rs λN9 eH=>Kp w cU eH/\
 ∃I29:Nat->Int->Int->World->Prop,
 (∃n30,aO [ak,ao,aw]/\I29 n30 (0) (7) eH)/\
 ∀(n30:Nat)(aqg:Nat->Value)(ig eF:Int)(jc:World),I29 n30 ig eF jc->
 Br (decide (ig<((N9.n:Nat):Int)))
 (eo N9.a ig N9.n/\∃(nk fB gA:Int),ag jc (af N9.a ((ig:Int).toNat*3)) 0 [nk,fB,gA]/\
 Aw jc #[aa,aa,aa] 41 λjX=>
 Sw jX jc #[nk,fB,gA] λjr=>
 cr Tryz.prog a0 [.agg #[nk,fB,gA]] jr (Ri λlh gO=>K2 w jc jr gO (
 ah 280 #[lh] gO (Ri λjY jd=>K2 w jc gO jd (
 Br (jY>=0)
 (∃CD,CD<n30/\aO [ak,ao,aw]/\I29 CD ((aj (ig+1))) ((if jY<eF then jY else eF)) jd)
 (∃CD,CD<n30/\aO [ak,ao,aw]/\I29 CD ((aj (ig+1))) eF jd))))))
 (Br (eF==7)
 (R (Value.tuple #[aa,false]) jc)
 (R (Value.tuple #[(aj (eF+1)),true]) jc)))))))):ah 301 #[a0,.agg #[ak,ao,aw]] w R:=
 cq ⟨[(5,⟨[(19,.int .i64),(6,.int .i64)],[],[]⟩)],[],[]⟩ Tryz.func301 h
theorem TE.vc{a0:Value}(h:
 Aw w #[ak,ao,aw] 41 λw0=>
 cr Tryz.prog a0 [.agg #[ak,ao,aw]] w0 (Ri λx2 w1=>Kp w w0 w1/\
 ah 243 #[x2] w1 (Rb λb4 w3=>Kp w w1 w3/\
 Br b4
 (ah 278 #[a0,.agg #[ak,ao,aw]] w3 (Rs λs6 w5=>Kp w w3 w5/\
 R s6 w5))
 (ah 202 #[x2] w3 (Rb λb8 w7=>Kp w w3 w7/\
 Br b8
 (ah 280 #[x2] w7.drew (Ri λbh w9=>Kp w w7.drew w9/\
 ag w9 w 0 [ak,ao,aw]/\ah 279 #[a0,.agg #[ak,ao,aw],bh] w9 (Rs λjJ aY=>Kp w w9 aY/\
 R jJ aY)))
 (R (Value.slice none 0 0) w7)))))):ah 242 #[a0,.agg #[ak,ao,aw]] w R:=
 cq bV Tryz.func242 h
theorem PB.vc{a0:Value}(h:
 Aw w #[ak,ao,aw] 41 λw0=>
 ah 159 #[.agg #[ak,ao,aw]] w0 (λe w1=>∃(x2 x3 x4 x5 x6 x7 x8 x9 bh bC bN cm bX cA cD cY cp cn:Int),e=Value.agg #[x2,x3,x4,x5,x6,x7,x8,x9,bh,bC,bN,cm,bX,cA,cD,cY,cp,cn]/\Kp w w0 w1/\
 Aw w1 #[aa,aa,aa,aa,aa,aa,aa,aa,aa,aa,aa,aa,aa,aa,aa,aa,aa,aa] 186 λfx=>
 Wt fx ⟨w1,0,none⟩ 18/\Nb w1 w/\(∀eK,eK=aH fx (some ⟨w1,0,none⟩) [x2,x3,x4,x5,x6,x7,x8,x9,bh,bC,bN,cm,bX,cA,cD,cY,cp,cn]->
 Aw eK.drew #[ak,ao,aw] 41 λdT=>
 ∃l23:LV,Rd dT (aJ (some ⟨w1,0,none⟩) (0) (6) 3) l23/\ba 24 3 dT ⟨(some ⟨eK.drew.heap.size,0,none⟩),1,1⟩ (6-0) l23/\∀(rN:Sl)(cU:World),aV 41 3 dT ⟨(some ⟨eK.drew.heap.size,0,none⟩),1,1⟩ (6-0) l23 rN cU->Kp w dT cU/\cU.heap[eK.drew.heap.size]? =dT.heap[eK.drew.heap.size]?/\
 ∃I26:Nat->Int->Sl->World->Prop,
 (∃n27,aO [ak,ao,aw]/\aO [ak,ao,aw]/\I26 n27 (0) ⟨none,0,0⟩ cU)/\
 ∀(n27:Nat)(aqi:Nat->Value)(gd:Int)(sS:Sl)(fJ:World),I26 n27 gd sS fJ->
 Br (decide (gd<((rN.n:Nat):Int)))
 (eo rN.a gd rN.n/\∃(eF g8 kv:Int),ag fJ (af rN.a ((gd:Int).toNat*3)) 0 [eF,g8,kv]/\
 Aw fJ #[aa,aa,aa] 41 λjW=>
 Sw jW fJ #[eF,g8,kv] λie=>
 cr Tryz.prog a0 [.agg #[eF,g8,kv]] ie (Ri λou lf=>Kp w ie lf/\lf.heap[eK.drew.heap.size]? =ie.heap[eK.drew.heap.size]?/\Kp fJ ie lf/\
 ah 223 #[ou] lf (Ri λkI jr=>Kp w lf jr/\jr.heap[eK.drew.heap.size]? =lf.heap[eK.drew.heap.size]?/\Kp fJ lf jr/\
 Br (kI>0)
 (Aw jr #[eF,g8,kv] 41 λku=>
 ba 24 3 ku sS 1 [eF,g8,kv]/\∀(s43:Sl)(ko:World),aV 41 3 ku sS 1 [eF,g8,kv] s43 ko->Kp w ku ko/\ko.heap[eK.drew.heap.size]? =ku.heap[eK.drew.heap.size]?/\K2 fJ jr ku ko (
 ∃n32,n32<n27/\aO [ak,ao,aw]/\aO [ak,ao,aw]/\I26 n32 ((aj (gd+1))) s43 ko))
 (∃n32,n32<n27/\aO [ak,ao,aw]/\aO [ak,ao,aw]/\I26 n32 ((aj (gd+1))) sS jr))))
 (R sS fJ)))):ah 222 #[a0,.agg #[ak,ao,aw]] w R:=
 cq ⟨[(4,⟨[(16,.int .i64),(5,.slice)],[],[]⟩)],[],[]⟩ Tryz.func222 h
theorem K1.vc(h:
 Aw w #[aA,aq,au] 41 λw0=>
 ah 159 #[.agg #[aA,aq,au]] w0 (λe w1=>∃(x2 x3 x4 x5 x6 x7 x8 x9 bh bC bN cm bX cA cD cY cp cn:Int),e=Value.agg #[x2,x3,x4,x5,x6,x7,x8,x9,bh,bC,bN,cm,bX,cA,cD,cY,cp,cn]/\Kp w w0 w1/\
 Aw w1 #[aa,aa,aa,aa,aa,aa,aa,aa,aa,aa,aa,aa,aa,aa,aa,aa,aa,aa] 186 λfx=>
 Wt fx ⟨w1,0,none⟩ 18/\Nb w1 w/\(∀eK,eK=aH fx (some ⟨w1,0,none⟩) [x2,x3,x4,x5,x6,x7,x8,x9,bh,bC,bN,cm,bX,cA,cD,cY,cp,cn]->
 (0:Int)<=2/\2<=((6:Nat):Int)/\(0:Int)<=2/\(2:Int)<=2/\(0:Int)<=4/\4<=((6:Nat):Int)/\∃l22:LV,Rd eK.drew (aJ (some ⟨w1,0,none⟩) ((4:Int).toNat) (6) 3) l22/\ba 24 3 eK.drew ⟨(aJ (some ⟨w1,0,none⟩) (0) ((2:Int).toNat) 3),((2:Int).toNat-0),((2:Int).toNat-0)⟩ (6-(4:Int).toNat) l22/\∀(s23:Sl)(fZ:World),aV 41 3 eK.drew ⟨(aJ (some ⟨w1,0,none⟩) (0) ((2:Int).toNat) 3),((2:Int).toNat-0),((2:Int).toNat-0)⟩ (6-(4:Int).toNat) l22 s23 fZ->Kp w eK.drew fZ/\
 R s23 fZ))):ah 303 #[.agg #[aA,aq,au]] w R:=
 cq bV Tryz.func303 h
theorem TV.vc{a0:Value}(h:
 Aw w #[ak,ao,aw] 41 λw0=>
 ah 159 #[.agg #[ak,ao,aw]] w0 (λe w1=>∃(x2 x3 x4 x5 x6 x7 x8 x9 bh bC bN cm bX cA cD cY cp cn:Int),e=Value.agg #[x2,x3,x4,x5,x6,x7,x8,x9,bh,bC,bN,cm,bX,cA,cD,cY,cp,cn]/\Kp w w0 w1/\
 ((0:Int)<=2/\(2:Int)<((6:Nat):Int))/\∃(cW dh dN:Int),(([x2,x3,x4,x5,x6,x7,x8,x9,bh,bC,bN,cm,bX,cA,cD,cY,cp,cn]:LV).drop ((2:Int).toNat*3)).take 3=[.int .i64 cW,.int .i64 dh,.int .i64 dN]/\
 Aw w1 #[aa,aa,aa] 41 λeh=>
 Sw eh w1 #[cW,dh,dN] λfZ=>
 cr Tryz.prog a0 [.agg #[cW,dh,dN]] fZ (Ri λfy cU=>K2 w w1 fZ cU (
 ah 144 #[fy] cU (Rb λOd eH=>K2 w w1 cU eH (
 Br (!Od)
 (R (Value.slice none 0 0) eH)
 (Aw eH #[ak,ao,aw,fy,cW,dh,dN,(3:Int)] 289 λdR=>
 R (Value.slice (some ⟨eH,0,none⟩) 2 2) dR))))))):ah 278 #[a0,.agg #[ak,ao,aw]] w R:=
 cq bV Tryz.func278 h
theorem acr.vc{a0:Addr}(h:
 ah 97 #[(4096:Int)] w (λe w0=>∃(p1:Option Addr),e=p1/\
 ∀w2,w2=w0.alloc (.cells #[p1,a0,.int .i64 (if 64<(if 1>a1 then 1 else a1) then 64 else (if 1>a1 then 1 else a1)),(0:Int),.func (.func 98) #[] #[],.slice none 0 0] 130)->
 R (Value.pointer (some ⟨w0,0,none⟩)) w2)):ah 40 #[a0,a1] w R:=
 cq bV Tryz.func40 h
theorem Gf.vc{a0:Addr}(h:
 ∃(p0:Option Addr),ld w (af (some a0) 1)=some (.pointer p0)/\
 R p0 w):ah 18 #[a0] w R:=
 cq bV Tryz.func18 h
theorem BW.vc{a0:Addr}(h:
 ∃(p0:Option Addr),ld w (af (some a0) 0)=some (.pointer p0)/\
 ah 138 #[p0] w (λe w1=>∃(s2:Sl),e=s2/\
 R s2 w1)):ah 82 #[a0] w R:=
 cq bV Tryz.func82 h
theorem DR.vc{a0:Addr}{f1:Fn}{p1 q1:Array Value}(h:
 ((true=true/\Wr w (af (some a0) 4) 1)/\(∀w0,w0=aH w (af (some a0) 4) [.func f1 p1 q1]->
 R sY w0))):ah 118 #[a0,.func f1 p1 q1] w R:=
 cq bV Tryz.func118 h
theorem K9.vc{a0:Addr}(h:
 ∃(x0:Int),ld w (af (some a0) 3)=some (.int .i64 x0)/\
 R x0 w):ah 68 #[a0] w R:=
 cq bV Tryz.func68 h
theorem IT.vc{a0:Addr}(h:
 Aw w #[ak,ao,aw] 41 λw0=>
 ∃(p1:Option Addr),ld w0.drew (af (some a0) 1)=some (.pointer p1)/\
 ah 161 #[p1,.agg #[ak,ao,aw],a2] w0.drew (Ri λx3 w2=>Kp w w0.drew w2/\
 Br (x3==0)
 (ah 162 #[a0,.agg #[ak,ao,aw]] w2 (Rt λw4=>Kp w w2 w4/\
 R x3 w4))
 (R x3 w2))):ah 113 #[a0,.agg #[ak,ao,aw],a2] w R:=
 cq bV Tryz.func113 h
theorem IU.vc{a0:Addr}(h:
 Aw w #[ak,ao,aw] 41 λw0=>
 ∃(p1:Option Addr),ld w0 (af (some a0) 1)=some (.pointer p1)/\
 ah 27 #[p1] w0 (Rv λv3 w2=>Kp w w0 w2/\
 ah 222 #[v3,.agg #[ak,ao,aw]] w2 (Rs λs5 w4=>Kp w w2 w4/\
 ∃I6:Nat->Int->World->Prop,
 (∃n7,aO [ak,ao,aw]/\I6 n7 (0) w4)/\
 ∀(n7:Nat)(us8:Nat->Value)(x9:Int)(bO:World),I6 n7 x9 bO->
 Br (decide (x9<((s5.n:Nat):Int)))
 (eo s5.a x9 s5.n/\∃(bN cm bX:Int),ag bO (af s5.a ((x9:Int).toNat*3)) 0 [bN,cm,bX]/\
 Aw bO #[aa,aa,aa] 41 λeA=>
 Sw eA bO #[bN,cm,bX] λcJ=>
 ∃(p17:Option Addr),ld cJ.drew (af (some a0) 0)=some (.pointer p17)/\
 ∃(cp:Int),ld cJ.drew (af (some a0) 3)=some (.int .i64 cp)/\
 cr Tryz.prog v3 [.agg #[bN,cm,bX]] cJ.drew (Ri λcW fP=>K2 w bO cJ.drew fP (
 ag fP (af (some a0) 3) 0 [cp]/\ag fP bO 0 [bN,cm,bX]/\ag fP (af (some a0) 0) 0 [.pointer p17]/\ah 223 #[cW] fP (Ri λdN eK=>K2 w bO fP eK (
 ag eK (af (some a0) 3) 0 [cp]/\ag eK bO 0 [bN,cm,bX]/\ag eK (af (some a0) 0) 0 [.pointer p17]/\ah 211 #[p17,.agg #[bN,cm,bX],(aj (cp+dN))] eK (Rb λZ4 eh=>K2 w bO eK eh (
 ag eh (af (some a0) 3) 0 [cp]/\∃sb,sb<n7/\aO [ak,ao,aw]/\I6 sb ((aj (x9+1))) eh)))))))
 (R sY bO)))):ah 162 #[a0,.agg #[ak,ao,aw]] w R:=
 cq ⟨[(3,⟨[(16,.int .i64)],[],[]⟩)],[],[]⟩ Tryz.func162 h
theorem DS.vc{a0:Addr}(h:
 Aw w #[ak,ao,aw,bz] 289 λw0=>
 ∃(p1:Option Addr),ld w0.drew (af (some a0) 1)=some (.pointer p1)/\
 ah 27 #[p1] w0.drew (Rv λv3 w2=>Kp w w0.drew w2/\
 ag w2 (some ⟨w,3,none⟩) 0 [bz]/\ag w2 w 0 [ak,ao,aw]/\cr Tryz.prog v3 [.agg #[ak,ao,aw]] w2 (Ri λx5 w4=>Kp w w2 w4/\
 ag w4 (some ⟨w,3,none⟩) 0 [bz]/\Br (x5 !=bz)
 (ah 113 #[a0,.agg #[ak,ao,aw],bz] w4 (Ri λx7 w6=>Kp w w4 w6/\
 R sY w6))
 (R sY w4)))):ah 244 #[a0,.agg #[ak,ao,aw,bz]] w R:=
 cq bV Tryz.func244 h
theorem DT.vc{a0:Addr}(h:
 Aw w #[ak,ao,aw] 41 λw0=>
 ∃(p1:Option Addr),ld w0.drew (af (some a0) 1)=some (.pointer p1)/\
 ah 100 #[p1,.agg #[ak,ao,aw]] w0.drew (Rb λb3 w2=>Kp w w0.drew w2/\
 Br (!b3)
 (∃(p4:Option Addr),ld w2.drew (af (some a0) 0)=some (.pointer p4)/\
 ∃(x5:Int),ld w2.drew (af (some a0) 3)=some (.int .i64 x5)/\
 ah 211 #[p4,.agg #[ak,ao,aw],(aj (x5+1))] w2.drew (Rb λb7 w6=>Kp w w2.drew w6/\
 ag w6 (af (some a0) 3) 0 [x5]/\R sY w6))
 (∃(p8:Option Addr),ld w2 (af (some a0) 1)=some (.pointer p8)/\
 ah 27 #[p8] w2 (Rv λv10 w9=>Kp w w2 w9/\
 ah 242 #[v10,.agg #[ak,ao,aw]] w9 (Rs λjJ aY=>Kp w w9 aY/\
 ah 159 #[.agg #[ak,ao,aw]] aY (λe bJ=>∃(bX cA cD cY cp cn cW dh dN dz eE dQ fy fE g7 gd jD ic:Int),e=Value.agg #[bX,cA,cD,cY,cp,cn,cW,dh,dN,dz,eE,dQ,fy,fE,g7,gd,jD,ic]/\Kp w aY bJ/\
 ((0:Int)<=2/\(2:Int)<((6:Nat):Int))/\∃(ig eF g8:Int),(([bX,cA,cD,cY,cp,cn,cW,dh,dN,dz,eE,dQ,fy,fE,g7,gd,jD,ic]:LV).drop ((2:Int).toNat*3)).take 3=[.int .i64 ig,.int .i64 eF,.int .i64 g8]/\
 Aw bJ #[aa,aa,aa] 41 λjK=>
 Sw jK bJ #[ig,eF,g8] λjW=>
 cr Tryz.prog v10 [.agg #[ak,ao,aw]] jW.drew (Ri λgA ie=>K2 w bJ jW.drew ie (
 ah 243 #[gA] ie (Rb λb40 jX=>K2 w bJ ie jX (
 Br b40
 (Br (decide ((((jJ.n:Nat):Int):Int)>0))
 (∃(v41:Value),ld jX (af (some a0) 4)=some (v41)/\
 cr Tryz.prog v41 [.agg #[ig,eF,g8]] jX (Rb λM7 ku=>K2 w bJ jX ku (
 Br M7
 (Aw ku #[ak,ao,aw,aa] 289 λko=>
 ∃(s45:Sl),ld ko.drew (af (some a0) 5)=some (.slice s45.a s45.n s45.c)/\
 Aw ko.drew #[ig,eF,g8] 41 λqC=>
 ba 24 3 qC s45 1 [ig,eF,g8]/\∀(C3:Sl)(fY:World),aV 41 3 qC s45 1 [ig,eF,g8] C3 fY->K3 w bJ ku qC fY (
 fY.heap[ko.drew.heap.size]? =qC.heap[ko.drew.heap.size]?/\
 (true=true/\Wr fY (af (some a0) 5) 1)/\bD (af (some a0) 5)≠some w.heap.size/\bD (af (some a0) 5)≠some bJ.heap.size/\bD (af (some a0) 5)≠some ku.heap.size/\bD (af (some a0) 5)≠some ko.drew.heap.size/\(∀lA,lA=aH fY (af (some a0) 5) [C3]->
 ∃I50:Nat->Int->World->Prop,
 (∃n51,aO [ak,ao,aw]/\aO [ig,eF,g8]/\aO [ak,ao,aw,aa]/\aO [ig,eF,g8]/\I50 n51 (0) lA)/\
 ∀(n51:Nat)(aqk:Nat->Value)(iV:Int)(AS:World),I50 n51 iV AS->
 Br (decide (iV<((1:Nat):Int)))
 (eo (some ⟨ku,0,none⟩) iV 1/\∃(qF mG wQ kJ:Int),ag AS (af (some ⟨ku,0,none⟩) ((iV:Int).toNat*4)) 0 [qF,mG,wQ,kJ]/\
 Aw AS #[aa,aa,aa,aa] 289 λmQ=>
 Sw mQ AS #[qF,mG,wQ,kJ] λoD=>
 ah 244 #[a0,.agg #[qF,mG,wQ,kJ]] oD (Rt λil=>K3 w bJ ku oD il (
 il.heap[ko.drew.heap.size]? =oD.heap[ko.drew.heap.size]?/\Kp AS oD il/\
 ∃n55,n55<n51/\aO [ak,ao,aw]/\aO [ig,eF,g8]/\aO [ak,ao,aw,aa]/\aO [ig,eF,g8]/\I50 n55 ((aj (iV+1))) il)))
 (R sY AS))))
 (∃I63:Nat->Int->World->Prop,
 (∃n64,aO [ak,ao,aw]/\aO [ig,eF,g8]/\I63 n64 (0) ku)/\
 ∀(n64:Nat)(apT:Nat->Value)(mS:Int)(kx:World),I63 n64 mS kx->
 Br (decide (mS<((jJ.n:Nat):Int)))
 (eo jJ.a mS jJ.n/\∃(oM nG mj ml:Int),ag kx (af jJ.a ((mS:Int).toNat*4)) 0 [oM,nG,mj,ml]/\
 Aw kx #[aa,aa,aa,aa] 289 λM8=>
 Sw M8 kx #[oM,nG,mj,ml] λlD=>
 ah 244 #[a0,.agg #[oM,nG,mj,ml]] lD (Rt λqD=>K3 w bJ kx lD qD (
 ∃n68,n68<n64/\aO [ak,ao,aw]/\aO [ig,eF,g8]/\I63 n68 ((aj (mS+1))) qD)))
 (R sY kx)))))
 (∃I76:Nat->Int->World->Prop,
 (∃n77,aO [ak,ao,aw]/\aO [ig,eF,g8]/\I76 n77 (0) jX)/\
 ∀(n77:Nat)(axA:Nat->Value)(vt:Int)(uA:World),I76 n77 vt uA->
 Br (decide (vt<((jJ.n:Nat):Int)))
 (eo jJ.a vt jJ.n/\∃(qG sQ xg AN:Int),ag uA (af jJ.a ((vt:Int).toNat*4)) 0 [qG,sQ,xg,AN]/\
 Aw uA #[aa,aa,aa,aa] 289 λw86=>
 Sw w86 uA #[qG,sQ,xg,AN] λAO=>
 ah 244 #[a0,.agg #[qG,sQ,xg,AN]] AO (Rt λKg=>K3 w bJ uA AO Kg (
 ∃n81,n81<n77/\aO [ak,ao,aw]/\aO [ig,eF,g8]/\I76 n81 ((aj (vt+1))) Kg)))
 (R sY uA)))
 (∃I89:Nat->Int->World->Prop,
 (∃n90,aO [ak,ao,aw]/\aO [ig,eF,g8]/\I89 n90 (0) jX)/\
 ∀(n90:Nat)(aqo:Nat->Value)(zh:Int)(GZ:World),I89 n90 zh GZ->
 Br (decide (zh<((jJ.n:Nat):Int)))
 (eo jJ.a zh jJ.n/\∃(pF pG C2 Kh:Int),ag GZ (af jJ.a ((zh:Int).toNat*4)) 0 [pF,pG,C2,Kh]/\
 Aw GZ #[aa,aa,aa,aa] 289 λOf=>
 Sw Of GZ #[pF,pG,C2,Kh] λrL=>
 ah 244 #[a0,.agg #[pF,pG,C2,Kh]] rL (Rt λkE=>K3 w bJ GZ rL kE (
 ∃n94,n94<n90/\aO [ak,ao,aw]/\aO [ig,eF,g8]/\I89 n94 ((aj (zh+1))) kE)))
 (R sY GZ)))))))))))):ah 173 #[a0,.agg #[ak,ao,aw]] w R:=
 cq ⟨[(10,⟨[(70,.int .i64)],[],[]⟩),(10,⟨[(70,.int .i64)],[],[]⟩),(10,⟨[(70,.int .i64)],[],[]⟩),(10,⟨[(70,.int .i64)],[],[]⟩)],[],[]⟩ Tryz.func173 h
theorem IV.vc{a0:Addr}(h:
 ∃(x0:Int),ld w (af (some a0) 3)=some (.int .i64 x0)/\
 (true=true/\Wr w (af (some a0) 3) 1)/\(∀w1,w1=aH w (af (some a0) 3) [.int .i64 (if 1099511627776<(aj (x0+1)) then 1099511627776 else (aj (x0+1)))]->
 ∃(p2:Option Addr),ld w1.drew (af (some a0) 0)=some (.pointer p2)/\
 ∃(x3:Int),ld w1.drew (af (some a0) 3)=some (.int .i64 x3)/\
 ∃(x4:Int),ld w1.drew (af (some a0) 2)=some (.int .i64 x4)/\
 ah 172 #[p2,x3,x4] w1.drew (λe w5=>∃(s6:Sl),e=s6/\
 ∃I7:Nat->Int->World->Prop,
 (∃n8,I7 n8 (0) w5)/\
 ∀(n8:Nat)(us9:Nat->Value)(bh:Int)(aY:World),I7 n8 bh aY->
 Br (decide (bh<((s6.n:Nat):Int)))
 (eo s6.a bh s6.n/\∃(cm bX cA:Int),ag aY (af s6.a ((bh:Int).toNat*3)) 0 [cm,bX,cA]/\
 Aw aY #[aa,aa,aa] 41 λcJ=>
 Sw cJ aY #[cm,bX,cA] λcL=>
 ah 173 #[a0,.agg #[cm,bX,cA]] cL (Rt λdG=>Kp aY cL dG/\
 ∃JW,JW<n8/\I7 JW ((aj (bh+1))) dG))
 (R (Value.int .i64 ((s6.n:Nat):Int)) aY)))):ah 119 #[a0] w R:=
 cq ⟨[(4,⟨[(30,.int .i64)],[],[]⟩)],[],[]⟩ Tryz.func119 h
open Go.dJ Go.bj Go.Code Go.fR
def eO(c:Ce):Prop:=(-2000000000<=c.1/\c.1<=2000000000)/\(-2000000000<=c.2.1/\c.2.1<=2000000000)/\-2000000000<=c.2.2/\c.2.2<=2000000000
def zn(c:Ce):Prop:=(-1000000000<=c.1/\c.1<=1000000000)/\(-1000000000<=c.2.1/\c.2.1<=1000000000)/\-1000000000<=c.2.2/\c.2.2<=1000000000
theorem eO.ok{c:Ce}(h:eO c):pn c:=by unfold eO at h;unfold pn inI;omega
theorem zn.wide{c:Ce}(h:zn c):eO c:=by unfold zn at h;unfold eO;omega
theorem DC{c:Ce}(h:eO c){n:Ce}(hn:n ∈ pN c):pn n:=by unfold eO at h;unfold pN eT BA at hn;simp only [cB,jQ,or_false] at hn;rcases hn with rfl|rfl|rfl|rfl|rfl|rfl<;>(unfold pn inI;simp only;omega)
theorem adb{c:Ce}(h:zn c){n:Ce}(hn:n ∈ pN c):eO n:=by unfold zn at h;unfold pN eT BA at hn;simp only [cB,jQ,or_false] at hn;rcases hn with rfl|rfl|rfl|rfl|rfl|rfl<;>(unfold eO;simp only;omega)
theorem qy(n:Int)(h: -2147483648<=n/\n<=2147483648)(w:World):ah 220 #[n] w λe w'=>e=n/\w'=w:=by apply DQ.vc;have e1:(if (-2147483648)>n then (-2147483648) else n)=n:=if_neg ab;rw [e1,if_neg ab];exact ⟨rfl,rfl⟩
theorem Zt(c:Ce)(h:(-2147483648<=c.1/\c.1<=2147483648)/\(-2147483648<=c.2.1/\c.2.1<=2147483648)/\-2147483648<=c.2.2/\c.2.2<=2147483648)(w:World):ah 210 #[dY c] w λe w'=>e=(dY c)/\Ext w w':=by
 apply XQ.vc;intro w0 e0 w1 e1;have x1:Ext w w1:=(aL e0).bn e1;have z0:=eG e0;have r0:Row w1 w [c.1,c.2.1,c.2.2] pM:=(by rw [e0];exact Row.new w [_,_,_] _:Row w0 w _ _).ext (aL e1);have xd:=Ext.dr w1;have r1:=r0.ext xd;refine (qy c.1 h.1 w1.drew).mono ?_;rintro e w2 ⟨rfl,rfl⟩;refine ⟨_,rfl,rfl,rfl,r1.bZ (o:=2) (λj hj=>by
  match j,hj with
  |0,_=>rfl),r1.bZ (o:=1) (λj hj=>by
  match j,hj with
  |0,_=>rfl),(qy c.2.1 h.2.1 w1.drew).mono ?_⟩
 rintro e w4 ⟨rfl,rfl⟩;refine ⟨_,rfl,rfl,rfl,r1.bZ (o:=2) (λj hj=>by
  match j,hj with
  |0,_=>rfl),(qy c.2.2 h.2.2 w1.drew).mono ?_⟩
 rintro e w6 ⟨rfl,rfl⟩;exact ⟨_,rfl,rfl,rfl,λw8 e8=>⟨rfl,(x1.tr xd).ae e8 ab⟩⟩
theorem k8(a b d:Int)(c c':Ce)(he:c'=(c.1+a,c.2.1+b,c.2.2+d))(hc:eO c)(ha:(-1<=a/\a<=1)/\(-1<=b/\b<=1)/\-1<=d/\d<=1){g:Nat}{w:World}(hr:Row w g [c.1,c.2.1,c.2.2] pM):
  ah 219 #[a,b,d,g] w λe w'=>e=(dY c')/\Ext w w':=by
 subst he;apply K0.vc;obtain ⟨⟨h1,h2⟩,⟨h3,h4⟩,h5,h6⟩:=id hc;intro w0 e0;have x0:=aL e0;have z0:=eG e0;have xd:=x0.tr (Ext.dr w0);have zd:=lG w0;have r1:=hr.ext xd;have q1:aj (c.1+a)=c.1+a:=wI;have q2:aj (c.2.1+b)=c.2.1+b:=wI;have q3:aj (c.2.2+d)=c.2.2+d:=wI;refine ⟨c.1,r1.at 0 rfl,c.2.1,r1.at 1 rfl,c.2.2,r1.at 2 rfl,(qy c.1 ab w0.drew).mono ?_⟩;rintro e w4 ⟨rfl,rfl⟩;refine ⟨_,rfl,rfl,oa (r1.at 2 rfl),oa (r1.at 1 rfl),(qy c.2.1 ab w0.drew).mono ?_⟩;rintro e w6 ⟨rfl,rfl⟩;refine ⟨_,rfl,rfl,oa (r1.at 2 rfl),(qy c.2.2 ab w0.drew).mono ?_⟩;rintro e w8 ⟨rfl,rfl⟩;refine ⟨_,rfl,rfl,?_⟩;rw [q1,q2,q3];refine (Zt (c.1+a,c.2.1+b,c.2.2+d) (by simp only;omega) w0.drew).mono ?_;rintro e bO ⟨rfl,bh⟩;exact ⟨_,_,_,rfl,bh.heap ab,λbP ux=>⟨rfl,(xd.tr bh).ae ux (aB _)⟩⟩
abbrev dA(c:Ce):LV:=[.int .i64 c.1,.int .i64 c.2.1,.int .i64 c.2.2]
theorem AG(c:Ce):One (dA c):=by intro v hv;simp at hv;rcases hv with rfl|rfl|rfl<;>rfl
abbrev B2(c:Ce):LV:=[.int .i64 (c.1-1),.int .i64 c.2.1,.int .i64 c.2.2,.int .i64 (c.1+1),.int .i64 c.2.1,.int .i64 c.2.2,.int .i64 c.1,.int .i64 (c.2.1-1),.int .i64 c.2.2,.int .i64 c.1,.int .i64 (c.2.1+1),.int .i64 c.2.2,.int .i64 c.1,.int .i64 c.2.1,.int .i64 (c.2.2-1),.int .i64 c.1,.int .i64 c.2.1,.int .i64 (c.2.2+1)]
theorem D6(c:Ce):One (B2 c):=by intro v hv;simp only [B2,cB,jQ,or_false] at hv;rcases hv with rfl|rfl|rfl|rfl|rfl|rfl|rfl|rfl|rfl|rfl|rfl|rfl|rfl|rfl|rfl|rfl|rfl|rfl<;>rfl
theorem Zu(c:Ce):B2 c=((pN c).map dA).flatten:=rfl
theorem aQ{cs vs:LV}(h:vs.length=cs.length):aR cs 0 vs=vs:=by rw [dj _ _ _ ab];simp [<-h]
theorem H4{a b c a' b' c':Int}(h1:a=a')(h2:b=b')(h3:c=c'):((a,b,c):Ce)=(a',b',c'):=by rw [h1,h2,h3]
set_option maxRecDepth 100000 in
theorem iP(c:Ce)(hc:eO c)(w:World):ah 159 #[dY c] w λe w'=>e=Value.agg (B2 c).toArray/\Ext w w':=by apply TU.vc;intro w0 e0 w1 e1;have x1:Ext w w1:=(aL e0).bn e1;have z0:=eG e0;have r0:Row w1 w [c.1,c.2.1,c.2.2] pM:=(by rw [e0];exact Row.new w [_,_,_] _:Row w0 w _ _).ext (aL e1);have rb:Row w1 w0 [aa,aa,aa,aa,aa,aa,aa,aa,aa,aa,aa,aa,aa,aa,aa,aa,aa,aa] 186:=Row.nw e1;refine (k8 (-1) 0 0 c (c.1-1,c.2.1,c.2.2) (H4 ab ab ab) hc aF r0).mono ?_;rintro e w2 ⟨rfl,x2⟩;refine ⟨_,_,_,rfl,(k8 1 0 0 c (c.1+1,c.2.1,c.2.2) (H4 ab ab ab) hc aF (r0.ext x2)).mono ?_⟩;rintro e w6 ⟨rfl,x6⟩;have y6:=x2.tr x6;refine ⟨_,_,_,rfl,(k8 0 (-1) 0 c (c.1,c.2.1-1,c.2.2) (H4 ab ab ab) hc aF (r0.ext y6)).mono ?_⟩;rintro e bO ⟨rfl,bh⟩;have y10:=y6.tr bh;refine ⟨_,_,_,rfl,(k8 0 1 0 c (c.1,c.2.1+1,c.2.2) (H4 ab ab ab) hc aF (r0.ext y10)).mono ?_⟩;rintro e bP ⟨rfl,bX⟩;have y14:=y10.tr bX;refine ⟨_,_,_,rfl,(k8 0 0 (-1) c (c.1,c.2.1,c.2.2-1) (H4 ab ab ab) hc aF (r0.ext y14)).mono ?_⟩;rintro e dG ⟨rfl,cp⟩;have y18:=y14.tr cp;refine ⟨_,_,_,rfl,(k8 0 0 1 c (c.1,c.2.1,c.2.2+1) (H4 ab ab ab) hc aF (r0.ext y18)).mono ?_⟩;rintro e dT ⟨rfl,dN⟩;have y22:=y18.tr dN;have r22:=rb.ext y22;refine ⟨_,_,_,rfl,⟨rfl,r22.wr bB⟩,λfi zk=> ?_⟩;have zk:fi=aH dT (some ⟨w0.heap.size,0,none⟩) (B2 c):=zk;rw [r22.aH (vs:=B2 c) bB (D6 c),aQ bB] at zk;have hr':Row fi w0 (B2 c) 186:=r22.st zk;exact ⟨_,_,_,_,_,_,_,_,_,_,_,_,_,_,_,_,_,_,hr'.bZ (λj hj=>by rw [ep]),rfl,(x1.tr y22).ae zk ab⟩
theorem vF(b:Int)(w:World):ah 243 #[b] w λe w'=>e=Value.bool (b==3)/\w'=w:=by apply Lk.vc;exact ⟨rfl,rfl⟩
theorem nT(b:Int)(w:World):ah 202 #[b] w λe w'=>e=Value.bool (qR b)/\w'=w:=by
 apply Ub.vc;unfold qR;refine Br.mk (λh=>⟨?_,rfl⟩) (λh=>⟨?_,rfl⟩)
 ·have h1:(8:Int)<=b:=by simpa using h
  rw [decide_eq_true h1,Bool.true_and]
 ·have h1:¬(8:Int)<=b:=by simpa using h
  rw [decide_eq_false h1,Bool.false_and]
theorem BC(b:Int)(w:World):ah 144 #[b] w λe w'=>e=Value.bool (lu b)/\w'=w:=by
 apply IX.vc;unfold lu;refine Br.mk (λh=>⟨?_,rfl⟩) (λh=>(nT b w).mono ?_)
 ·have h1:b=0:=by simpa using h
  rw [decide_eq_true h1,Bool.true_or]
 ·rintro e w' ⟨rfl,rfl⟩;have h1:¬b=0:=by simpa using h
  rw [decide_eq_false h1,Bool.false_or];exact ⟨_,rfl,rfl,rfl⟩
theorem Ek(b:Int)(w:World):ah 223 #[b] w λe w'=>e=Value.int .i64 (jk b)/\w'=w:=by
 apply Pz.vc;refine (vF b w).mono ?_;rintro e w0 ⟨rfl,rfl⟩;unfold jk;refine ⟨_,rfl,Br.mk (λh=> ?_) (λh=>(nT b w0).mono ?_)⟩
 ·rw [if_pos (by simpa using h)];exact ⟨rfl,rfl⟩
 ·rintro e w2 ⟨rfl,rfl⟩;rw [if_neg (by simpa using h)];refine ⟨_,rfl,Br.mk (λh=> ?_) (λh=> ?_)⟩
  ·rw [if_pos h];exact ⟨rfl,rfl⟩
  ·rw [if_neg (by rw [h];decide)];exact ⟨rfl,rfl⟩
def Tl(v:Value)(V:Ce->Int)(w:World):Prop:=∃D:Nat->Prop,(∀i,D i->i<w.heap.size)/\∀w',(∀i,D i->w'.heap[i]? =w.heap[i]?)->∀c,pn c->cr Tryz.prog v [dY c] w' λe w''=>e=Value.int .i64 (V c)/\Ext w' w''
theorem Tl.ext{v:Value}{V:Ce->Int}{w w':World}(h:Tl v V w)(x:Ext w w'):Tl v V w':=by obtain ⟨D,h1,h2⟩:=h;exact ⟨D,λi hi=>j6 (h1 i hi) x.size,λw'' hk=>h2 w'' λi hi=>(hk i hi).trans (x.heap (h1 i hi))⟩
theorem Tl.at{v:Value}{V:Ce->Int}{w:World}(h:Tl v V w){c:Ce}(hc:pn c):cr Tryz.prog v [dY c] w λe w'=>e=Value.int .i64 (V c)/\Ext w w':=by obtain ⟨D,h1,h2⟩:=h;exact h2 w (λ_ _=>rfl) c hc
theorem ee{v:Value}{l:LV}{w:World}{R R':Ending->World->Prop}(h:cr Tryz.prog v l w R)(k:∀e w',R e w'->R' e w'):cr Tryz.prog v l w R':=dp h k
abbrev lP(x:Go.fR.Cg):LV:=[.int .i64 x.1.1,.int .i64 x.1.2.1,.int .i64 x.1.2.2,.int .i64 x.2]
theorem Zv{E k n:Nat}{w w':World}{s s':Sl}{news:LV}(h:aV E k w s n news s' w')(hc:s.c<s.n+n):Ext w w':=by
 cases h with
 |fits hf=>omega
 |A3=>exact (Ext.dr w).tr (Ext.al _ _)
set_option maxRecDepth 100000 in
theorem P4{v:Value}{V:Ce->Int}{w:World}(hV:Tl v V w)(c:Ce)(hc:eO c):
  ah 222 #[v,dY c] w λe w'=>∃s:Sl,e=s/\aC w pM 3 w' s ((rf V c).map dA)/\Ext w w':=by
 apply PB.vc;intro w0 e0;have x0:=aL e0;have z0:=eG e0;refine (iP c hc w0).mono ?_;rintro e w1 ⟨rfl,x1⟩;have z1:=x1.size;refine ⟨_,_,_,_,_,_,_,_,_,_,_,_,_,_,_,_,_,_,rfl,x1.heap ab,λfx e20=> ?_⟩;have cW:=aL e20;have z20:=eG e20;have hr:Row fx w1 [aa,aa,aa,aa,aa,aa,aa,aa,aa,aa,aa,aa,aa,aa,aa,aa,aa,aa] 186:=Row.nw e20;refine ⟨⟨rfl,hr.wr bB⟩,λe=>by
  have:w1.heap.size=w.heap.size:=by simpa [bD] using e
  omega,λeK yY dT yX=> ?_⟩
 have yY:eK=aH fx (some ⟨w1.heap.size,0,none⟩) (B2 c):=yY;rw [hr.aH (vs:=B2 c) bB (D6 c),aQ bB] at yY;have pP:Row eK w1 (B2 c) 186:=hr.st yY;have dh:Ext w eK:=(x0.tr (x1.tr cW)).ae yY ab;have z21:=Kq yY;have xd:=Ext.dr eK;have zd:=lG eK;have dN:=aL yX;have z22:=eG yX;have asJ:Row dT eK.drew.heap.size (dA c) pM:=Row.nw yX;have asK:=dh.tr (xd.tr dN);have asL:=pP.ext (xd.tr dN);have ho:aC w pM 3 dT ⟨some ⟨eK.drew.heap.size,0,none⟩,1,1⟩ [dA c]:=aC.jg ab asJ bB (aB _) rfl bB;have ha:=ho.FY (bytes:=24) (more:=(pN c).map dA) ab (λr hr=>by obtain ⟨y,-,rfl⟩:=aZ.1 hr;rfl) (λr hr=>by obtain ⟨y,-,rfl⟩:=aZ.1 hr;exact AG y) (by simp [pN]) (by simp [pN]);obtain ⟨hp,bw⟩:=ha;refine ⟨((pN c).map dA).flatten,?_,hp,λrN cU ad7=> ?_⟩
 ·rw [ed];intro i u hu;exact asL.at i (by rw [Zu];exact hu)
 obtain ⟨WM,azP,-,-,-⟩:=bw rN cU ad7;have dQ:Ext dT cU:=Zv ad7 (show (1:Nat)<1+(6-0) by decide);have z25:=dQ.size;have amo:Ext w cU:=asK.tr dQ;have WM:aC w pM 3 cU rN ((c::pN c).map dA):=WM;have gS:=WM.rd (show 0<3 by decide);have azQ:rN.n=7:=gS.n;refine ⟨dQ.heap ab,dQ.heap ab,λn x sS fJ=>∃j:Nat,x=j/\j+n=7/\aC cU pM 3 fJ sS ((((c::pN c).take j).filter λn=>decide (0<jk (V n))).map dA)/\Ext cU fJ,⟨7,rfl,rfl,0,rfl,rfl,aC.nil,Ext.cE _⟩,?_⟩;rintro n us x sS fJ ⟨j,rfl,hj,abh,ic⟩;have z31:=ic.size;apply Br.mk<;>intro hb
 ·replace hb:=mh hb;obtain ⟨y,hy⟩:=bI (l:=c::pN c) (i:=j) (by have:(c::pN c).length=7:=rfl;omega);have Z1:y ∈ c::pN c:=bg hy;have oky:pn y:=by
   rcases cB.1 Z1 with rfl|h
   ·exact hc.ok
   ·exact DC hc h
  have hy':((c::pN c).map dA)[j]? =some (dA y):=by rw [aU,hy];rfl
  have se:(c::pN c).take (j+1)=(c::pN c).take j++ [y]:=by rw [dD,hy];rfl
  refine ⟨gS.g9 (i:=(j:Int)) aF ab hb,_,_,_,(gS.ext ic).bZ hy',λjW ZY ie WW=> ?_⟩;have fB:Ext fJ ie:=(aL ZY).ae WW (aB _);have z37:=BI ZY WW;refine ee ((hV.ext (amo.tr (ic.tr fB))).at oky) ?_;rintro e lf ⟨rfl,gA⟩;have z38:=gA.size;refine ⟨_,rfl,gA.heap ab,gA.heap ab,gA.heap ab,(Ek (V y) lf).mono ?_⟩;rintro e jr ⟨rfl,rfl⟩;have wk:=mz (j:=j);refine ⟨_,rfl,rfl,rfl,rfl,?_⟩;have amp:=abh.ext (fB.tr gA);apply Br.mk<;>intro hd
  ·intro ku ZV;subst ZV;have ais:sS.n<=7:=by have h1:=(abh.rd (show 0<3 by decide)).n;have h2:=List.length_filter_le (λn=>decide (0<jk (V n))) ((c::pN c).take j);rw [aN] at h1;rw [du] at h2;omega
   obtain ⟨Cq,hres8⟩:=amp.iO (bytes:=24) (news:=dA y) (.cells #[y.1,y.2.1,y.2.2] pM) ab rfl (AG y) ab ab;refine ⟨Cq,λs43 ko abi=> ?_⟩;obtain ⟨f8,xc,hn8,x8,Fc,-⟩:=hres8 s43 ko abi;have xa:=Ext.al jr (.cells #[y.1,y.2.1,y.2.2] pM);have ag4:∀b,sS.aX=some b->cU.heap.size<=b/\b<fJ.heap.size:=λb hb=>abh.own.lt hb
   have kp:∀j,(j<cU.heap.size\/fJ.heap.size<=j)->j<jr.heap.size->ko.heap[j]? =(jr.alloc (.cells #[y.1,y.2.1,y.2.2] pM)).heap[j]? :=λj hj hj2=>by rw [Fc j (λhb=>by have:=ag4 j hb;omega) hj2,xa.heap hj2]
   refine ⟨kp _ (.inl ab) ab,kp _ (.inl ab) ab,kp _ (.inr ab) ab,f8,n-1,by omega,rfl,rfl,j+1,wk,by omega,?_,(Below.trans (ic.tr (fB.tr gA)) x8:Below cU cU ko)⟩;rw [se,oY,bU,List.filter_cons_of_pos (by simpa using hd)];exact xc
  ·refine ⟨n-1,by omega,rfl,rfl,j+1,wk,by omega,?_,ic.tr (fB.tr gA)⟩;rw [se,oY,bU,List.filter_cons_of_neg (by simpa using hd)];simpa using amp
 ·replace hb:=my hb;have hj7:(c::pN c).take j=c::pN c:=fC (by have:(c::pN c).length=7:=rfl;omega);rw [hj7] at abh;exact ⟨sS,rfl,abh.low ab,amo.tr ic⟩
theorem Pc(c:Ce):((B2 c).drop ((2:Int).toNat*3)).take 3=dA (eT c):=rfl
set_option maxRecDepth 100000 in
theorem TG{v:Value}{V:Ce->Int}{w:World}(hV:Tl v V w)(c:Ce)(hc:eO c):
  ah 278 #[v,dY c] w λe w'=>∃s:Sl,e=s/\aC w kc 4 w' s ((MC V c).map lP)/\Ext w w':=by
 apply TV.vc;intro w0 e0;have x0:=aL e0;have z0:=eG e0;refine (iP c hc w0).mono ?_;rintro e w1 ⟨rfl,x1⟩;have z1:=x1.size;have okl:pn (eT c):=DC hc (by simp [pN]);refine ⟨_,_,_,_,_,_,_,_,_,_,_,_,_,_,_,_,_,_,rfl,x1.heap ab,by decide,_,_,_,Pc c,λeh Ii fZ GJ=> ?_⟩;have eE:Ext w1 fZ:=(aL Ii).ae GJ (aB _);have z24:=BI Ii GJ;have ait:=x0.tr (x1.tr eE);refine ee ((hV.ext ait).at okl) ?_;rintro e cU ⟨rfl,dQ⟩;have z25:=dQ.size;refine ⟨_,rfl,dQ.heap ab,dQ.heap ab,(BC (V (eT c)) cU).mono ?_⟩;rintro e eH ⟨rfl,rfl⟩;unfold MC;refine ⟨_,rfl,rfl,rfl,Br.mk (λh=> ?_) (λh=>λdR M3=> ?_)⟩
 ·rw [if_neg (by simpa using h)];exact ⟨⟨none,0,0⟩,rfl,aC.nil,ait.tr dQ⟩
 ·rw [if_pos (by simpa using h)];have hr:Row dR eH (([(c,V (eT c)),(eT c,3)]:List Go.fR.Cg).map lP).flatten kc:=Row.nw M3;exact ⟨⟨some ⟨eH.heap.size,0,none⟩,2,2⟩,rfl,aC.jg ab hr (aB _) (aB _) rfl (by intro r hr;simp at hr;rcases hr with rfl|rfl<;>rfl),(ait.tr dQ).bn M3⟩
variable {R:Ending->World->Prop} {w:World} {a0 a1 a2 a3 a4 a5 a6 a7 a8 a9 aA aq au aS aT aW bM bG bH Cr ak ao aw bz bT bR eW eX eD Cs bq bA bo wL wM uS uT wN wO wP Ct Cu Cv Cw Cx Cy Cz CA CB CC:Int}
theorem KH.vc{a0:Value}(h:
 Aw w #[ak,ao,aw] 41 λw0=>
 ah 301 #[a0,.agg #[ak,ao,aw]] w0 (λe w1=>∃(x2:Int)(b3:Bool),e=Value.tuple #[x2,b3]/\Kp w w0 w1/\
 ∃J4:World->Prop,
 (Br (a2>0)
 (Br (!b3)
 (Aw w1 #[ak,ao,aw,aa] 289 λw5=>
 R (Value.slice (some ⟨w1,0,none⟩) 1 1) w5)
 (Br (a2>0)
 (Br (x2 !=a2)
 (ah 302 #[x2] w1.drew (Ri λx7 w6=>Kp w w1.drew w6/\
 ag w6 w 0 [ak,ao,aw]/\Aw w6 #[ak,ao,aw,x7] 289 λw8=>
 R (Value.slice (some ⟨w6,0,none⟩) 1 1) w8))
 (aO [ak,ao,aw]/\J4 w1))
 (aO [ak,ao,aw]/\J4 w1)))
 (Br (a2>0)
 (Br (x2 !=a2)
 (ah 302 #[x2] w1.drew (Ri λbh w9=>Kp w w1.drew w9/\
 ag w9 w 0 [ak,ao,aw]/\Aw w9 #[ak,ao,aw,bh] 289 λaY=>
 R (Value.slice (some ⟨w9,0,none⟩) 1 1) aY))
 (aO [ak,ao,aw]/\J4 w1))
 (aO [ak,ao,aw]/\J4 w1)))/\
 ∀ag0:Nat->Value,∀(bJ:World),J4 bJ->
 ah 159 #[.agg #[ak,ao,aw]] bJ (λe bP=>∃(cA cD cY cp cn cW dh dN dz eE dQ fy fE g7 gd jD ic ig:Int),e=Value.agg #[cA,cD,cY,cp,cn,cW,dh,dN,dz,eE,dQ,fy,fE,g7,gd,jD,ic,ig]/\Kp w bJ bP/\
 ((0:Int)<=2/\(2:Int)<((6:Nat):Int))/\∃(eF g8 kv:Int),(([cA,cD,cY,cp,cn,cW,dh,dN,dz,eE,dQ,fy,fE,g7,gd,jD,ic,ig]:LV).drop ((2:Int).toNat*3)).take 3=[.int .i64 eF,.int .i64 g8,.int .i64 kv]/\
 Aw bP #[aa,aa,aa] 41 λjW=>
 Sw jW bP #[eF,g8,kv] λie=>
 ∃J38:World->Prop,
 (cr Tryz.prog a0 [.agg #[eF,g8,kv]] ie (Ri λmc jX=>K2 w bP ie jX (
 Br (mc==0)
 (ah 302 #[(1:Int)] jX.drew (Ri λlh gO=>K2 w bP jX.drew gO (
 ag gO (some ⟨bP,0,none⟩) 0 [eF,g8,kv]/\Aw gO #[eF,g8,kv,lh] 289 λjd=>
 R (Value.slice (some ⟨gO,0,none⟩) 1 1) jd)))
 (ah 202 #[mc] jX (Rb λM6 ko=>K2 w bP jX ko (
 Br M6
 (R (Value.slice none 0 0) ko)
 (Br (a2>=7)
 (R (Value.slice none 0 0) ko)
 (aO [ak,ao,aw]/\aO [eF,g8,kv]/\J38 ko))))))))/\
 ∀amg:Nat->Value,∀(lg:World),J38 lg->
 ah 303 #[.agg #[ak,ao,aw]] lg (Rs λs49 fY=>K2 w bP lg fY (
 ∃I50:Nat->Int->Sl->World->Prop,
 (∃n51,aO [ak,ao,aw]/\aO [eF,g8,kv]/\I50 n51 (0) ⟨none,0,0⟩ fY)/\
 ∀(n51:Nat)(aqk:Nat->Value)(iV:Int)(C1:Sl)(yQ:World),I50 n51 iV C1 yQ->
 Br (decide (iV<((s49.n:Nat):Int)))
 (eo s49.a iV s49.n/\∃(mG wQ kJ:Int),ag yQ (af s49.a ((iV:Int).toNat*3)) 0 [mG,wQ,kJ]/\
 Aw yQ #[aa,aa,aa] 41 λmQ=>
 Sw mQ yQ #[mG,wQ,kJ] λoD=>
 cr Tryz.prog a0 [.agg #[mG,wQ,kJ]] oD (Ri λsR il=>K3 w bP yQ oD il (
 Br (sR==0)
 (ah 302 #[(aj (a2+1))] il.drew (Ri λpj sO=>K3 w bP yQ il.drew sO (
 ag sO yQ 0 [mG,wQ,kJ]/\Aw sO #[mG,wQ,kJ,pj] 289 λoK=>
 ba 32 4 oK C1 1 [mG,wQ,kJ,pj]/\∀(s67:Sl)(sJ:World),aV 289 4 oK C1 1 [mG,wQ,kJ,pj] s67 sJ->K4 w bP yQ sO oK sJ (
 ∃n56,n56<n51/\aO [ak,ao,aw]/\aO [eF,g8,kv]/\I50 n56 ((aj (iV+1))) s67 sJ))))
 (∃n56,n56<n51/\aO [ak,ao,aw]/\aO [eF,g8,kv]/\I50 n56 ((aj (iV+1))) C1 il))))
 (R C1 yQ)))))):ah 279 #[a0,.agg #[ak,ao,aw],a2] w R:=
 cq ⟨[(14,⟨[(66,.int .i64),(11,.slice)],[],[]⟩)],[(12,⟨[],[],[]⟩),(6,⟨[],[],[]⟩)],[]⟩ Tryz.func279 h
theorem adm{E k m n c:Nat}{w w':World}{a:Option Addr}{s':Sl}{xs news:LV}{rows:List (LV)}(h:aV E k w ⟨a,m,c⟩ n news s' w')(hc:c<m+n)(hx:xs.length=m*k)(gS:Rd w a xs)(cO:xs++news=rows.flatten)(hw:∀r ∈ rows,r.length=k)(hl:news.length=n*k):aC w E k w' s' rows/\Ext w w':=by
 cases h with
 |fits hf=>simp only at hf;omega
 |A3 hg fz rest cap e1 e2 e3 e4=>
  have ho:fz=xs:=by
   apply iY;intro i;rcases Nat.lt_or_ge i xs.length with hi|hi
   ·have h1:=gS i xs[i] (cZ hi);have hi':i<fz.length:=by simp only at e1;omega
    have h2:=e2 i fz[i] (cZ hi');rw [h1] at h2;rw [cZ hi,cZ hi'];exact h2.symm
   ·rw [ju hi,ju (by simp only at e1;omega)]
  subst ho;have JN:=Row.new w.drew (fz++news++rest) E;refine ⟨aC.jg (aB _) JN (Nat.le_of_eq e4.symm) e3 ?_ hw,(Ext.dr w).tr (Ext.al _ _)⟩;rw [<-cO];have dI:(fz++news).length=(m+n)*k:=by rw [dm,hx,hl,Nat.add_mul]
  rw [List.take_append_of_le_length (by simp only;omega),fC (by simp only;omega)]
theorem DD(b:Int)(w:World):ah 280 #[b] w λe w'=>e=Value.int .i64 (fX b)/\w'=w:=by
 apply Ld.vc;refine (nT b w).mono ?_;rintro e w0 ⟨rfl,rfl⟩;unfold fX;refine ⟨_,rfl,Br.mk (λh=> ?_) (λh=> ?_)⟩
 ·have h:qR b=false:=by simpa using h
  rw [h,if_neg aF];exact ⟨rfl,rfl⟩
 ·have h:qR b=true:=by simpa using h
  rw [h,if_pos rfl];unfold qR at h;simp only [fm,cQ] at h;rw [wI];exact ⟨rfl,rfl⟩
theorem KI{c:Ce}(h:eO c){n:Ce}(hn:n ∈ c8 c):pn n/\n ∈ pN c:=by
 have:n ∈ pN c:=by
  unfold c8 at hn;unfold pN;simp only [cB,jQ,or_false] at hn ⊢;rcases hn with h|h|h|h
  ·exact .inl h
  ·exact .inr (.inl h)
  ·exact .inr (.inr (.inr (.inr (.inl h))))
  ·exact .inr (.inr (.inr (.inr (.inr h))))
 exact ⟨DC h this,this⟩
theorem SW{w:World}{g:Nat}{cs:LV}{τ:TypeId}(hr:Row w g cs τ)(o:Nat){xs:LV}(h:∀i,i<xs.length->cs[o+i]? =xs[i]?):Rd w (some ⟨g,o,none⟩) xs:=λi v hv=>by
 rw [bf,hr.ld]
 have hi:=(cG.1 hv).1
 rw [h i hi];exact hv
theorem xE(c:Ce)(hc:eO c)(w:World):ah 303 #[dY c] w λe w'=>∃s:Sl,e=s/\aC w pM 3 w' s ((c8 c).map dA)/\Ext w w':=by
 apply K1.vc;intro w0 e0;have x0:=aL e0;have z0:=eG e0;refine (iP c hc w0).mono ?_;rintro e w1 ⟨rfl,x1⟩;have z1:=x1.size;refine ⟨_,_,_,_,_,_,_,_,_,_,_,_,_,_,_,_,_,_,rfl,x1.heap ab,λfx e20=> ?_⟩;have cW:=aL e20;have hr:Row fx w1 [aa,aa,aa,aa,aa,aa,aa,aa,aa,aa,aa,aa,aa,aa,aa,aa,aa,aa] 186:=Row.nw e20;refine ⟨⟨rfl,hr.wr bB⟩,λe=>by
  have:w1.heap.size=w.heap.size:=by simpa [bD] using e
  omega,λeK yY=> ?_⟩
 have yY:eK=aH fx (some ⟨w1.heap.size,0,none⟩) (B2 c):=yY;rw [hr.aH (vs:=B2 c) bB (D6 c),aQ bB] at yY;have pP:Row eK w1 (B2 c) 186:=hr.st yY;have dh:Ext w eK:=(x0.tr (x1.tr cW)).ae yY ab;have xd:=Ext.dr eK;have hr3:=pP.ext xd;have x21d:=dh.tr xd;have zz:w1.heap.size<eK.drew.heap.size:=hr3.lt;have dI:(dA ((c.1,c.2.1,c.2.2-1):Ce)++dA (c.1,c.2.1,c.2.2+1)).length=6:=rfl;have h1:One (dA ((c.1,c.2.1,c.2.2-1):Ce)++dA (c.1,c.2.1,c.2.2+1)):=by
  intro v hv;rcases di.1 hv with hv|hv
  ·exact AG _ v hv
  ·exact AG _ v hv
 have rd0:Rd eK.drew (some ⟨w1.heap.size,0,none⟩) (dA ((c.1-1,c.2.1,c.2.2):Ce)++dA (c.1+1,c.2.1,c.2.2)):=SW hr3 0 (λi hi=>by
  have hi:i<6:=hi;have:i=0\/i=1\/i=2\/i=3\/i=4\/i=5:=by omega
  rcases this with rfl|rfl|rfl|rfl|rfl|rfl<;>rfl)
 refine ⟨by decide,by decide,by decide,by decide,by decide,by decide,dA ((c.1,c.2.1,c.2.2-1):Ce)++dA (c.1,c.2.1,c.2.2+1),SW (o:=12) hr3 (λi hi=>by
  have hi:i<6:=hi;have:i=0\/i=1\/i=2\/i=3\/i=4\/i=5:=by omega
  rcases this with rfl|rfl|rfl|rfl|rfl|rfl<;>rfl),⟨λhf=>absurd hf (show ¬(2+2<=2) by decide),λ_=>⟨_,rfl,rd0⟩,λhg=>⟨growslice_fits hg (show (2+2)*24<=140737488355328 by decide),show ((2+2:Nat):Int)<=9223372036854775807 by decide⟩,rfl,h1⟩,λs23 fZ bw=> ?_⟩
 obtain ⟨ho,eE⟩:=adm (rows:=(c8 c).map dA) (xs:=dA ((c.1-1,c.2.1,c.2.2):Ce)++dA (c.1+1,c.2.1,c.2.2)) bw (show 2<2+2 by decide) rfl rd0 rfl (by intro r hr;obtain ⟨y,-,rfl⟩:=aZ.1 hr;rfl) rfl;exact ⟨eE.heap ab,s23,rfl,ho.low ab,x21d.tr eE⟩
theorem DB(V:Ce->Int):∀(l:List Ce)(m:Int),0<=m/\m<=7->0<=l.foldl (λm n=>if 0<=fX (V n) then min m (fX (V n)) else m) m/\l.foldl (λm n=>if 0<=fX (V n) then min m (fX (V n)) else m) m<=7
 | [],m,h=>h
 |n::l,m,h=>by
  rw [List.foldl_cons]
  refine DB V l _ ?_
  split<;>omega
theorem VZ(c:Ce):((B2 c).drop ((3:Int).toNat*3)).take 3=dA (BA c):=rfl
theorem Pb{v:Value}{V:Ce->Int}{w:World}(hV:Tl v V w)(c:Ce)(hc:eO c):
  ah 301 #[v,dY c] w λe w'=>e=Value.tuple #[.int .i64 (gJ V c).1,.bool (gJ V c).2]/\Ext w w':=by
 apply PA.vc;intro w0 e0;have x0:=aL e0;have z0:=eG e0;refine (iP c hc w0).mono ?_;rintro e w1 ⟨rfl,x1⟩;have z1:=x1.size;have oko:pn (BA c):=DC hc (by simp [pN]);refine ⟨_,_,_,_,_,_,_,_,_,_,_,_,_,_,_,_,_,_,rfl,x1.heap ab,by decide,_,_,_,VZ c,ee ((hV.ext (x0.tr x1)).at oko) ?_⟩;rintro e eh ⟨rfl,dz⟩;have z23:=dz.size;have amU:=x0.tr (x1.tr dz);refine ⟨_,rfl,dz.heap ab,(nT (V (BA c)) eh).mono ?_⟩;rintro e cU ⟨rfl,rfl⟩;unfold gJ;refine ⟨_,rfl,rfl,Br.mk (λh=> ?_) (λh=>(xE c hc cU).mono ?_)⟩
 ·rw [if_pos h];exact ⟨rfl,amU⟩
 rintro e eH ⟨N9,rfl,ho,fE⟩;have z27:=fE.size;rw [if_neg (by rw [h];decide)];have gS:=ho.rd (show 0<3 by decide);have hn:N9.n=4:=gS.n;refine ⟨N9,rfl,fE.heap ab,λn x m wr=>∃j:Nat,x=j/\j+n=4/\m=((c8 c).take j).foldl (λm n=>if 0<=fX (V n) then min m (fX (V n)) else m) 7/\Ext eH wr,⟨4,rfl,0,rfl,rfl,rfl,Ext.cE _⟩,?_⟩;rintro n us x m wr ⟨j,rfl,hj,rfl,xr⟩;have zr:=xr.size;have xr0:=amU.tr (fE.tr xr);apply Br.mk<;>intro hb
 ·replace hb:=mh hb;obtain ⟨y,hy⟩:=bI (l:=c8 c) (i:=j) (by have:(c8 c).length=4:=rfl;omega);have oky:=(KI hc (bg hy)).1;have hy':((c8 c).map dA)[j]? =some (dA y):=by rw [aU,hy];rfl
  have se:(c8 c).take (j+1)=(c8 c).take j++ [y]:=by rw [dD,hy];rfl
  have wk:=mz (j:=j);refine ⟨gS.g9 (i:=(j:Int)) aF ab hb,_,_,_,(gS.ext xr).bZ hy',λjX e39 jr QZ=> ?_⟩;have mc:Ext wr jr:=(aL e39).ae QZ (aB _);have z40:=BI e39 QZ;refine ee ((hV.ext (xr0.tr mc)).at oky) ?_;rintro e gO ⟨rfl,kI⟩;have z41:=kI.size;refine ⟨_,rfl,kI.heap ab,kI.heap ab,(DD (V y) gO).mono ?_⟩;rintro e jd ⟨rfl,rfl⟩;refine ⟨_,rfl,rfl,rfl,Br.mk (λh2=> ?_) (λh2=> ?_)⟩
  ·have h2:0<=fX (V y):=by simpa using h2
   refine ⟨n-1,by omega,rfl,j+1,wk,by omega,?_,xr.tr (mc.tr kI)⟩;rw [se,List.foldl_append,List.foldl_cons,List.foldl_nil,if_pos h2];split<;>omega
  ·have h2:¬0<=fX (V y):=by simpa using h2
   refine ⟨n-1,by omega,rfl,j+1,wk,by omega,?_,xr.tr (mc.tr kI)⟩;rw [se,List.foldl_append,List.foldl_cons,List.foldl_nil,if_neg h2]
 ·replace hb:=my hb;have ht:(c8 c).take j=c8 c:=fC (by have:(c8 c).length=4:=rfl;omega);rw [ht];have hle:(c8 c).foldl (λm n=>if 0<=fX (V n) then min m (fX (V n)) else m) 7=IF V (c8 c):=rfl;have oq:=DB V (c8 c) 7 aF;rw [hle] at oq ⊢;apply Br.mk<;>intro h2
  ·rw [if_pos (by simpa using h2)];exact ⟨rfl,xr0⟩
  ·rw [if_neg (by simpa using h2),wI];exact ⟨rfl,xr0⟩
theorem acd(x:Go.fR.Cg):One (lP x):=by intro v hv;simp at hv;rcases hv with rfl|rfl|rfl|rfl<;>rfl
theorem IE{w:World}{g:Nat}{B:Nat}(x:Go.fR.Cg)(hr:Row w g (lP x) kc)(hB:B<=g):aC B kc 4 w ⟨some ⟨g,0,none⟩,1,1⟩ ([x].map lP):=aC.jg hB hr bB (aB _) rfl bB
theorem Pa{v:Value}{V:Ce->Int}{w:World}(hV:Tl v V w)(c:Ce)(hc:eO c)(level:Int)(hl:0<=level/\level<=7):
  ah 279 #[v,dY c,level] w λe w'=>∃s:Sl,e=s/\aC w kc 4 w' s ((mB V c level).map lP)/\Ext w w':=by
 apply KH.vc;intro w0 e0;have x0:=aL e0;have z0:=eG e0;have r0:Row w0 w (dA c) pM:=Row.nw e0;refine (Pb (hV.ext x0) c hc).mono ?_;rintro e w1 ⟨rfl,x1⟩;have z1:=x1.size;have jT:=x0.tr x1;have apw:inI (gJ V c).1:=by
  have:=DB V (c8 c) 7 aF;have hle:(c8 c).foldl (λm n=>if 0<=fX (V n) then min m (fX (V n)) else m) 7=IF V (c8 c):=rfl;rw [hle] at this;unfold gJ inI;split
  ·simp
  ·split
   ·simp
   ·simp only;omega
 have caseA:0<level->(gJ V c).2=false->mB V c level=[(c,0)]:=λh1 h2=>by unfold mB;rw [if_pos ⟨h1,h2⟩]
 have caseB:0<level->¬(gJ V c).2=false->(gJ V c).1≠level->mB V c level=[(c,jP (gJ V c).1)]:=λh1 h2 h3=>by unfold mB;rw [if_neg (λq=>h2 q.2),if_pos ⟨h1,h3⟩]
 have armB:0<level->¬(gJ V c).2=false->(gJ V c).1≠level->ah 302 #[.int .i64 (gJ V c).1] w1.drew (λe w6=>∃(x7:Int),e=x7/\w6.heap[w.heap.size]? =w1.drew.heap[w.heap.size]?/\
   ag w6 (some ⟨w.heap.size,0,none⟩) 0 [c.1,c.2.1,c.2.2]/\∀w8:World,w8=w6.alloc (.cells #[c.1,c.2.1,c.2.2,x7] kc)->
   (λe w'=>∃s:Sl,e=Ending.returned s/\aC w kc 4 w' s ((mB V c level).map lP)/\Ext w w') (.returned (.slice (some ⟨w6.heap.size,0,none⟩) 1 1)) w8):=by
  intro h1 h2 h3;refine (kO (gJ V c).1 w1.drew apw).mono ?_;rintro e w6 ⟨rfl,rfl⟩;refine ⟨_,rfl,rfl,Lo.wv (r0.ext (x1.tr (Ext.dr w1))),λw8 e8=> ?_⟩;have hr:Row w8 w1.drew.heap.size (lP (c,jP (gJ V c).1)) kc:=Row.nw e8;have zd:=lG w1;refine ⟨⟨some ⟨w1.drew.heap.size,0,none⟩,1,1⟩,rfl,?_,(jT.tr (Ext.dr w1)).bn e8⟩;rw [caseB h1 h2 h3];exact IE _ hr ab
 refine ⟨_,_,rfl,x1.heap ab,λwj=>wj=w1/\mB V c level=(if V (eT c)=0 then [(eT c,jP 1)] else if qR (V (eT c))=true\/7<=level then [] else ((c8 c).filter λn=>decide (V n=0)).map λn=>(n,jP (level+1))),?_,?_⟩
 ·have fine:(¬0<level\/(¬(gJ V c).2=false/\(gJ V c).1=level))->mB V c level=(if V (eT c)=0 then [(eT c,jP 1)] else if qR (V (eT c))=true\/7<=level then [] else ((c8 c).filter λn=>decide (V n=0)).map λn=>(n,jP (level+1))):=λh=>by unfold mB;rw [if_neg (λq=>h.elim (λh=>h q.1) λh=>h.1 q.2),if_neg (λq=>h.elim (λh=>h q.1) λh=>q.2 h.2)]
  refine Br.mk (λh1=>Br.mk (λh2=>λw5 e5=> ?_) (λh2=>Br.mk (λ_=>Br.mk (λh3=> ?_) (λh3=>⟨rfl,rfl,?_⟩)) (λh3=> ?_))) (λh1=>Br.mk (λh3=> ?_) (λh3=>⟨rfl,rfl,?_⟩))
  ·have h1:0<level:=by simpa using h1
   have hr:Row w5 w1 (lP (c,0)) kc:=Row.nw e5;refine ⟨⟨some ⟨w1.heap.size,0,none⟩,1,1⟩,rfl,?_,jT.bn e5⟩;rw [caseA h1 (by simpa using h2)];exact IE _ hr ab
  ·exact armB (by simpa using h1) (by simpa using h2) (by simpa using h3)
  ·exact fine (.inr ⟨by simpa using h2,by simpa using h3⟩)
  ·rw [h1] at h3;cases h3
  ·rw [h1] at h3;cases h3
  ·exact fine (.inl (by simpa using h1))
 rintro us bJ ⟨rfl,hW⟩;rw [hW];refine (iP c hc bJ).mono ?_;rintro e bP ⟨rfl,bX⟩;have Wb:=bX.size;have okl:pn (eT c):=DC hc (by simp [pN]);refine ⟨_,_,_,_,_,_,_,_,_,_,_,_,_,_,_,_,_,_,rfl,bX.heap ab,by decide,_,_,_,Pc c,λjW ZY ie WW=> ?_⟩;have fB:Ext bP ie:=(aL ZY).ae WW (aB _);have z37:=BI ZY WW;have rl:Row ie bP (dA (eT c)) pM:=by rw [WW];exact Row.set (by rw [ZY];exact Row.new bP [_,_,_] _) _
 have yP:=jT.tr (bX.tr fB);refine ⟨λwj=>Ext ie wj/\¬V (eT c)=0/\¬(qR (V (eT c))=true\/7<=level),ee ((hV.ext yP).at okl) ?_,?_⟩
 ·rintro e jX ⟨rfl,ou⟩;have z39:=ou.size;refine ⟨_,rfl,ou.heap ab,ou.heap ab,Br.mk (λh=>(kO 1 jX.drew (by unfold inI;omega)).mono ?_) (λh=>(nT (V (eT c)) jX).mono ?_)⟩
  ·rintro e gO ⟨rfl,rfl⟩;have h:V (eT c)=0:=by simpa using h
   refine ⟨_,rfl,rfl,rfl,Lo.wv (rl.ext (ou.tr (Ext.dr jX))),λjd e43=> ?_⟩;have hr:Row jd jX.drew.heap.size (lP (eT c,jP 1)) kc:=Row.nw e43;have zd:=lG jX;refine ⟨⟨some ⟨jX.drew.heap.size,0,none⟩,1,1⟩,rfl,?_,(yP.tr (ou.tr (Ext.dr jX))).bn e43⟩;rw [if_pos h];exact IE _ hr ab
  ·rintro e ko ⟨rfl,rfl⟩;have h:¬V (eT c)=0:=by simpa using h
   rw [if_neg h];refine ⟨_,rfl,rfl,rfl,Br.mk (λh2=> ?_) (λh2=>Br.mk (λh3=> ?_) (λh3=>⟨rfl,rfl,ou,h,?_⟩))⟩
   ·rw [if_pos (.inl h2)];exact ⟨⟨none,0,0⟩,rfl,aC.nil,yP.tr ou⟩
   ·rw [if_pos (.inr (by simpa using h3))];exact ⟨⟨none,0,0⟩,rfl,aC.nil,yP.tr ou⟩
   ·rintro (q|q)
    ·rw [q] at h2;cases h2
    ·simp at h3;omega
 rintro us lg ⟨ph,h1,h2⟩;have z47:=ph.size;rw [if_neg h1,if_neg h2];have apx:=yP.tr ph;refine (xE c hc lg).mono ?_;rintro e fY ⟨s49,rfl,apy,sN⟩;have z48:=sN.size;have GK:=apx.tr sN;have gS:=apy.rd (show 0<3 by decide);have axe:s49.n=4:=gS.n;refine ⟨s49,rfl,sN.heap ab,sN.heap ab,λn x C1 wr=>∃j:Nat,x=j/\j+n=4/\aC fY kc 4 wr C1 (((((c8 c).take j).filter λn=>decide (V n=0)).map λn=>((n,jP (level+1)):Go.fR.Cg)).map lP)/\Ext fY wr,⟨4,rfl,rfl,0,rfl,rfl,aC.nil,Ext.cE _⟩,?_⟩;rintro n us x C1 wr ⟨j,rfl,hj,ho,xr⟩;have zr:=xr.size;have xr0:=GK.tr xr;apply Br.mk<;>intro hb
 ·replace hb:=mh hb;obtain ⟨y,hy⟩:=bI (l:=c8 c) (i:=j) (by have:(c8 c).length=4:=rfl;omega);have oky:=(KI hc (bg hy)).1;have hy':((c8 c).map dA)[j]? =some (dA y):=by rw [aU,hy];rfl
  have se:(c8 c).take (j+1)=(c8 c).take j++ [y]:=by rw [dD,hy];rfl
  have wk:=mz (j:=j);refine ⟨gS.g9 (i:=(j:Int)) aF ab hb,_,_,_,(gS.ext xr).bZ hy',λmQ e60 oD e61=> ?_⟩;have ov:Ext wr oD:=(aL e60).ae e61 (aB _);have z61:=BI e60 e61;have ry:Row oD wr (dA y) pM:=by rw [e61];exact Row.set (by rw [e60];exact Row.new wr [_,_,_] _) _
  refine ee ((hV.ext (xr0.tr ov)).at oky) ?_;rintro e il ⟨rfl,nj⟩;have z62:=nj.size;refine ⟨_,rfl,nj.heap ab,nj.heap ab,nj.heap ab,Br.mk (λh3=> ?_) (λh3=> ?_)⟩
  ·have wl:aj (level+1)=level+1:=wI;rw [wl];refine (kO (level+1) il.drew (by unfold inI;omega)).mono ?_;rintro e sO ⟨rfl,rfl⟩;have xd:=ov.tr (nj.tr (Ext.dr il));have zd:=lG il;refine ⟨_,rfl,rfl,rfl,rfl,Lo.wv (ry.ext (nj.tr (Ext.dr il))),λoK e66=> ?_⟩;subst e66;have ho':=ho.ext xd;have axf:C1.n<=4:=by have h1:=(ho.rd (show 0<4 by decide)).n;have h2:=List.length_filter_le (λn=>decide (V n=0)) ((c8 c).take j);rw [aN,aN] at h1;rw [du] at h2;omega
   obtain ⟨Cq,hres8⟩:=ho'.iO (bytes:=32) (news:=lP (y,jP (level+1))) (.cells #[y.1,y.2.1,y.2.2,(jP (level+1))] kc) ab rfl (acd _) ab ab;refine ⟨Cq,λs67 sJ apC=> ?_⟩;obtain ⟨f8,xc,hn8,x8,Fc,-⟩:=hres8 s67 sJ apC;have xa:=Ext.al il.drew (.cells #[y.1,y.2.1,y.2.2,(jP (level+1))] kc);have ag4:∀b,C1.aX=some b->fY.heap.size<=b/\b<wr.heap.size:=λb hb=>ho.own.lt hb
   have kp:∀j,(j<fY.heap.size\/wr.heap.size<=j)->j<il.drew.heap.size->sJ.heap[j]? =(il.drew.alloc (.cells #[y.1,y.2.1,y.2.2,(jP (level+1))] kc)).heap[j]? :=λj hj hj2=>by rw [Fc j (λhb=>by have:=ag4 j hb;omega) hj2,xa.heap hj2]
   refine ⟨kp _ (.inl ab) ab,kp _ (.inl ab) ab,kp _ (.inr ab) ab,f8,n-1,by omega,rfl,rfl,j+1,wk,by omega,?_,(Below.trans (xr.tr xd) x8:Below fY fY sJ)⟩;rw [se,oY,bU,bU,List.filter_cons_of_pos (by simpa using h3)];exact xc
  ·refine ⟨n-1,by omega,rfl,rfl,j+1,wk,by omega,?_,xr.tr (ov.tr nj)⟩;rw [se,oY,bU,bU,List.filter_cons_of_neg (by simpa using h3)];simpa using ho.ext (ov.tr nj)
 ·replace hb:=my hb;have ht:(c8 c).take j=c8 c:=fC (by have:(c8 c).length=4:=rfl;omega);rw [ht] at ho;exact ⟨C1,rfl,ho.low ab,xr0⟩
theorem XF{b:Int}(h:qR b=true):0<=fX b/\fX b<=7:=by unfold fX;rw [h,if_pos rfl];unfold qR at h;simp only [fm,cQ] at h;omega
theorem Pd{v:Value}{V:Ce->Int}{w:World}(hV:Tl v V w)(c:Ce)(hc:eO c):
  ah 242 #[v,dY c] w λe w'=>∃s:Sl,e=s/\aC w kc 4 w' s ((iZ V c).map lP)/\Ext w w':=by
 apply TE.vc;intro w0 e0;have x0:=aL e0;have z0:=eG e0;have r0:Row w0 w (dA c) pM:=Row.nw e0;refine ee ((hV.ext x0).at hc.ok) ?_;rintro e w1 ⟨rfl,x1⟩;have z1:=x1.size;have jT:=x0.tr x1;refine ⟨_,rfl,x1.heap ab,(vF (V c) w1).mono ?_⟩;rintro e w3 ⟨rfl,rfl⟩;unfold iZ;refine ⟨_,rfl,rfl,Br.mk (λh=> ?_) (λh=>(nT (V c) w3).mono ?_)⟩
 ·rw [if_pos (by simpa using h)];refine (TG (hV.ext jT) c hc).mono ?_;rintro e w5 ⟨s,rfl,ho,x5⟩;exact ⟨s,rfl,x5.heap ab,s,rfl,ho.low ab,jT.tr x5⟩
 ·rintro e w7 ⟨rfl,rfl⟩;rw [if_neg (by simpa using h)];refine ⟨_,rfl,rfl,Br.mk (λh2=>(DD (V c) w7.drew).mono ?_) (λh2=> ?_)⟩
  ·rintro e w9 ⟨rfl,rfl⟩;rw [h2,if_pos rfl];have xd:=jT.tr (Ext.dr w7);have zd:=lG w7;refine ⟨_,rfl,rfl,Lo.wv (r0.ext (x1.tr (Ext.dr w7))),(Pa (hV.ext xd) c hc (fX (V c)) (XF h2)).mono ?_⟩;rintro e aY ⟨s,rfl,ho,bC⟩;exact ⟨s,rfl,bC.heap ab,s,rfl,ho.low ab,xd.tr bC⟩
  ·rw [h2,if_neg aF];exact ⟨⟨none,0,0⟩,rfl,aC.nil,jT⟩
open Go.gg
abbrev zL:TypeId:=130
structure Sm where
 ar:Int
 cap:Int
 T:Tb
 ch:List Go.fR.Cg
 q:QS
 dH:Int
 now:Int
 ki:List Ce
abbrev smC(g o:Nat)(M:Sm)(occ:Value)(sd:Sl):LV:=[g,o,.int .i64 M.dH,.int .i64 M.now,occ,.slice sd.a sd.n sd.c]
def SF(F:Nat->Prop)(w:World)(s o t:Nat)(M:Sm)(occ:Value):Prop:=
 ∃g m qs Fw sd,Row w s (smC g o M occ sd) zL/\Q.vk w g m qs M.q/\Ji M.q/\WF Fw w o t M.ar M.cap M.T M.ch/\aC 0 pM 3 w sd (M.ki.map dA)/\(∀i,Q.gW g m qs i->¬Fw i)/\F=λi=>i=s\/Q.gW g m qs i\/Fw i\/sd.aX=some i
section
variable {F F':Nat->Prop} {w w':World} {s o t:Nat} {M M':Sm} {occ:Value}
theorem SF.lt(h:SF F w s o t M occ){i:Nat}(hi:F i):i<w:=by
 obtain ⟨g,m,qs,Fw,sd,h1,h2,-,h3,h4,-,rfl⟩:=h;rcases hi with rfl|hi|hi|hi
 ·exact h1.lt
 ·exact h2.lt i hi
 ·exact h3.lt hi
 ·exact (h4.own.lt hi).2
theorem SF.same(h:SF F w s o t M occ)(hk:∀i,F i->w'.heap[i]? =w.heap[i]?):SF F w' s o t M occ:=by obtain ⟨g,m,qs,Fw,sd,h1,h2,hq,h3,h4,h5,rfl⟩:=h;obtain ⟨kvs,m1,m2⟩:=h2.map;exact ⟨g,m,qs,Fw,sd,h1.same (hk _ (.inl rfl)),⟨h2.row.same (hk _ (.inr (.inl (.inl rfl)))),aC.c5 h2.own λb hb=>hk b (.inr (.inl (.inr (.inr hb)))),kvs,m1.same (hk _ (.inr (.inl (.inr (.inl rfl))))),m2⟩,hq,h3.same λi hi=>hk i (.inr (.inr (.inl hi))),aC.c5 h4 λb hb=>hk b (.inr (.inr (.inr hb))),h5,rfl⟩
theorem SF.ext(h:SF F w s o t M occ)(x:Ext w w'):SF F w' s o t M occ:=h.same λ_ hi=>x.heap (h.lt hi)
theorem SF.dO(h:SF F w s o t M occ){j:Nat}{cs:LV}{τ:TypeId}(hr:Row w j cs τ)(h1:Dq τ)(h2:τ≠qL)(h3:τ≠kc)(h4:τ≠zL)(h5:τ≠Q.gK)(h6:τ≠Q.cC)(hj:∀(g:Nat)(sd:Sl),Row w s (smC g o M occ sd) zL->sd.aX≠some j):¬F j:=by
 obtain ⟨g,m,qs,Fw,sd,r1,r2,-,r3,r4,-,rfl⟩:=h;rintro (hi|hi|hi|hi)
 ·exact hr.ne r1 h4 hi
 ·exact r2.dO hr h5 h6 hi
 ·exact r3.dO hr h1 h2 h3 hi
 ·exact hj g sd r1 hi
theorem SF.jG(h:SF F w s o t M occ){j:Nat}{cs:LV}{τ:TypeId}(hr:Row w j cs τ)(h1:Dq τ)(h2:τ≠qL)(h3:τ≠kc)(h4:τ≠zL)(h5:τ≠Q.gK)(h6:τ≠Q.cC)(h7:τ≠pM):¬F j:=by
 obtain ⟨g,m,qs,Fw,sd,r1,r2,-,r3,r4,-,rfl⟩:=h;rintro (hi|hi|hi|hi)
 ·exact hr.ne r1 h4 hi
 ·exact r2.dO hr h5 h6 hi
 ·exact r3.dO hr h1 h2 h3 hi
 ·obtain ⟨cs',hr'⟩:=bc r4 aF hi;exact hr.ne hr' h7 rfl
abbrev lR(F:Nat->Prop)(w:World)(s o t:Nat)(M:Sm)(occ:Value)(w':World):Prop:=∃F',SF F' w' s o t M occ/\aM F F' w w'
theorem SF.world(h:SF F w s o t M occ):∃Fw,WF Fw w o t M.ar M.cap M.T M.ch/\(∀i,Fw i->F i)/\∀{w':World} {T':Tb} {ch':List Go.fR.Cg},FV Fw w o t M.ar M.cap T' ch' w'->lR F w s o t {M with T:=T',ch:=ch'} occ w':=by
 obtain ⟨g,m,qs,Fw,sd,h1,h2,hq,h3,h4,h5,rfl⟩:=h;refine ⟨Fw,h3,λi hi=> .inr (.inr (.inl hi)),?_⟩;rintro w' T' ch' ⟨F',h',ht⟩;have n1:=h3.dO h1 aF aF aF;have n2:∀i,Q.gW g m qs i->¬Fw i:=h5;have n4:∀b,sd.aX=some b->¬Fw b:=λb hb=>by obtain ⟨cs',hr'⟩:=bc h4 aF hb;exact h3.dO hr' aF aF aF
 refine ⟨_,⟨g,m,qs,F',sd,ht.mod.row h1 n1,h2.c5 ht.mod n2,hq,h',ht.mod.fk h4 n4,?_,rfl⟩,ht.mod.mono λi _ hi=> .inr (.inr (.inl hi)),λi hi=> ?_⟩
 ·exact λi hi hf=>ht.apart (G:=Q.gW g m qs) (λi hi hg=>h5 i hg hi) (λi hi=>h2.lt i hi) i hf hi
 ·rcases hi with hi|hi|hi|hi
  ·exact .inl (.inl hi)
  ·exact .inl (.inr (.inl hi))
  ·exact (ht.sub i hi).imp (λh=> .inr (.inr (.inl h))) id
  ·exact .inl (.inr (.inr (.inr hi)))
theorem SF.queue(h:SF F w s o t M occ):∃g m qs,Q.vk w g m qs M.q/\Ji M.q/\(∃sd,Row w s (smC g o M occ sd) zL)/\(∀i,Q.gW g m qs i->F i)/\∀{w':World} {qs':Sl} {q':QS},Q.vk w' g m qs' q'->Ji q'->aM (Q.gW g m qs) (Q.gW g m qs') w w'->lR F w s o t {M with q:=q'} occ w':=by
 obtain ⟨g,m,qs,Fw,sd,h1,h2,hq,h3,h4,h5,rfl⟩:=h;refine ⟨g,m,qs,h2,hq,⟨sd,h1⟩,λi hi=> .inr (.inl hi),?_⟩;rintro w' qs' q' h' hq' ht;have n1:=h2.dO h1 aF aF;have n3:∀i,Fw i->¬Q.gW g m qs i:=λi hi hf=>h5 i hf hi
 have n4:=h2.YR h4 aF aF aF;refine ⟨_,⟨g,m,qs',Fw,sd,ht.mod.row h1 n1,h',hq',h3.c5 ht.mod n3,ht.mod.fk h4 n4,?_,rfl⟩,ht.mod.mono λi _ hi=> .inr (.inl hi),λi hi=> ?_⟩
 ·exact λi hi hf=>ht.apart (G:=Fw) (λi hi hg=>h5 i hi hg) (λi hi=>h3.lt hi) i hi hf
 ·rcases hi with hi|hi|hi|hi
  ·exact .inl (.inl hi)
  ·exact (ht.sub i hi).imp (λh=> .inr (.inl h)) id
  ·exact .inl (.inr (.inr (.inl hi)))
  ·exact .inl (.inr (.inr (.inr hi)))
theorem SF.row(h:SF F w s o t M occ):∃g sd,Row w s (smC g o M occ sd) zL/\aC 0 pM 3 w sd (M.ki.map dA)/\F s/\(∀b,sd.aX=some b->F b)/\∀{w':World} {M':Sm} {occ':Value} {sd':Sl},M'.ar=M.ar->M'.cap=M.cap->M'.T=M.T->M'.ch=M.ch->M'.q=M.q->Mod (λi=>i=s\/sd.aX=some i) w w'->Row w' s (smC g o M' occ' sd') zL->aC 0 pM 3 w' sd' (M'.ki.map dA)->(∀b,sd'.aX=some b->sd.aX=some b\/w.heap.size<=b)->lR F w s o t M' occ' w':=by
 obtain ⟨g,m,qs,Fw,sd,h1,h2,hq,h3,h4,h5,rfl⟩:=h;refine ⟨g,sd,h1,h4,.inl rfl,λb hb=> .inr (.inr (.inr hb)),?_⟩;rintro w' M' occ' sd' e1 e2 e3 e4 e5 hm hr hd eL;have q1:=h2.dO h1 aF aF;have q2:=h2.YR h4 aF aF aF;have r1:=h3.dO h1 aF aF aF;have r2:∀b,sd.aX=some b->¬Fw b:=λb hb=>by obtain ⟨cs',hr'⟩:=bc h4 aF hb;exact h3.dO hr' aF aF aF
 refine ⟨_,⟨g,m,qs,Fw,sd',hr,by rw [e5];exact h2.c5 hm λi hi hf=>hf.elim (λe=>q1 (e▸hi)) (λe=>q2 _ e hi),by rw [e5];exact hq,by rw [e1,e2,e3,e4];exact h3.c5 hm λi hi hf=>hf.elim (λe=>r1 (e▸hi)) (λe=>r2 _ e hi),hd,h5,rfl⟩,hm.mono λi _ hi=>hi.elim .inl (λe=> .inr (.inr (.inr e))),λi hi=> ?_⟩;rcases hi with hi|hi|hi|hi
 ·exact .inl (.inl hi)
 ·exact .inl (.inr (.inl hi))
 ·exact .inl (.inr (.inr (.inl hi)))
 ·exact (eL i hi).imp (λh=> .inr (.inr (.inr h))) id
end
section
variable {P P':Nat->Prop} {w w' v v':World} {s s1 s2 s3 s4:Sl} {T:Tb} {ch:List Cg} {ar cap:Int}
end
def vj(M:Sm)(c:Ce)(b:Int):Sm:={M with T:=(M.T.1,(gI M.T.2 c b).1),ch:=Xp M.T.2 M.ch c b,q:=if (gI M.T.2 c b).2=0 then Ej (gy (gI M.T.2 c b).1) M.now M.q c else M.q}
def dE(M:Sm)(x:Go.fR.Cg):Sm:=if gy M.T.2 x.1=x.2 then M else vj M x.1 x.2
def El(O:Ce->Bool)(M:Sm)(c:Ce):Bool:=decide (gy M.T.2 c=3) &&(!(iZ (gy M.T.2) c).isEmpty && O (eT c))
def px(O:Ce->Bool)(M:Sm)(c:Ce):Sm:=
 if Dr M.T.2 c=false then {M with q:=(oH M.q c (M.now+1)).1}
 else if El O M c=true then dE {M with ki:=M.ki++ [eT c]} (c,0)
 else (iZ (gy M.T.2) c).foldl dE M
def re(M:Sm):Int:=min (M.now+1) 1099511627776
def Ae(M:Sm):Sm:={M with now:=re M,q:=(Al M.q (re M) M.dH).1}
def sm(M:Sm):List Ce:=(Al M.q (re M) M.dH).2
def Ly(O:Ce->Bool)(M:Sm):Sm:=(sm M).foldl (px O) (Ae M)
section
variable {F F':Nat->Prop} {w w':World} {s o t:Nat} {M M':Sm} {occ:Value}
theorem SF.tl(h:SF F w s o t M occ):Tl (.func (.func 83) #[t] #[]) (gy M.T.2) w:=by obtain ⟨Fw,hW,-,-⟩:=h.world;exact ⟨Fw,λi hi=>hW.lt hi,λw' hk c hc=>hW.ajF hk c hc⟩
theorem ajG:Ji ⟨4096,0,[]⟩:=⟨by decide,by decide,List.Pairwise.nil,List.nodup_nil⟩
theorem Bu{Fw:Nat->Prop}{ar cap:Int}{T:Tb}{ch:List Go.fR.Cg}(h:WF Fw w o t ar cap T ch)(dH:Int):ah 40 #[o,dH] w λe w'=>∃s F,e=Value.pointer (some ⟨s,0,none⟩)/\SF F w' s o t ⟨ar,cap,T,ch,⟨4096,0,[]⟩,min (max dH 1) 64,0,[]⟩ (.func (.func 98) #[] #[])/\Ext w w'/\(∀i,F i->Fw i\/w.heap.size<=i):=by
 apply acr.vc;refine (Q.Eh 4096 w).mono ?_;rintro e w0 ⟨g,m,rfl,hq,x0,hg,hm⟩;refine ⟨_,rfl,λw2 e2=> ?_⟩;have eb:(if 64<(if 1>dH then 1 else dH) then 64 else (if 1>dH then 1 else dH))=min (max dH 1) 64:=by split<;>split<;>omega
 rw [eb] at e2;have x2:=aL e2;have hr:Row w2 w0 (smC g o ⟨ar,cap,T,ch,⟨4096,0,[]⟩,min (max dH 1) 64,0,[]⟩ (.func (.func 98) #[] #[]) ⟨none,0,0⟩) zL:=Row.nw e2;refine ⟨w0.heap.size,_,rfl,⟨g,m,⟨none,0,0⟩,Fw,⟨none,0,0⟩,hr,hq.ext x2,ajG,h.ext (x0.tr x2),aC.nil,?_,rfl⟩,x0.tr x2,λi hi=> ?_⟩
 ·rintro i (hi|hi|hi) hf
  ·have:=h.lt hf;omega
  ·have:=h.lt hf;omega
  ·cases hi
 ·have:=x0.size;rcases hi with hi|(hi|hi|hi)|hi|hi
  ·exact .inr ab
  ·exact .inr ab
  ·exact .inr ab
  ·cases hi
  ·exact .inl hi
  ·cases hi
theorem fO(h:SF F w s o t M occ):ah 18 #[s] w λe w'=>e=Value.pointer (some ⟨o,0,none⟩)/\w'=w:=by obtain ⟨g,sd,h1,-⟩:=h.row;apply Gf.vc;exact ⟨_,h1.at 1 rfl,rfl,rfl⟩
theorem vh(h:SF F w s o t M occ):ah 82 #[s] w λe w'=>∃s':Sl,e=s'/\aC w Q.cC 4 w' s' (M.q.l.map fI)/\Ext w w':=by obtain ⟨g,m,qs,hq,bt,⟨sd,hr⟩,-⟩:=h.queue;apply BW.vc;refine ⟨_,hr.at 0 rfl,(Q.Yr hq bt).mono ?_⟩;rintro e w' ⟨s',rfl,ho,x⟩;exact ⟨s',rfl,s',rfl,ho,x⟩
theorem xV(h:SF F w s o t M occ)(f:Fn)(a b:Array Value):ah 118 #[s,.func f a b] w λe w'=>e=sY/\lR F w s o t M (.func f a b) w'/\Mod (λi=>i=s) w w':=by
 obtain ⟨g,sd,hr,ho,-,-,bw⟩:=h.row;apply DR.vc;obtain ⟨p1,p2⟩:=hr.je (j:=4) (v:=.func f a b) (by simp [smC]) rfl;refine ⟨⟨rfl,p1⟩,λw0 e0=>⟨rfl,?_⟩⟩;obtain ⟨q1,q2⟩:=p2 w0 e0;have S9:∀b,sd.aX=some b->b≠s:=λb hb=>by obtain ⟨cs',hr'⟩:=bc ho aF hb;exact hr'.ne hr aF
 exact ⟨bw (M':=M) rfl rfl rfl rfl rfl (q2.mono λi _ hi=> .inl hi) q1 (q2.fk ho S9) (λb hb=> .inl hb),q2⟩
theorem LF(b:Int):0<=jk b/\jk b<=5:=by
 unfold jk;split
 ·decide
 ·split<;>decide
theorem Ys{V:Ce->Int}{c:Ce}(hc:eO c):∀n ∈ rf V c,pn n:=λn hn=>by
 unfold rf at hn
 rcases cB.1 (List.mem_filter.1 hn).1 with rfl|h
 ·exact hc.ok
 ·exact DC hc h
theorem HA(V:Ce->Int)(c:Ce):(rf V c).length<=7:=List.length_filter_le _ _
abbrev Ei(V:Ce->Int)(now:Int)(q:QS)(n:Ce):QS:=(oH q n (now+jk (V n))).1
theorem v8(V:Ce->Int)(now:Int):∀(l:List Ce)(q:QS),q.lost<=(l.foldl (Ei V now) q).lost/\(l.foldl (Ei V now) q).lost<=q.lost+l.length
 | [],q=>⟨Int.le_refl _,by simp⟩
 |n::l,q=>by
  have h1:=v8 V now l (Ei V now q n)
  have h2:=HB q n (now+jk (V n))
  have h3:(Ei V now q n).lost=(oH q n (now+jk (V n))).1.lost:=rfl
  simp only [List.foldl_cons,dt]
  omega
set_option maxRecDepth 100000 in
theorem UC(h:SF F w s o t M occ)(c:Ce)(hc:eO c)(hl:0<=M.q.lost/\M.q.lost<=900000)(aed:0<=M.now/\M.now<=1099511627776):
  ah 162 #[s,dY c] w λe w'=>e=sY/\lR F w s o t {M with q:=Ej (gy M.T.2) M.now M.q c} occ w':=by
 apply IU.vc;intro w0 e0;have x0:=aL e0;have z0:=eG e0;have h0:=h.ext x0;obtain ⟨g,sd,hr,-,hFs,-⟩:=h0.row;obtain ⟨Fw,hW,-,-⟩:=h0.world;refine ⟨_,hr.at 1 rfl,(fl hW).mono ?_⟩;rintro e w2 ⟨rfl,hw⟩;subst hw;refine ⟨_,rfl,rfl,(P4 h0.tl c hc).mono ?_⟩;rintro e w4 ⟨s5,rfl,ho,x4⟩;have z4:=x4.size;have gS:=ho.rd (show 0<3 by decide);have hn5:=gS.n;have h4:=h0.ext x4;have hL:=HA (gy M.T.2) c;have bt:=Ys (V:=gy M.T.2) hc;unfold Ej;generalize hLe:rf (gy M.T.2) c=L at*;rw [aN] at hn5;refine ⟨s5,rfl,x4.heap ab,λn x bO=>∃(j:Nat)(F':Nat->Prop),x=j/\j+n=L.length/\SF F' bO s o t {M with q:=(L.take j).foldl (Ei (gy M.T.2) M.now) M.q} occ/\aM F F' w4 bO,⟨L.length,rfl,0,F,rfl,by omega,h4,aM.refl _ _⟩,?_⟩;rintro n us x bO ⟨j,F',rfl,hj,hS,hT⟩;have QX:=hT.mod.size;have hF:∀i,F i->i<w.heap.size:=λi hi=>h.lt hi
 have hrd10:RdK bO s5 3 (L.map dA):=hT.mod.rdK aF gS λ_ b hb hf=>by have:=(ho.own.lt hb).1;have:=hF b hf;omega
 apply Br.mk<;>intro hb
 ·replace hb:=mh hb;obtain ⟨y,hy⟩:=bI (l:=L) (i:=j) ab;have oky:=bt y (bg hy);have hy':(L.map dA)[j]? =some (dA y):=by rw [aU,hy];rfl
  have se:L.take (j+1)=L.take j++ [y]:=by rw [dD,hy];rfl
  have hlost:=v8 (gy M.T.2) M.now (L.take j) M.q;have aya:(L.take j).length<=7:=by rw [du];omega
  generalize hqj:(L.take j).foldl (Ei (gy M.T.2) M.now) M.q=qj at*;refine ⟨hrd10.g9 (i:=(j:Int)) aF ab hb,_,_,_,hrd10.bZ hy',λeA oO cJ FP=> ?_⟩;have cD:Ext bO cJ:=(aL oO).ae FP (aB _);have z16:=BI oO FP;have aqZ:Row cJ bO (dA y) pM:=by rw [FP];exact Row.set (by rw [oO];exact Row.new bO [_,_,_] _) _
  have xd:=cD.tr (Ext.dr cJ);have zd:=lG cJ;have alu:=hS.ext xd;obtain ⟨g',m,qs,hq,tP,⟨sd',hr'⟩,eL,bw⟩:=alu.queue;refine ⟨_,hr'.at 0 rfl,_,hr'.at 3 rfl,ee (alu.tl.at oky) ?_⟩;rintro e fP ⟨rfl,cn⟩;have z19:=cn.size;have aee:=hr'.ext cn;have alv:=(aqZ.ext (Ext.dr cJ)).ext cn;have hd:=LF (gy M.T.2 y);have wr:aj (M.now+jk (gy M.T.2 y))=M.now+jk (gy M.T.2 y):=wI;refine ⟨_,rfl,cn.heap ab,cn.heap ab,oa (aee.at 3 rfl),Lo.wv alv,oa (aee.at 0 rfl),(Ek (gy M.T.2 y) fP).mono ?_⟩;rintro e eK ⟨rfl,hw⟩;subst hw;refine ⟨_,rfl,rfl,rfl,oa (aee.at 3 rfl),Lo.wv alv,oa (aee.at 0 rfl),?_⟩;rw [wr];refine (Q.LG (hq.ext cn) tP (by simp only at hlost ⊢;omega) y (M.now+jk (gy M.T.2 y))).mono ?_;rintro e eh ⟨rfl,qs',hq',ht⟩;have wk:=mz (j:=j);have ht':aM (Q.gW g' m qs) (Q.gW g' m qs') cJ.drew eh:=(aM.aD cn).trans ht;obtain ⟨F2,Rw,FE⟩:=bw hq' (tP.add y _) ht';have hsF:¬Q.gW g' m qs s:=(hq).dO hr' aF aF;have aq0:=ht'.mod.row hr' hsF;have nf:∀i,(w.heap.size<=i/\i<w4.heap.size\/bO.heap.size<=i)->i<cJ.drew.heap.size->eh.heap[i]? =eK.heap[i]? :=λi h1 h2=>(FE.mod.same i h2 (λhf=>by
   rcases h1 with ⟨h1,SX⟩|h1
   ·rcases hT.sub i hf with q|q
    ·have:=hF i q;omega
    ·omega
   ·have:=hS.lt hf;omega)).trans (cn.heap h2).symm
  refine ⟨_,rfl,nf _ (.inl ab) ab,nf _ (.inr ab) ab,oa (aq0.at 3 rfl),n-1,by omega,rfl,j+1,F2,wk,by omega,?_,(hT.trans (aM.aD xd)).trans FE⟩;rw [se,List.foldl_append,hqj];exact Rw
 ·replace hb:=my hb;rw [fC ab] at hS;exact ⟨rfl,F',hS,(aM.aD (x0.tr x4)).trans hT⟩
end
section
variable {F F':Nat->Prop} {w w':World} {s o t:Nat} {M M':Sm} {occ:Value}
theorem lR.trans{F1:Nat->Prop}{w1:World}(h:aM F F1 w w1)(k:lR F1 w1 s o t M occ w'):lR F w s o t M occ w':=by obtain ⟨F2,h2,t2⟩:=k;exact ⟨F2,h2,h.trans t2⟩
structure qH(M:Sm)(n:Nat):Prop where
 l:0<=M.q.lost/\M.q.lost<=n
 c:M.ch.length<=n
 now:0<=M.now/\M.now<=1099511627776
 d:M.ki.length<=n
theorem qH.mono{n m:Nat}(h:qH M n)(hm:n<=m):qH M m:=⟨⟨h.l.1,by have:=h.l.2;omega⟩,gj h.c hm,h.now,gj h.d hm⟩
theorem YV(l:List En)(ch:List Go.fR.Cg)(c:Ce)(b:Int):(Xp l ch c b).length<=ch.length+1:=ab7 l ch c b
theorem Qh(V:Ce->Int)(now:Int)(q:QS)(c:Ce):q.lost<=(Ej V now q c).lost/\(Ej V now q c).lost<=q.lost+7:=by have h1:=v8 V now (rf V c) q;have h2:=HA V c;have h3:Ej V now q c=(rf V c).foldl (Ei V now) q:=rfl;rw [h3];omega
theorem qH.edit{n:Nat}(h:qH M n)(c:Ce)(b:Int):qH (vj M c b) (n+7):=by
 have h1:=YV M.T.2 M.ch c b;have h2:=Qh (gy (gI M.T.2 c b).1) M.now M.q c;have h3:=h.l;have h4:=h.c;unfold vj;have h5:=h.d;refine ⟨?_,?_,h.now,by simp only;omega⟩
 ·simp only;split<;>omega
 ·simp only;omega
theorem qH.change{n:Nat}(h:qH M n)(x:Go.fR.Cg):qH (dE M x) (n+7):=by
 unfold dE;split
 ·exact h.mono ab
 ·exact h.edit _ _
theorem wo(h:SF F w s o t M occ)(c:Ce)(hc:eO c)(b:Int)(hk:qH M 800000):
  ah 113 #[s,dY c,b] w λe w'=>e=Value.int .i64 (gI M.T.2 c b).2/\lR F w s o t (vj M c b) occ w':=by
 apply IT.vc;intro w0 e0;have x0:Ext w w0.drew:=(aL e0).tr (Ext.dr w0);have z0:w0.drew.heap.size=w.heap.size+1:=by show w0.heap.size=_;rw [e0];simp
 have zd:=lG w0;have h0:=h.ext x0;obtain ⟨g,sd,hr,-⟩:=h0.row;obtain ⟨Fw,hW,eL,bw⟩:=h0.world;have hlc:=hk.c;have hll:=hk.l;refine ⟨_,(hr.at 1 rfl),(Tx hW c hc.ok b ab).mono ?_⟩;rintro e w2 ⟨rfl,hw⟩;obtain ⟨F2,h2,t2⟩:=bw hw;have hF:∀{i},w.heap.size<=i->i<w0.drew.heap.size->w2.heap[i]? =w0.drew.heap[i]? :=λh1 h3=>t2.mod.same _ h3 λhf=>by have:=h.lt hf;omega
 unfold vj;refine ⟨_,rfl,hF (aB _) ab,Br.mk (λhb=> ?_) (λhb=> ?_)⟩
 ·rw [if_pos (by simpa using hb)];refine (UC h2 c hc (by simp only;omega) hk.now).mono ?_;rintro e w4 ⟨rfl,F4,h4,t4⟩;have hz:=t2.mod.size;have hnf:¬F2 w:=λhf=>by
   rcases t2.sub _ hf with q|q
   ·have:=h.lt q;omega
   ·omega
  exact ⟨rfl,t4.mod.same _ ab hnf,rfl,F4,h4,(aM.aD x0).trans (t2.trans t4)⟩
 ·rw [if_neg (by simpa using hb)];exact ⟨rfl,F2,h2,(aM.aD x0).trans t2⟩
theorem pg(h:SF F w s o t M occ)(x:Go.fR.Cg)(hc:eO x.1)(hk:qH M 800000):
  ah 244 #[s,.agg (lP x).toArray] w λe w'=>e=sY/\lR F w s o t (dE M x) occ w':=by
 apply DS.vc;intro w0 e0;have S7:Row w0 w (lP x) kc:=Row.nw e0;have x0:Ext w w0.drew:=(aL e0).tr (Ext.dr w0);have z0:w0.drew.heap.size=w.heap.size+1:=by show w0.heap.size=_;rw [e0];simp
 have hb:=S7.ext (Ext.dr w0);have h0:=h.ext x0;obtain ⟨g,sd,hr,-⟩:=h0.row;obtain ⟨Fw,hW,-,-⟩:=h0.world;refine ⟨_,(hr.at 1 rfl),(fl hW).mono ?_⟩;rintro e w2 ⟨rfl,hw⟩;subst hw;refine ⟨_,rfl,rfl,hb.bZ (o:=3) (λj hj=>by
  match j,hj with
  |0,_=>rfl),hb.bZ (o:=0) (λj hj=>by
  match j,hj with
  |0,_=>rfl
  |1,_=>rfl
  |2,_=>rfl),ee (h0.tl.at hc.ok) ?_⟩
 rintro e w4 ⟨rfl,x4⟩;have z4:=x4.size;have BH:=x0.tr x4;unfold dE;refine ⟨_,rfl,x4.heap ab,(hb.ext x4).bZ (o:=3) (λj hj=>by
  match j,hj with
  |0,_=>rfl),Br.mk (λjC=> ?_) (λjC=> ?_)⟩
 ·rw [if_neg (by simpa using jC)];refine (wo (h.ext BH) x.1 hc x.2 hk).mono ?_;rintro e w6 ⟨rfl,F6,h6,t6⟩;exact ⟨_,rfl,t6.mod.same _ ab (λhf=>by have:=h.lt hf;omega),rfl,F6,h6,(aM.aD BH).trans t6⟩
 ·rw [if_pos (by simpa using jC)];exact ⟨rfl,F,h.ext BH,aM.aD BH⟩
end
def Oc(occ:Value)(O:Ce->Bool)(F:Nat->Prop)(w:World):Prop:=∃D:Nat->Prop,(∀i,D i->i<w.heap.size/\¬F i)/\∀w',(∀i,D i->w'.heap[i]? =w.heap[i]?)->∀c,pn c->cr Tryz.prog occ [dY c] w' λe w''=>e=Value.bool (O c)/\Ext w' w''
section
variable {F F':Nat->Prop} {w w':World} {s o t:Nat} {M M':Sm} {occ:Value} {O:Ce->Bool}
theorem Oc.pz(h:Oc occ O F w)(ht:aM F F' w w'):Oc occ O F' w':=by
 obtain ⟨D,h1,h2⟩:=h;refine ⟨D,λi hi=>⟨j6 (h1 i hi).1 ht.mod.size,λhf=> ?_⟩,λw'' hk=>h2 w'' λi hi=>(hk i hi).trans (ht.mod.same i (h1 i hi).1 (h1 i hi).2)⟩;rcases ht.sub i hf with q|q
 ·exact (h1 i hi).2 q
 ·have:=(h1 i hi).1;omega
theorem Oc.ext(h:Oc occ O F w)(x:Ext w w'):Oc occ O F w':=h.pz (aM.aD x)
theorem Oc.at(h:Oc occ O F w){c:Ce}(hc:pn c):cr Tryz.prog occ [dY c] w λe w'=>e=Value.bool (O c)/\Ext w w':=by obtain ⟨D,h1,h2⟩:=h;exact h2 w (λ_ _=>rfl) c hc
theorem qH.fold{n:Nat}:∀{M:Sm} (l:List Go.fR.Cg),qH M n->qH (l.foldl dE M) (n+7*l.length)
 |M,[],h=>h
 |M,x::l,h=>(qH.fold l (h.change x)).mono (by simp only [dt];omega)
theorem LQ(V:Ce->Int)(c:Ce):(iZ V c).length<=4:=by
 unfold iZ MC mB;split
 ·split<;>simp
 ·split
  ·split
   ·simp
   ·split
    ·simp
    ·split
     ·simp
     ·split
      ·simp
      ·rw [aN];exact List.length_filter_le _ _
  ·simp
theorem VV(V:Ce->Int)(c:Ce):∀x ∈ iZ V c,x.1=c\/x.1 ∈ pN c:=by
 have aew:eT c ∈ pN c:=by simp [pN]
 have hside:∀n ∈ c8 c,n ∈ pN c:=λn hn=>by
  unfold c8 at hn;unfold pN;simp only [cB,jQ,or_false] at hn ⊢;rcases hn with h|h|h|h
  ·exact .inl h
  ·exact .inr (.inl h)
  ·exact .inr (.inr (.inr (.inr (.inl h))))
  ·exact .inr (.inr (.inr (.inr (.inr h))))
 intro x hx;unfold iZ at hx;split at hx
 ·unfold MC at hx;split at hx
  ·simp only [cB,jQ,or_false] at hx;rcases hx with rfl|rfl
   ·exact .inl rfl
   ·exact .inr aew
  ·cases hx
 ·split at hx
  ·unfold mB at hx;split at hx
   ·simp only [cB,jQ,or_false] at hx;rw [hx];exact .inl rfl
   ·split at hx
    ·simp only [cB,jQ,or_false] at hx;rw [hx];exact .inl rfl
    ·split at hx
     ·simp only [cB,jQ,or_false] at hx;rw [hx];exact .inr aew
     ·split at hx
      ·cases hx
      ·obtain ⟨n,hn,rfl⟩:=aZ.1 hx;exact .inr (hside n (List.mem_filter.1 hn).1)
  ·cases hx
set_option maxRecDepth 100000 in
theorem LR(h:SF F w s o t M occ)(hO:Oc occ O F w)(c:Ce)(hc:zn c)(hk:qH M 700000):
  ah 173 #[s,dY c] w λe w'=>e=sY/\lR F w s o t (px O M c) occ w':=by
 apply DT.vc;have hc':=id hc;unfold zn at hc';intro w0 e0;have x0:Ext w w0.drew:=(aL e0).tr (Ext.dr w0);have z0:w0.drew.heap.size=w.heap.size+1:=by show w0.heap.size=_;rw [e0];simp
 have h0:=h.ext x0;obtain ⟨g,sd,hr,hdr,-,hsdF,bw⟩:=h0.row;obtain ⟨Fw,hW,-,-⟩:=h0.world;refine ⟨_,(hr.at 1 rfl),(td hW c hc.wide.ok (ab8 ab ab)).mono ?_⟩;rintro e w2 ⟨rfl,x2⟩;have z2:=x2.size;have yM:=x0.tr x2;have aew:pn (eT c):=DC hc.wide (by simp [pN]);refine ⟨_,rfl,x2.heap ab,Br.mk (λhb=> ?_) (λhb=> ?_)⟩
 ·have xd:=x2.tr (Ext.dr w2);have zd:=lG w2;have aed:=hk.now;have wr:aj (M.now+1)=M.now+1:=wI;obtain ⟨g',m,qs,hq,tP,⟨sd',hr'⟩,eL,hresq⟩:=(h0.ext xd).queue;refine ⟨_,hr'.at 0 rfl,_,hr'.at 3 rfl,?_⟩;rw [wr];have hll:=hk.l;refine (Q.LG hq tP ab c (M.now+1)).mono ?_;rintro e w6 ⟨rfl,qs',hq',ht⟩;obtain ⟨F2,Rw,FE⟩:=hresq hq' (tP.add c _) ht;have hsF:¬Q.gW g' m qs s:=hq.dO hr' aF aF;refine ⟨_,rfl,FE.mod.same _ ab (λhf=>by have:=h.lt hf;omega),oa ((ht.mod.row hr' hsF).at 3 rfl),rfl,?_⟩;unfold px;rw [if_pos (by simpa using hb)];exact ⟨F2,Rw,(aM.aD (x0.tr xd)).trans FE⟩
 have atm:¬Dr M.T.2 c=false:=by simpa using hb
 have pP:=hr.ext x2;refine ⟨_,(pP.at 1 rfl),(fl (hW.ext x2)).mono ?_⟩;rintro e w9 ⟨rfl,hw9⟩;subst hw9;refine ⟨_,rfl,rfl,(Pd (h0.tl.ext x2) c hc.wide).mono ?_⟩;rintro e aY ⟨jJ,rfl,ho,bC⟩;have z11:=bC.size;have gS:=ho.rd (show 0<4 by decide);have atn:=gS.n;have hLlen:=LQ (gy M.T.2) c;have hLw:∀x ∈ iZ (gy M.T.2) c,eO x.1:=λx hx=>by
  rcases VV _ _ x hx with q|q
  ·rw [q];exact hc.wide
  ·exact adb hc q
 have hU:px O M c=if El O M c=true then dE {M with ki:=M.ki++ [eT c]} (c,0) else (iZ (gy M.T.2) c).foldl dE M:=by unfold px;rw [if_neg atm]
 have hH:El O M c=(decide (gy M.T.2 c=3) &&(!(iZ (gy M.T.2) c).isEmpty && O (eT c))):=rfl;generalize iZ (gy M.T.2) c=L at*;rw [aN] at atn;refine ⟨jJ,rfl,bC.heap ab,(iP c hc.wide aY).mono ?_⟩;rintro e bJ ⟨rfl,cm⟩;have z13:=cm.size;refine ⟨_,_,_,_,_,_,_,_,_,_,_,_,_,_,_,_,_,_,rfl,cm.heap ab,by decide,_,_,_,Pc c,λjK e35 jW ZY=> ?_⟩;have nk:Ext bJ jW:=(aL e35).ae ZY (aB _);have z36:=BI e35 ZY;have xd:=Ext.dr jW;have zd:=lG jW;have afD:=cm.tr (nk.tr xd);have amO:=yM.tr (bC.tr afD);refine ee ((h.ext amO).tl.at hc.wide.ok) ?_;rintro e ie ⟨rfl,fB⟩;have z37:=fB.size;have yP:=amO.tr fB;have N3:=afD.tr fB;refine ⟨_,rfl,fB.heap ab,fB.heap ab,(vF (gy M.T.2 c) ie).mono ?_⟩;rintro e jX ⟨rfl,ah9⟩;subst ah9;have ato:=pP.ext (bC.tr N3);refine ⟨_,rfl,rfl,rfl,Br.mk (λhf=>Br.mk (λhp=> ?_) (λhp=> ?_)) (λhf=> ?_)⟩
 ·refine ⟨_,ato.at 4 rfl,ee ((hO.ext yP).at aew) ?_⟩;rintro e ku ⟨rfl,lh⟩;have z42:=lh.size;have N4:=yP.tr lh;have hpn:(!L.isEmpty)=true:=by
   have:0<L.length:=by simp only [cQ,gt_iff_lt] at hp;omega
   cases L with
   |nil=>simp at this
   |cons=>rfl
  have hf3:decide (gy M.T.2 c=3)=true:=by simpa using hf
  refine ⟨_,rfl,lh.heap ab,lh.heap ab,Br.mk (λhh=> ?_) (λhh=> ?_)⟩
  ·have hHt:El O M c=true:=by rw [hH,hf3,hpn,hh];rfl
   intro ko e44;have jY:=aL e44;have z44:=eG e44;have rch:Row ko ku (lP (c,0)) kc:=Row.nw e44;have aiC:=Ext.dr ko;have aAk:=lG ko;have amP:=N4.tr (jY.tr aiC);have awh:=x2.tr ((bC.tr N3).tr (lh.tr (jY.tr aiC)));obtain ⟨g2,sd2,abi,hdr44,hFs,hsdF2,hres44⟩:=(h.ext amP).row;refine ⟨sd2,abi.at 5 rfl,λqC e46=> ?_⟩;subst e46;have tR:sd2.n=M.ki.length:=by have:=(hdr44.rd (show 0<3 by decide)).n;rwa [aN] at this
   have hkd:=hk.d;obtain ⟨Cq,hres8⟩:=hdr44.iO (bytes:=24) (news:=dA (eT c)) (.cells #[.int .i64 (eT c).1,.int .i64 (eT c).2.1,.int .i64 (eT c).2.2] pM) (Nat.zero_le _) rfl (AG _) ab ab;refine ⟨Cq,λC3 fY atq=> ?_⟩;obtain ⟨f8,xc,hn8,x8,Fc,ik⟩:=hres8 C3 fY atq;have xa:=Ext.al ko.drew (.cells #[.int .i64 (eT c).1,.int .i64 (eT c).2.1,.int .i64 (eT c).2.2] pM);have hsdlt:∀b,sd2.aX=some b->b<w.heap.size:=λb hb=>h.lt (hsdF2 b hb)
   have kp:∀j,w.heap.size<=j->j<ko.drew.heap.size->fY.heap[j]? =(ko.drew.alloc (.cells #[.int .i64 (eT c).1,.int .i64 (eT c).2.1,.int .i64 (eT c).2.2] pM)).heap[j]? :=λj h1 h2=>by rw [Fc j (λhb=>by have:=hsdlt j hb;omega) h2,xa.heap h2]
   have aAl:=h.lt hFs;have m48:Mod (λj=>sd2.aX=some j) ko.drew fY:=Mod.vA x8 Fc;have att:¬sd2.aX=some s:=λe=>by obtain ⟨cs',hr'⟩:=bc hdr44 aF e;exact hr'.ne abi aF rfl
   have afE:=m48.row abi att;obtain ⟨p1,p2⟩:=afE.je (j:=5) (v:=.slice C3.a C3.n C3.c) (by simp [smC]) rfl;have z48:=m48.size;have pb:∀j:Nat,s<j->bD (af (some ⟨s,0,none⟩) 5)≠some j:=λj hj e=>by
    rw [cV] at e;have:s=j:=by simpa [bD] using e
    omega
   refine ⟨kp _ ab ab,kp _ ab ab,kp _ ab ab,f8,⟨rfl,p1⟩,pb _ ab,pb _ ab,pb _ ab,pb _ ab,λlA e49=> ?_⟩;obtain ⟨q1,q2⟩:=p2 lA e49;have ho9:∀b,C3.aX=some b->b≠s:=λb hb=>by obtain ⟨cs',hr'⟩:=bc xc aF hb;exact hr'.ne afE aF
   have m49:Mod (λj=>j=s\/sd2.aX=some j) ko.drew lA:=(m48.mono λi _ hi=> .inr hi).trans (q2.mono λi _ hi=> .inl hi);obtain ⟨F3,hS3,hT3⟩:=hres44 (M':={M with ki:=M.ki++ [eT c]}) rfl rfl rfl rfl rfl m49 q1 (by rw [bU];exact q2.fk xc ho9) (λb hb=>by
    rcases ik with e|e
    ·exact .inl (by rw [<-e];exact hb)
    ·rw [e] at hb;cases hb;exact .inr (Nat.le_succ _))
   have z49:=q2.size;have atv:Row lA ko.drew.heap.size (dA (eT c)) pM:=q2.row (Row.same (Row.new ko.drew [_,_,_] pM) f8) ab;have Wf:¬F3 ko.drew.heap.size:=hS3.dO atv ajH.1 aF aF aF aF aF (λg sd r1 hb=>by
    have e1:=(r1.at 5 rfl).symm.trans (q1.at 5 rfl);have e2:sd.a=C3.a:=by injection e1 with e1;injection e1
    have e3:sd.aX=C3.aX:=by unfold Sl.aX;rw [e2]
    rw [e3] at hb;rcases ik with e|e
    ·have:=hsdlt _ (by rw [<-e];exact hb);omega
    ·rw [e] at hb;simp at hb)
   have hch49:Row lA ku (lP (c,0)) kc:=m49.row (rch.ext aiC) (λq=>by
    rcases q with q|q
    ·omega
    ·have:=hsdlt _ q;omega)
   have hF3:∀i,F3 i->i<w.heap.size\/ko.heap.size<=i:=λi hi=>(hT3.sub i hi).imp (λq=>h.lt q) id
   refine ⟨λn x wr=>(x=0/\n=1/\wr=lA)\/(x=1/\n=0/\lR F3 lA s o t (dE {M with ki:=M.ki++ [eT c]} (c,0)) occ wr),⟨1,rfl,rfl,rfl,rfl,.inl ⟨rfl,rfl,rfl⟩⟩,?_⟩;rintro n us x wr (⟨rfl,rfl,rfl⟩|⟨rfl,rfl,hS⟩)
   ·refine Br.mk (λ_=> ?_) (λq=>by simp at q);refine ⟨⟨rfl,by decide,by decide⟩,_,_,_,_,Lo.wv hch49,λmQ e60 oD e61=> ?_⟩;have ov:Ext wr oD:=(aL e60).ae e61 (aB _);have z61:=BI e60 e61;refine (pg (hS3.ext ov) (c,0) hc.wide ⟨by have:=hk.l;simp only;omega,by have:=hk.c;simp only;omega,hk.now,by have:=hk.d;simp only [dm,List.length_singleton];omega⟩).mono ?_;rintro e il ⟨rfl,F4,hS4,hT4⟩;have nf:∀i,(w.heap.size<=i/\i<ko.heap.size\/wr.heap.size<=i)->i<oD.heap.size->il.heap[i]? =oD.heap[i]? :=λi h1 h2=>hT4.mod.same i h2 λhf=>by
     rcases h1 with ⟨h1,SX⟩|h1
     ·rcases hF3 i hf with q|q<;>omega
     ·have:=hS3.lt hf;omega
    refine ⟨rfl,nf _ (.inl ab) ab,nf _ (.inl ab) ab,nf _ (.inl ab) ab,hT4.mod.same _ ab Wf,nf _ (.inr ab) ab,0,by omega,rfl,rfl,rfl,rfl,.inr ⟨rfl,rfl,F4,hS4,(aM.aD ov).trans hT4⟩⟩
   ·refine Br.mk (λq=>by simp at q) (λ_=> ?_);rw [hU,if_pos hHt];exact ⟨rfl,lR.trans ((aM.aD amP).trans hT3) hS⟩
  ·have hHf:¬El O M c=true:=by rw [hH,hh,Bool.and_false,Bool.and_false];decide
   refine ⟨λn x wr=>∃(j:Nat)(F':Nat->Prop),x=j/\j+n=L.length/\SF F' wr s o t ((L.take j).foldl dE M) occ/\aM F F' ku wr,⟨L.length,rfl,rfl,0,F,rfl,by omega,h.ext N4,aM.refl _ _⟩,?_⟩;rintro n us x wr ⟨j,F',rfl,hj,hS,hT⟩;have zr:=hT.mod.size;have hzw42:=(N4).size;have FL:RdK wr jJ 4 (L.map lP):=hT.mod.rdK aF (gS.ext (N3.tr lh)) λ_ b hb hf=>by have:=(ho.own.lt hb).1;have:=h.lt hf;omega
   have nf:∀{w2:World} {F2:Nat->Prop} {w1:World},Ext wr w1->aM F' F2 w1 w2->∀i,(w.heap.size<=i/\i<ku.heap.size\/wr.heap.size<=i)->i<w1.heap.size->w2.heap[i]? =w1.heap[i]? :=λx1 t2 i h1 h2=>t2.mod.same i h2 λhf=>by
    rcases h1 with ⟨h1,SX⟩|h1
    ·rcases hT.sub i hf with q|q
     ·have:=h.lt q;omega
     ·omega
    ·have:=hS.lt hf;omega
   apply Br.mk<;>intro hb
   ·replace hb:=mh hb;obtain ⟨y,hy⟩:=bI (l:=L) (i:=j) ab;have hy':(L.map lP)[j]? =some (lP y):=by rw [aU,hy];rfl
    have se:L.take (j+1)=L.take j++ [y]:=by rw [dD,hy];rfl
    have wk:=mz (j:=j);refine ⟨FL.g9 (i:=(j:Int)) aF ab hb,_,_,_,_,FL.bZ hy',λw86 e86 AO e87=> ?_⟩;have rK:Ext wr AO:=(aL e86).ae e87 (aB _);have z87:=BI e86 e87;refine (pg (hS.ext rK) y (hLw y (bg hy)) ((hk.fold (L.take j)).mono (by rw [du];omega))).mono ?_;rintro e Kg ⟨rfl,F2,Rw,FE⟩;refine ⟨rfl,nf rK FE _ (.inl ab) ab,nf rK FE _ (.inl ab) ab,nf rK FE _ (.inr ab) ab,n-1,by omega,rfl,rfl,j+1,F2,wk,by omega,?_,(hT.trans (aM.aD rK)).trans FE⟩;rw [se,List.foldl_append];exact Rw
   ·replace hb:=my hb;rw [fC ab] at hS;rw [hU,if_neg hHf];exact ⟨rfl,F',hS,(aM.aD N4).trans hT⟩
 ·have hHf:¬El O M c=true:=by
   have:L=[]:=by
    have:¬0<L.length:=by simp only [fa,gt_iff_lt] at hp;omega
    exact List.length_eq_zero_iff.1 ab
   rw [hH,this];simp
  refine ⟨λn x wr=>∃(j:Nat)(F':Nat->Prop),x=j/\j+n=L.length/\SF F' wr s o t ((L.take j).foldl dE M) occ/\aM F F' jX wr,⟨L.length,rfl,rfl,0,F,rfl,by omega,h.ext yP,aM.refl _ _⟩,?_⟩;rintro n us x wr ⟨j,F',rfl,hj,hS,hT⟩;have zr:=hT.mod.size;have hzw39:=(yP).size;have FL:RdK wr jJ 4 (L.map lP):=hT.mod.rdK aF (gS.ext N3) λ_ b hb hf=>by have:=(ho.own.lt hb).1;have:=h.lt hf;omega
  have nf:∀{w2:World} {F2:Nat->Prop} {w1:World},Ext wr w1->aM F' F2 w1 w2->∀i,(w.heap.size<=i/\i<jX.heap.size\/wr.heap.size<=i)->i<w1.heap.size->w2.heap[i]? =w1.heap[i]? :=λx1 t2 i h1 h2=>t2.mod.same i h2 λhf=>by
   rcases h1 with ⟨h1,SX⟩|h1
   ·rcases hT.sub i hf with q|q
    ·have:=h.lt q;omega
    ·omega
   ·have:=hS.lt hf;omega
  apply Br.mk<;>intro hb
  ·replace hb:=mh hb;obtain ⟨y,hy⟩:=bI (l:=L) (i:=j) ab;have hy':(L.map lP)[j]? =some (lP y):=by rw [aU,hy];rfl
   have se:L.take (j+1)=L.take j++ [y]:=by rw [dD,hy];rfl
   have wk:=mz (j:=j);refine ⟨FL.g9 (i:=(j:Int)) aF ab hb,_,_,_,_,FL.bZ hy',λw86 e86 AO e87=> ?_⟩;have rK:Ext wr AO:=(aL e86).ae e87 (aB _);have z87:=BI e86 e87;refine (pg (hS.ext rK) y (hLw y (bg hy)) ((hk.fold (L.take j)).mono (by rw [du];omega))).mono ?_;rintro e Kg ⟨rfl,F2,Rw,FE⟩;refine ⟨rfl,nf rK FE _ (.inl ab) ab,nf rK FE _ (.inl ab) ab,nf rK FE _ (.inr ab) ab,n-1,by omega,rfl,rfl,j+1,F2,wk,by omega,?_,(hT.trans (aM.aD rK)).trans FE⟩;rw [se,List.foldl_append];exact Rw
  ·replace hb:=my hb;rw [fC ab] at hS;rw [hU,if_neg hHf];exact ⟨rfl,F',hS,(aM.aD yP).trans hT⟩
 ·have hHf:¬El O M c=true:=by
   have:¬gy M.T.2 c=3:=by simpa using hf
   rw [hH,decide_eq_false this];simp
  refine ⟨λn x wr=>∃(j:Nat)(F':Nat->Prop),x=j/\j+n=L.length/\SF F' wr s o t ((L.take j).foldl dE M) occ/\aM F F' jX wr,⟨L.length,rfl,rfl,0,F,rfl,by omega,h.ext yP,aM.refl _ _⟩,?_⟩;rintro n us x wr ⟨j,F',rfl,hj,hS,hT⟩;have zr:=hT.mod.size;have hzw39:=(yP).size;have FL:RdK wr jJ 4 (L.map lP):=hT.mod.rdK aF (gS.ext N3) λ_ b hb hf=>by have:=(ho.own.lt hb).1;have:=h.lt hf;omega
  have nf:∀{w2:World} {F2:Nat->Prop} {w1:World},Ext wr w1->aM F' F2 w1 w2->∀i,(w.heap.size<=i/\i<jX.heap.size\/wr.heap.size<=i)->i<w1.heap.size->w2.heap[i]? =w1.heap[i]? :=λx1 t2 i h1 h2=>t2.mod.same i h2 λhf=>by
   rcases h1 with ⟨h1,SX⟩|h1
   ·rcases hT.sub i hf with q|q
    ·have:=h.lt q;omega
    ·omega
   ·have:=hS.lt hf;omega
  apply Br.mk<;>intro hb
  ·replace hb:=mh hb;obtain ⟨y,hy⟩:=bI (l:=L) (i:=j) ab;have hy':(L.map lP)[j]? =some (lP y):=by rw [aU,hy];rfl
   have se:L.take (j+1)=L.take j++ [y]:=by rw [dD,hy];rfl
   have wk:=mz (j:=j);refine ⟨FL.g9 (i:=(j:Int)) aF ab hb,_,_,_,_,FL.bZ hy',λw86 e86 AO e87=> ?_⟩;have rK:Ext wr AO:=(aL e86).ae e87 (aB _);have z87:=BI e86 e87;refine (pg (hS.ext rK) y (hLw y (bg hy)) ((hk.fold (L.take j)).mono (by rw [du];omega))).mono ?_;rintro e Kg ⟨rfl,F2,Rw,FE⟩;refine ⟨rfl,nf rK FE _ (.inl ab) ab,nf rK FE _ (.inl ab) ab,nf rK FE _ (.inr ab) ab,n-1,by omega,rfl,rfl,j+1,F2,wk,by omega,?_,(hT.trans (aM.aD rK)).trans FE⟩;rw [se,List.foldl_append];exact Rw
  ·replace hb:=my hb;rw [fC ab] at hS;rw [hU,if_neg hHf];exact ⟨rfl,F',hS,(aM.aD yP).trans hT⟩
end
section
variable {F F':Nat->Prop} {w w':World} {s o t:Nat} {M M':Sm} {occ:Value} {O:Ce->Bool}
def G3(l:List Ce):Prop:=∀y ∈ l,zn y
theorem qH.upd{n:Nat}(h:qH M n)(O:Ce->Bool)(c:Ce):qH (px O M c) (n+40):=by
 have h1:=h.l;have h2:=HB M.q c (M.now+1);unfold px;split
 ·exact ⟨by simp only;omega,by have:=h.c;simp only;omega,h.now,by have:=h.d;simp only;omega⟩
 ·split
  ·have:qH {M with ki:=M.ki++ [eT c]} (n+1):=⟨by simp only;omega,by have:=h.c;simp only;omega,h.now,by have:=h.d;simp only [dm,List.length_singleton];omega⟩;exact (this.change _).mono ab
  ·have:=LQ (gy M.T.2) c;exact (h.fold _).mono ab
theorem qH.Uz{n:Nat}(O:Ce->Bool):∀{M:Sm} (l:List Ce),qH M n->qH (l.foldl (px O) M) (n+40*l.length)
 |M,[],h=>h
 |M,x::l,h=>(qH.Uz O l (h.upd O x)).mono (by simp only [dt];omega)
theorem R4{q:QS}{now b:Int}(hb:1<=b/\b<=64):(Al q now b).2.length<=64:=by unfold Al iH;rw [aN,du];omega
theorem Hw(h:SF F w s o t M occ)(hO:Oc occ O F w)(hd:G3 (sm M))(hk:qH M 600000)(hb:1<=M.dH/\M.dH<=64):
  ah 119 #[s] w λe w'=>e=Value.int .i64 (sm M).length/\lR F w s o t (Ly O M) occ w':=by
 obtain ⟨g,sd,hr,ho,-,-,bw⟩:=h.row;apply IV.vc;have aed:=hk.now;have wr:aj (M.now+1)=M.now+1:=wI;have en:(if 1099511627776<M.now+1 then 1099511627776 else M.now+1)=re M:=by unfold re;split<;>omega
 obtain ⟨p1,p2⟩:=hr.je (j:=3) (v:=.int .i64 (re M)) (by simp [smC]) rfl;refine ⟨M.now,hr.at 3 rfl,⟨rfl,p1⟩,λw1 e1=> ?_⟩;rw [wr,en] at e1;obtain ⟨q1,q2⟩:=p2 w1 e1;have S9:∀b,sd.aX=some b->b≠s:=λb hb=>by obtain ⟨cs',hr'⟩:=bc ho aF hb;exact hr'.ne hr aF
 obtain ⟨F1,h1,t1⟩:=bw (M':={M with now:=re M}) (occ':=occ) (sd':=sd) rfl rfl rfl rfl rfl (q2.mono λi _ hi=> .inl hi) q1 (q2.fk ho S9) (λb hb=> .inl hb);have xd:=Ext.dr w1;have t1d:=t1.trans (aM.aD xd);obtain ⟨g',m,qs,hq,tP,⟨sd',hr'⟩,eL,hresq⟩:=(h1.ext xd).queue;refine ⟨_,hr'.at 0 rfl,_,hr'.at 3 rfl,_,hr'.at 2 rfl,(Q.YL hq tP (re M) M.dH).mono ?_⟩;rintro e w5 ⟨s6,rfl,qs',qB,hq',ht⟩;obtain ⟨F5,h5,t5⟩:=hresq hq' (tP.due _ _) ht;have h5:SF F5 w5 s o t (Ae M) occ:=h5;have T5:=t1d.trans t5;have hO5:=hO.pz T5;have gS:=qB.rd (show 0<3 by decide);have Rx:(sm M).length<=64:=R4 hb;have gS:RdK w5 s6 3 ((sm M).map dA):=gS;have qB:aC w1.drew.heap.size pM 3 w5 s6 ((sm M).map dA):=qB;have hk5:qH (Ae M) 600000:=⟨hk.l,hk.c,by show 0<=re M/\re M<=_;unfold re;omega,hk.d⟩;obtain ⟨g1,sd1,r1,-,-,f1,-⟩:=(h1.ext xd).row;have hsq:¬Q.gW g' m qs s:=hq.dO hr' aF aF;have r5:=ht.mod.row r1 hsq;have hsF:∀b,s6.aX=some b->¬F5 b:=λb hb=>by
  obtain ⟨cs6,hr6⟩:=bc qB aF hb;refine h5.dO hr6 ajH.1 aF aF aF aF aF (λg sd r2 jC=> ?_);have e1:=(r2.at 5 rfl).symm.trans (r5.at 5 rfl);have e2:sd.a=sd1.a:=by injection e1 with e1;injection e1
  have e3:sd.aX=sd1.aX:=by unfold Sl.aX;rw [e2]
  have q1:=h1.lt (f1 b (by rw [<-e3];exact jC));have q2:=(qB.own.lt hb).1;have q3:=lG w1;omega
 unfold Ly;generalize sm M=L at*;generalize Ae M=M0 at*;have hn6:=gS.n;rw [aN] at hn6;refine ⟨s6,rfl,λn x wr=>∃(j:Nat)(F':Nat->Prop),x=j/\j+n=L.length/\SF F' wr s o t ((L.take j).foldl (px O) M0) occ/\aM F5 F' w5 wr,⟨L.length,0,F5,rfl,by omega,h5,aM.refl _ _⟩,?_⟩;rintro n us x QY ⟨j,F',rfl,hj,hS,hT⟩;have zr:=hT.mod.size;have FL:RdK QY s6 3 (L.map dA):=hT.mod.rdK aF gS λ_ b hb hf=>hsF b hb hf
 apply Br.mk<;>intro hb
 ·replace hb:=mh hb;obtain ⟨y,hy⟩:=bI (l:=L) (i:=j) ab;have hy':(L.map dA)[j]? =some (dA y):=by rw [aU,hy];rfl
  have se:L.take (j+1)=L.take j++ [y]:=by rw [dD,hy];rfl
  have wk:=mz (j:=j);have Nz:=hd y (bg hy);refine ⟨FL.g9 (i:=(j:Int)) aF ab hb,_,_,_,FL.bZ hy',λcJ FP cL ze=> ?_⟩;have cY:Ext QY cL:=(aL FP).ae ze (aB _);have z17:=BI FP ze;refine (LR (hS.ext cY) ((hO5.pz hT).ext cY) y Nz ((hk5.Uz O (L.take j)).mono (by rw [du];omega))).mono ?_;rintro e dG ⟨rfl,F2,Rw,FE⟩;refine ⟨rfl,FE.mod.same _ ab (λhf=>by have:=hS.lt hf;omega),n-1,by omega,j+1,F2,wk,by omega,?_,(hT.trans (aM.aD cY)).trans FE⟩;rw [se,List.foldl_append];exact Rw
 ·replace hb:=my hb;rw [fC ab] at hS;exact ⟨by rw [hn6],F',hS,T5.trans hT⟩
end
variable {R:Ending->World->Prop} {w:World} {a0 a1 a2 a3 a4 a5 a6 a7 a8 a9 aA aq au aS aT aW bM bG bH Cr ak ao aw bz bT bR eW eX eD Cs bq bA bo wL wM uS uT wN wO wP Ct Cu Cv Cw Cx Cy Cz CA CB CC:Int}
theorem uM.vc{a0:Addr}(h:
 Aw w #[ak,ao,aw] 28 λw0=>
 Aw w0 #[aa,aa,aa,aa,aa,aa,aa,aa,false] 70 λw1=>
 Sw w1 w0 #[ak,ao,aw,aa,aa,aa,a2,a3,false] λw2=>
 ah 43 #[.slice (aJ (af (some a0) 1) (0) (16) 1) (16-0) (16-0),.pointer none] w2 (Ri λx4 w3=>K2 w w0 w2 w3 (
 ah 44 #[.agg #[ak,ao,aw,aa,aa,aa,a2,a3,false]] w3 (Rb λb6 w5=>K2 w w0 w3 w5 (
 Br (!b6)
 (R (Value.tuple #[(-1:Int),(1:Int)]) w5)
 (Br (x4<0)
 (R (Value.tuple #[(-1:Int),(8:Int)]) w5)
 (ah 45 #[a0,.agg #[ak,ao,aw,aa,aa,aa,a2,a3,false]] w5 (Rb λb8 w7=>K2 w w0 w5 w7 (
 Br (!b8)
 (R (Value.tuple #[(-1:Int),(11:Int)]) w7)
 (ah 47 #[a0] w7.drew (Rv λv10 w9=>K2 w w0 w7.drew w9 (
 ag w9 (some ⟨w0,0,none⟩) 0 [ak,ao,aw,aa,aa,aa,a2,a3,false]/\ah 48 #[.agg #[ak,ao,aw,aa,aa,aa,a2,a3,false]] w9 (vG λbN cm bX cA cD cY aY=>K2 w w0 w9 aY (
 ah 46 #[v10,.agg #[bN,cm,bX,cA,cD,cY]] aY (Rb λb19 dG=>K2 w w0 aY dG (
 Br b19
 (R (Value.tuple #[(-1:Int),(12:Int)]) dG)
 (ah 47 #[a0] dG.drew (Rv λv21 fx=>K2 w w0 dG.drew fx (
 ag fx (some ⟨w0,0,none⟩) 0 [ak,ao,aw,aa,aa,aa,a2,a3,false]/\ah 48 #[.agg #[ak,ao,aw,aa,aa,aa,a2,a3,false]] fx (vG λdz eE dQ fy fE g7 dT=>K2 w w0 fx dT (
 ah 49 #[v21,.agg #[dz,eE,dQ,fy,fE,g7]] dT (Rb λWh dR=>K2 w w0 dT dR (
 Sw dR w0 #[ak,ao,aw,aa,aa,aa,a2,a3,Wh] λfJ=>
 Aw fJ.drew #[ak,ao,aw,aa,aa,aa,a2,a3,Wh,aa,aa,false] 111 λlv=>
 (0:Int)<=x4/\x4<((16:Nat):Int)/\(true=true/\Wr lv (af (af (some a0) 1) ((x4:Int).toNat*1)) 1)/\bD (af (af (some a0) 1) ((x4:Int).toNat*1))≠some w.heap.size/\bD (af (af (some a0) 1) ((x4:Int).toNat*1))≠some w0.heap.size/\bD (af (af (some a0) 1) ((x4:Int).toNat*1))≠some fJ.drew.heap.size/\(∀eM,eM=aH lv (af (af (some a0) 1) ((x4:Int).toNat*1)) [.pointer (some ⟨fJ.drew.heap.size,0,none⟩)]->
 R (Value.tuple #[x4,aa]) eM)))))))))))))))))))))))):ah 11 #[a0,.agg #[ak,ao,aw],a2,a3] w R:=
 cq bV Tryz.func11 h
theorem wm.vc{a0:Addr}(h:
 ∃(p0 p1 p2 p3 p4 p5 p6 p7 p8 p9 Ih WB oF Nx p14 Rr:Option Addr),ag w (af (some a0) 1) 0 [.pointer p0,p1,p2,p3,p4,p5,p6,p7,p8,p9,Ih,WB,oF,Nx,p14,Rr]/\
 ∃I16:Nat->Int->Sl->World->Prop,
 (∃GW,I16 GW (0) ⟨none,0,0⟩ w)/\
 ∀(GW:Nat)(aqQ:Nat->Value)(cn:Int)(uB:Sl)(eK:World),I16 GW cn uB eK->
 Br (cn<16)
 (((0:Int)<=cn/\cn<((16:Nat):Int))/\∃(S6:Option Addr),([.pointer p0,p1,p2,p3,p4,p5,p6,p7,p8,p9,Ih,WB,oF,Nx,p14,Rr]:LV)[(cn:Int).toNat*1]? =some (.pointer S6)/\
 Br (!(S6).isNone)
 (Aw eK #[cn] 3 λfZ=>
 ba 8 1 fZ uB 1 [cn]/\∀(s25:Sl)(fi:World),aV 3 1 fZ uB 1 [cn] s25 fi->Kp eK fZ fi/\
 ∃Ny,Ny<GW/\I16 Ny ((aj (cn+1))) s25 fi)
 (∃Ny,Ny<GW/\I16 Ny ((aj (cn+1))) uB eK))
 (R uB eK)):ah 12 #[a0] w R:=
 cq ⟨[(3,⟨[(10,.int .i64),(3,.slice)],[],[]⟩)],[],[]⟩ Tryz.func12 h
theorem wi.vc{a0:Addr}(h:
 ah 50 #[a0,a1] w (λe w0=>∃(p1:Option Addr),e=p1/\
 Br (p1).isNone
 (R (6:Int) w0)
 ((0:Int)<=a1/\a1<((16:Nat):Int)/\(true=true/\Wr w0 (af (af (some a0) 1) ((a1:Int).toNat*1)) 1)/\(∀w2,w2=aH w0 (af (af (some a0) 1) ((a1:Int).toNat*1)) [.pointer none]->
 R (0:Int) w2)))):ah 13 #[a0,a1] w R:=
 cq bV Tryz.func13 h
theorem Qe.vc(h:
 Aw w #[aA,aq,au,aS] 94 λw0=>
 ah 39 #[aA,aq,au] w0.drew (λe w1=>∃(p2:Option Addr),e=p2/\Kp w w0.drew w1/\
 ag w1 (some ⟨w,3,none⟩) 0 [aS]/\ah 40 #[p2,aS] w1 (λe w3=>∃(p4:Option Addr),e=p4/\Kp w w1 w3/\
 Aw w3 #[p4,.pointer none,.pointer none,.pointer none,.pointer none,.pointer none,.pointer none,.pointer none,.pointer none,.pointer none,.pointer none,.pointer none,.pointer none,.pointer none,.pointer none,.pointer none,.pointer none] 56 λw5=>
 R (Value.pointer (some ⟨w3,0,none⟩)) w5))):ah 38 #[.agg #[aA,aq,au,aS]] w R:=
 cq bV Tryz.func38 h
theorem xS.vc{a0:Addr}(h:
 ∃(p0:Option Addr),ld w (af (some a0) 0)=some (.pointer p0)/\
 R p0 w):ah 41 #[a0] w R:=
 cq bV Tryz.func41 h
theorem yf.vc{a0:Sl}(h:
 ∃I0:Nat->Int->World->Prop,
 (∃n1,I0 n1 (0) w)/\
 ∀(n1:Nat)(wX:Nat->Value)(x3:Int)(w4:World),I0 n1 x3 w4->
 Br (decide (x3<((a0.n:Nat):Int)))
 (eo a0.a x3 a0.n/\∃(p6:Option Addr),ld w4 (af a0.a ((x3:Int).toNat*1))=some (.pointer p6)/\
 aP (ajk none p6) (Br (ajl none p6)
 (R x3 w4)
 (∃n5,n5<n1/\I0 n5 ((aj (x3+1))) w4)))
 (R (Value.int .i64 (-1)) w4)):ah 43 #[a0,.pointer (none:Option Addr)] w R:=
 cq ⟨[(2,⟨[(8,.int .i64)],[],[]⟩)],[],[]⟩ Tryz.func43 h
theorem X7.vc{bH:Bool}(h:
 Aw w #[aA,aq,au,aS,aT,aW,bM,bG,bH] 70 λw0=>
 Br (bM>=2)
 (Br (bM<=131072)
 (Br (bG>=1)
 (Br (bG<=262144)
 (ah 99 #[.agg #[aA,aq,au],(70368744177664:Int)] w0 (Rb λb2 w1=>Kp w w0 w1/\
 Br b2
 (ah 99 #[.agg #[aS,aT,aW],(262144:Int)] w1 (Rb λb4 w3=>Kp w w1 w3/\
 R b4 w3))
 (R false w1)))
 (R false w0))
 (R false w0))
 (R false w0))
 (R false w0)):ah 44 #[.agg #[aA,aq,au,aS,aT,aW,bM,bG,bH]] w R:=
 cq bV Tryz.func44 h
theorem uI.vc{a0:Addr}{eD:Bool}(h:
 Aw w #[ak,ao,aw,bz,bT,bR,eW,eX,eD] 70 λw0=>
 ∃(p1:Option Addr),ld w0.drew (af (some a0) 0)=some (.pointer p1)/\
 ah 18 #[p1] w0.drew (λe w2=>∃(p3:Option Addr),e=p3/\Kp w w0.drew w2/\
 ag w2 w 0 [ak,ao,aw]/\ah 101 #[.agg #[ak,ao,aw]] w2 (iC λx5 x6 x7 w4=>Kp w w2 w4/\
 ah 100 #[p3,.agg #[x5,x6,x7]] w4 (Rb λb9 w8=>Kp w w4 w8/\
 R b9 w8)))):ah 45 #[a0,.agg #[ak,ao,aw,bz,bT,bR,eW,eX,eD]] w R:=
 cq bV Tryz.func45 h
theorem Gg.vc{a0:Value}(h:
 Aw w #[ak,ao,aw,bz,bT,bR] 107 λw0=>
 ah 102 #[a0,.agg #[ak,ao,aw,bz,bT,bR],.func (.func 103) #[] #[]] w0 (Rb λb2 w1=>Kp w w0 w1/\
 R b2 w1)):ah 46 #[a0,.agg #[ak,ao,aw,bz,bT,bR]] w R:=
 cq bV Tryz.func46 h
theorem vS.vc{a0:Addr}(h:
 ∃(p0:Option Addr),ld w (af (some a0) 0)=some (.pointer p0)/\
 ah 18 #[p0] w (λe w1=>∃(p2:Option Addr),e=p2/\
 ah 27 #[p2] w1 (λe w3=>∃(v4:Value),e=v4/\
 R v4 w3))):ah 47 #[a0] w R:=
 cq bV Tryz.func47 h
theorem Ge.vc{bH:Bool}(h:
 Aw w #[aA,aq,au,aS,aT,aW,bM,bG,bH] 70 λw0=>
 Aw w0 #[aa,aa,aa,aa,aa,aa] 107 λw1=>
 ah 104 #[.agg #[aA,aq,au],bM,bG] w1 (vG λx3 x4 x5 x6 x7 x8 w2=>K2 w w0 w1 w2 (
 Sw w2 w0 #[x3,x4,x5,x6,x7,x8] λw9=>
 R (Value.agg #[x3,x4,x5,x6,x7,x8]) w9))):ah 48 #[.agg #[aA,aq,au,aS,aT,aW,bM,bG,bH]] w R:=
 cq bV Tryz.func48 h
theorem IW.vc{a0:Value}(h:
 Aw w #[ak,ao,aw,bz,bT,bR] 107 λw0=>
 ah 105 #[.agg #[ak,ao,aw,bz,bT,bR]] w0 (vG λx2 x3 x4 x5 x6 x7 w1=>Kp w w0 w1/\
 ah 46 #[a0,.agg #[x2,x3,x4,x5,x6,x7]] w1 (Rb λb9 w8=>Kp w w1 w8/\
 R b9 w8))):ah 49 #[a0,.agg #[ak,ao,aw,bz,bT,bR]] w R:=
 cq bV Tryz.func49 h
theorem Ax.vc{a0:Addr}(h:
 Br (a1<0)
 (R (Value.pointer none) w)
 (Br (a1>=16)
 (R (Value.pointer none) w)
 ((0:Int)<=a1/\a1<((16:Nat):Int)/\∃(p0:Option Addr),ld w (af (af (some a0) 1) ((a1:Int).toNat*1))=some (.pointer p0)/\
 R p0 w))):ah 50 #[a0,a1] w R:=
 cq bV Tryz.func50 h
theorem Lp.vc(h:
 Aw w #[aA,aq,au] 28 λw0=>
 Br (decide (((if au<(if aq<aA then aq else aA) then au else (if aq<aA then aq else aA)):Int)>=(aj (0-a1))))
 (R (Value.bool (decide (((if au>(if aq>aA then aq else aA) then au else (if aq>aA then aq else aA)):Int)<=a1))) w0)
 (R false w0)):ah 99 #[.agg #[aA,aq,au],a1] w R:=
 cq bV Tryz.func99 h
theorem acn.vc(h:
 Aw w #[aA,aq,au] 28 λw0=>
 Aw w0 #[aa,aa,aa] 41 λw1=>
 ah 152 #[aA] w1.drew (Ri λx3 w2=>K2 w w0 w1.drew w2 (
 ag w2 (some ⟨w,2,none⟩) 0 [au]/\ag w2 (some ⟨w,1,none⟩) 0 [aq]/\ah 152 #[aq] w2 (Ri λx5 w4=>K2 w w0 w2 w4 (
 ag w4 (some ⟨w,2,none⟩) 0 [au]/\ah 152 #[au] w4 (Ri λx7 w6=>K2 w w0 w4 w6 (
 Sw w6 w0 #[x3,x5,x7] λw8=>
 R (Value.agg #[x3,x5,x7]) w8))))))):ah 101 #[.agg #[aA,aq,au]] w R:=
 cq bV Tryz.func101 h
theorem T4.vc{a0:Value}{a2:Value}(h:
 Aw w #[ak,ao,aw,bz,bT,bR] 107 λw0=>
 ah 153 #[a0,.agg #[ak,ao,aw,bz,bT,bR],a2] w0 (λe w1=>∃(x2 x3 x4:Int)(b5:Bool),e=Value.tuple #[.agg #[x2,x3,x4],b5]/\Kp w w0 w1/\
 Aw w1 #[aa,aa,aa] 41 λw6=>
 Sw w6 w1 #[x2,x3,x4] λw7=>
 R b5 w7)):ah 102 #[a0,.agg #[ak,ao,aw,bz,bT,bR],a2] w R:=
 cq bV Tryz.func102 h
theorem TN.vc(h:
 Aw w #[aA,aq,au] 28 λw0=>
 Aw w0 #[aa,aa,aa,aa,aa,aa] 107 λw1=>
 Aw w1 #[aa,aa,aa] 28 λw2=>
 Sw w2 w1 #[(aj (Int.tdiv (if 0>a1 then 0 else a1) 2)),aa,(aj (Int.tdiv (if 0>a1 then 0 else a1) 2))] λw3=>
 (ah 154 #[.agg #[aA,aq,au],.agg #[(aj (Int.tdiv (if 0>a1 then 0 else a1) 2)),aa,(aj (Int.tdiv (if 0>a1 then 0 else a1) 2))]] w3.drew (iC λx5 x6 x7 w4=>K3 w w0 w1 w3.drew w4 (
 ag w4 w 0 [aA,aq,au]/\ah 145 #[.agg #[aA,aq,au],.agg #[(aj (Int.tdiv (if 0>a1 then 0 else a1) 2)),.int .i64 (if 0>a2 then 0 else a2),(aj (Int.tdiv (if 0>a1 then 0 else a1) 2))]] w4 (iC λx9 bh bC w8=>K3 w w0 w1 w4 w8 (
 Sw w8 w0 #[x5,x6,x7,x9,bh,bC] λcR=>
 R (Value.agg #[x5,x6,x7,x9,bh,bC]) cR)))))/\(ah 154 #[.agg #[aA,aq,au],.agg #[(aj (Int.tdiv (if 0>a1 then 0 else a1) 2)),aa,(aj (Int.tdiv (if 0>a1 then 0 else a1) 2))]] w3.drew (iC λbX cA cD bJ=>K3 w w0 w1 w3.drew bJ (
 ag bJ w 0 [aA,aq,au]/\ah 145 #[.agg #[aA,aq,au],.agg #[(aj (Int.tdiv (if 0>a1 then 0 else a1) 2)),.int .i64 (if 0>a2 then 0 else a2),(aj (Int.tdiv (if 0>a1 then 0 else a1) 2))]] bJ (iC λcp cn cW cL=>K3 w w0 w1 bJ cL (
 Sw cL w0 #[bX,cA,cD,cp,cn,cW] λeK=>
 R (Value.agg #[bX,cA,cD,cp,cn,cW]) eK)))))):ah 104 #[.agg #[aA,aq,au],a1,a2] w R:=
 cq bV Tryz.func104 h
theorem KU.vc(h:
 Aw w #[aA,aq,au,aS,aT,aW] 107 λw0=>
 Aw w0 #[aa,aa,aa,aa,aa,aa] 107 λw1=>
 ah 156 #[aq,(1:Int)] w1.drew (Ri λx3 w2=>K2 w w0 w1.drew w2 (
 ag w2 (some ⟨w,3,none⟩) 0 [aS,aT,aW]/\ag w2 w 0 [aA,aq,au]/\ah 155 #[.agg #[aA,aq,au],(1:Int),x3] w2 (iC λx5 x6 x7 w4=>K2 w w0 w2 w4 (
 ag w4 (some ⟨w,3,none⟩) 0 [aS,aT,aW]/\ah 155 #[.agg #[aS,aT,aW],(1:Int),aq] w4 (iC λx9 bh bC w8=>K2 w w0 w4 w8 (
 Sw w8 w0 #[x5,x6,x7,x9,bh,bC] λcR=>
 R (Value.agg #[x5,x6,x7,x9,bh,bC]) cR))))))):ah 105 #[.agg #[aA,aq,au,aS,aT,aW]] w R:=
 cq bV Tryz.func105 h
theorem ade.vc(h:
 Aw w #[aA,aq,au] 28 λw0=>
 Aw w0 #[ak,ao,aw] 28 λw1=>
 Aw w1 #[aa,aa,aa] 28 λw2=>
 ah 203 #[.agg #[aA,aq,au],.func (.func 204) #[] #[.pointer (some ⟨w0,0,none⟩)]] w2 (iC λx4 x5 x6 w3=>K2 w w1 w2 w3 (
 Sw w3 w1 #[x4,x5,x6] λw7=>
 R (Value.agg #[x4,x5,x6]) w7))):ah 145 #[.agg #[aA,aq,au],.agg #[ak,ao,aw]] w R:=
 cq bV Tryz.func145 h
theorem MD.vc(h:
 ah 214 #[a0] w (λe w0=>∃(x1:Int),e=x1/\
 R (Value.int .i64 ((x1:Int).fdiv (2 ^(min (16:Int).toNat 64)))) w0)):ah 152 #[a0] w R:=
 cq bV Tryz.func152 h
theorem PH.vc{a0:Value}{a2:Value}(h:
 aP (j9 a0) (
 Aw w #[a0] 65 λw0=>
 Aw w0 #[ak,ao,aw,bz,bT,bR] 107 λw1=>
 aP (j9 a2) (
 Aw w1 #[a2] 180 λw2=>
 Aw w2 #[aa,aa,aa] 41 λw3=>
 Aw w3 #[false] 4 λw4=>
 ah 215 #[.agg #[ak,ao,aw,bz,bT,bR]] w4 (Rv λv6 w5=>K5 w w0 w1 w2 w3 w4 w5 (
 ∃(xs7:List (LV))(Rd8 F9:Nat->Prop)(CI:Nat->(Nat->Prop)->Int->Int->Int->Bool->World->Prop)(X11:Option Nat->(Nat->Prop)->Int->Int->Int->Bool->World->Prop),
 (∀x ∈ xs7,∃(bN cm bX:Int),x=[.agg #[.int .i64 bN,.int .i64 cm,.int .i64 bX]])/\
 (∀(n15:Nat)(F16:Nat->Prop)(cY cp cn:Int)(b20:Bool)(eK dT:World),CI n15 F16 cY cp cn b20 eK->Below w5 eK dT->(∀i,F16 i->dT.heap[i]? =eK.heap[i]?)->CI n15 F16 cY cp cn b20 dT)/\
 (∀(n23:Option Nat)(F24:Nat->Prop)(dQ fy fE:Int)(Od:Bool)(dR fu:World),X11 n23 F24 dQ fy fE Od dR->Below w5 dR fu->(∀i,F24 i->fu.heap[i]? =dR.heap[i]?)->X11 n23 F24 dQ fy fE Od fu)/\
 (∀(S0:Nat)(F32:Nat->Prop)(eF g8 kv:Int)(b36:Bool)(ie:World),CI S0 F32 eF g8 kv b36 ie->∀i,F32 i->i<ie.heap.size/\i≠w5.heap.size/\i≠w5.heap.size+1)/\
 (∀(n38:Option Nat)(F39:Nat->Prop)(mc kI lh:Int)(M7:Bool)(ko:World),X11 n38 F39 mc kI lh M7 ko->∀i,F39 i->i<ko.heap.size/\i≠w5.heap.size/\i≠w5.heap.size+1)/\
 (∀i,Rd8 i->i<w5.heap.size/\¬F9 i/\i≠w.heap.size/\i≠w0.heap.size/\i≠w1.heap.size/\i≠w2.heap.size/\i≠w3.heap.size/\True)/\
 (∀AX:World,KO w5 w5 AX->Iter Tryz.prog (v6) AX Rd8 xs7/\aO [a0]/\aO [ak,ao,aw,bz,bT,bR]/\aO [a2]/\CI 0 F9 (0) (0) (0) false AX)/\
 (∀(n46:Nat)(F47:Nat->Prop)(aAG:Nat->Value)(zi tX mH:Int)(b52:Bool)(iV pE kC:Int)(pH:World),xs7[n46]? =some [.agg #[.int .i64 iV,.int .i64 pE,.int .i64 kC]]->CI n46 F47 zi tX mH b52 pH->
 Aw pH #[aa,aa,aa] 41 λkr=>
 Sw kr pH #[iV,pE,kC] λxh=>
 Below pH pH xh/\∀mR:World,Rec (w5.heap.size+1) xh mR->CI n46 F47 zi tX mH b52 mR->
 cr Tryz.prog a0 [.agg #[iV,pE,kC]] mR.drew (Ri λov mQ=>K6 w w0 w1 w2 w3 pH mR.drew mQ (
 ag mQ (some ⟨w1,0,none⟩) 0 [a2]/\cr Tryz.prog a2 [ov] mQ (Rb λb63 il=>K6 w w0 w1 w2 w3 pH mQ il (
 Br b63
 (Sw il w2 #[iV,pE,kC] λsO=>
 Sw sO w3 #[true] λGL=>
 true=true/\∃F66:Nat->Prop,(aO [a0]/\aO [ak,ao,aw,bz,bT,bR]/\aO [a2]/\X11 none F66 iV pE kC true GL)/\Step (λi=>(F47 i\/i ∈([w.heap.size,w0.heap.size,w1.heap.size,w2.heap.size,w3.heap.size]:List Nat))\/pH.heap.size<=i) (λi=>F66 i\/i ∈([w.heap.size,w0.heap.size,w1.heap.size,w2.heap.size,w3.heap.size]:List Nat)) mR GL)
 (∃F67:Nat->Prop,(aO [a0]/\aO [ak,ao,aw,bz,bT,bR]/\aO [a2]/\CI (n46+1) F67 zi tX mH b52 il)/\Step (λi=>(F47 i\/i ∈([w.heap.size,w0.heap.size,w1.heap.size,w2.heap.size,w3.heap.size]:List Nat))\/pH.heap.size<=i) (λi=>F67 i\/i ∈([w.heap.size,w0.heap.size,w1.heap.size,w2.heap.size,w3.heap.size]:List Nat)) mR il))))))/\
 (∀(F68:Nat->Prop)(aAI:Nat->Value)(nG mj ml:Int)(b73:Bool)(lD:World),CI xs7.length F68 nG mj ml b73 lD->lD.heap[w5.heap.size]? =some (.deferred (some []))->
 Sw lD w2 #[aa,aa,aa] λqD=>
 Sw qD w3 #[false] λjt=>
 jt.heap[w5.heap.size]? =some (.deferred (some []))/\∀rJ:World,Rec w5 jt rJ->
 R (Value.tuple #[.agg #[aa,aa,aa],false]) rJ)/\
 (∀(F78:Nat->Prop)(aqT:Nat->Value)(uy sK qG:Int)(b83:Bool)(JP:World),X11 none F78 uy sK qG b83 JP->JP.heap[w5.heap.size]? =some (.deferred (some []))->
 JP.heap[w5.heap.size]? =some (.deferred (some []))/\∀WZ:World,Rec w5 JP WZ->
 R (Value.tuple #[.agg #[uy,sK,qG],b83]) WZ)))))):ah 153 #[a0,.agg #[ak,ao,aw,bz,bT,bR],a2] w R:=
 cq ⟨[],[],[(3,⟨[],[(3,[.int .i64,.int .i64,.int .i64]),(4,[.bool])],[]⟩,[.agg [.int .i64,.int .i64,.int .i64]])]⟩ Tryz.func153 h
theorem adf.vc(h:
 Aw w #[aA,aq,au] 28 λw0=>
 Aw w0 #[ak,ao,aw] 28 λw1=>
 Aw w1 #[aa,aa,aa] 28 λw2=>
 ah 203 #[.agg #[aA,aq,au],.func (.func 216) #[] #[.pointer (some ⟨w0,0,none⟩)]] w2 (iC λx4 x5 x6 w3=>K2 w w1 w2 w3 (
 Sw w3 w1 #[x4,x5,x6] λw7=>
 R (Value.agg #[x4,x5,x6]) w7))):ah 154 #[.agg #[aA,aq,au],.agg #[ak,ao,aw]] w R:=
 cq bV Tryz.func154 h
theorem Zz.vc(h:
 Aw w #[aA,aq,au] 28 λw0=>
 Aw w0 #[a1] 3 λw1=>
 Aw w1 #[a2] 3 λw2=>
 Aw w2 #[aa,aa,aa] 28 λw3=>
 ah 203 #[.agg #[aA,aq,au],.func (.func 217) #[] #[.pointer (some ⟨w0,0,none⟩),.pointer (some ⟨w1,0,none⟩)]] w3 (iC λx5 x6 x7 w4=>K2 w w2 w3 w4 (
 Sw w4 w2 #[x5,x6,x7] λw8=>
 R (Value.agg #[x5,x6,x7]) w8))):ah 155 #[.agg #[aA,aq,au],a1,a2] w R:=
 cq bV Tryz.func155 h
theorem VD.vc(h:
 ah 214 #[a0] w (λe w0=>∃(x1:Int),e=x1/\
 ah 214 #[a1] w0 (λe w2=>∃(x3:Int),e=x3/\
 ah 214 #[(aj (x1-x3))] w2 (λe w4=>∃(x5:Int),e=x5/\
 R x5 w4)))):ah 156 #[a0,a1] w R:=
 cq bV Tryz.func156 h
theorem Zw.vc(h:
 R ((aj ((if 2147483648<(if (-2147483648)>a0 then (-2147483648) else a0) then 2147483648 else (if (-2147483648)>a0 then (-2147483648) else a0))*2 ^(min (16:Int).toNat 64)))) w):ah 174 #[a0] w R:=
 cq bV Tryz.func174 h
theorem sD.vc{a0:Sl}{a1:Value}(h:
 ∃I0:Nat->Int->World->Prop,
 (∃n1,I0 n1 (0) w)/\
 ∀(n1:Nat)(wX:Nat->Value)(x3:Int)(w4:World),I0 n1 x3 w4->
 Br (decide (x3<((a0.n:Nat):Int)))
 (eo a0.a x3 a0.n/\∃(p6:Option Addr),ld w4 (af a0.a ((x3:Int).toNat*1))=some (.pointer p6)/\
 cr Tryz.prog a1 [.pointer p6] w4 (λe w7=>∃(b8:Bool),e=b8/\
 Br b8
 (R x3 w7)
 (∃n5,n5<n1/\I0 n5 ((aj (x3+1))) w7)))
 (R (Value.int .i64 (-1)) w4)):ah 175 #[a0,a1] w R:=
 cq ⟨[(2,⟨[(8,.int .i64)],[],[]⟩)],[],[]⟩ Tryz.func175 h
theorem Zy.vc(h:
 Aw w #[aA,aq,au] 28 λw0=>
 Br (a1<0)
 (R (0:Int) w0)
 (Br (a1>=3)
 (R (0:Int) w0)
 (ah 245 #[w] w0 (λe w1=>∃(p2 p3 p4:Option Addr),e=Value.agg #[p2,p3,p4]/\
 ((0:Int)<=a1/\a1<((3:Nat):Int))/\∃(p5:Option Addr),([.pointer p2,p3,p4]:LV)[(a1:Int).toNat*1]? =some (.pointer p5)/\
 aP (dv p5) (∃(x6:Int),ld w1 p5=some (.int .i64 x6)/\
 R x6 w1))))):ah 178 #[.agg #[aA,aq,au],a1] w R:=
 cq bV Tryz.func178 h
theorem Zx.vc{a1:Value}(h:
 Aw w #[aA,aq,au] 28 λw0=>
 Aw w0 #[aa,aa,aa] 28 λw1=>
 ah 245 #[w] w1 (λe w2=>∃(p3 p4 p5:Option Addr),e=Value.agg #[p3,p4,p5]/\Kp w0 w1 w2/\
 ∃I6:Nat->Int->World->Prop,
 (∃n7,aO [aa,aa,aa]/\I6 n7 (0) w2)/\
 ∀(n7:Nat)(us8:Nat->Value)(x9:Int)(bO:World),I6 n7 x9 bO->
 Br (x9<3)
 (((0:Int)<=x9/\x9<((3:Nat):Int))/\∃(oF:Option Addr),([.pointer p3,p4,p5]:LV)[(x9:Int).toNat*1]? =some (.pointer oF)/\
 aP (dv oF) (∃(cm:Int),ld bO oF=some (.int .i64 cm)/\
 cr Tryz.prog a1 [x9,cm] bO (Ri λcA bP=>Kp w0 bO bP/\
 aP (dv oF) (((oF).isSome=true/\Wr bP oF 1)/\Nq oF w0/\(∀cJ,cJ=aH bP oF [cA]->
 ∃sb,sb<n7/\aO [aa,aa,aa]/\I6 sb ((aj (x9+1))) cJ)))))
 (∃(cY cp cn:Int),ag bO w 0 [cY,cp,cn]/\
 Sw bO w0 #[cY,cp,cn] λfx=>
 R (Value.agg #[cY,cp,cn]) fx))):ah 203 #[.agg #[aA,aq,au],a1] w R:=
 cq ⟨[(2,⟨[(8,.int .i64)],[],[]⟩)],[],[]⟩ Tryz.func203 h
theorem VH.vc{c0:Addr}(h:
 ∃(x0 x1 x2:Int),ag w (some c0) 0 [x0,x1,x2]/\
 ah 178 #[.agg #[x0,x1,x2],a0] w (λe w3=>∃(x4:Int),e=x4/\
 ah 205 #[a1,x4] w3 (λe w5=>∃(x6:Int),e=x6/\
 R x6 w5))):ah 204 #[a0,a1,c0] w R:=
 cq bV Tryz.func204 h
theorem VC.vc(h:
 ah 214 #[a0] w (λe w0=>∃(x1:Int),e=x1/\
 ah 214 #[a1] w0 (λe w2=>∃(x3:Int),e=x3/\
 ah 214 #[(aj (x1+x3))] w2 (λe w4=>∃(x5:Int),e=x5/\
 R x5 w4)))):ah 205 #[a0,a1] w R:=
 cq bV Tryz.func205 h
theorem VA.vc(h:
 R (Value.int .i64 (if 140737488355328<(if (-140737488355328)>a0 then (-140737488355328) else a0) then 140737488355328 else (if (-140737488355328)>a0 then (-140737488355328) else a0))) w):ah 214 #[a0] w R:=
 cq bV Tryz.func214 h
theorem PG.vc(h:
 Aw w #[aA,aq,au,aS,aT,aW] 107 λw0=>
 R (Value.func (.func 265) #[] #[w]) w0):ah 215 #[.agg #[aA,aq,au,aS,aT,aW]] w R:=
 cq bV Tryz.func215 h
theorem VJ.vc{c0:Addr}(h:
 ∃(x0 x1 x2:Int),ag w (some c0) 0 [x0,x1,x2]/\
 ah 178 #[.agg #[x0,x1,x2],a0] w (λe w3=>∃(x4:Int),e=x4/\
 ah 156 #[a1,x4] w3 (λe w5=>∃(x6:Int),e=x6/\
 R x6 w5))):ah 216 #[a0,a1,c0] w R:=
 cq bV Tryz.func216 h
theorem QN.vc{c0:Addr}{c1:Addr}(h:
 ∃(x0:Int),ld w (some c0)=some (.int .i64 x0)/\
 Br (a0==x0)
 (∃(x1:Int),ld w (some c1)=some (.int .i64 x1)/\
 ah 214 #[x1] w (λe w2=>∃(x3:Int),e=x3/\
 R x3 w2))
 (R a1 w)):ah 217 #[a0,a1,c0,c1] w R:=
 cq bV Tryz.func217 h
theorem VF.vc{a0:Addr}(h:
 Aw w #[.pointer none,.pointer none,.pointer none] 306 λw0=>
 Wt w0.drew ⟨w,0,none⟩ 3/\(∀w1,w1=aH w0.drew w [.pointer (af (some a0) 0),.pointer (af (some a0) 1),.pointer (af (some a0) 2)]->
 ∃(p2 p3 p4:Option Addr),ag w1 w 0 [.pointer p2,p3,p4]/\
 R (Value.agg #[p2,p3,p4]) w1)):ah 245 #[a0] w R:=
 cq bV Tryz.func245 h
theorem QK.vc(h:
 ah 214 #[a0] w (λe w0=>∃(x1:Int),e=x1/\
 R (Value.int .i64 (nL .i64 x1 65535)) w0)):ah 258 #[a0] w R:=
 cq bV Tryz.func258 h
theorem JG.vc{a0:Value}{c0:Addr}(h:
 ∃(x0 x1 x2 x3 x4 x5:Int),ag w (some c0) 0 [x0,x1,x2,x3,x4,x5]/\
 ah 266 #[.agg #[x0,x1,x2,x3,x4,x5]] w (λe w6=>∃(x7 x8 x9 bh bC bN:Int)(Fg:Bool),e=Value.tuple #[.agg #[x7,x8,x9],.agg #[bh,bC,bN],Fg]/\
 Aw w6 #[aa,aa,aa] 41 λbP=>
 Aw bP #[aa,aa,aa] 41 λeA=>
 Sw eA w6 #[x7,x8,x9] λcJ=>
 Sw cJ bP #[bh,bC,bN] λcL=>
 ∃I18:Nat->Int->World->Prop,
 (∃n19,aO [x7,x8,x9]/\aO [bh,bC,bN]/\I18 n19 x8 cL)/\
 ∀(n19:Nat)(aqB:Nat->Value)(dh:Int)(dT:World),I18 n19 dh dT->
 Br Fg
 (Br (dh<=bC)
 (∃I24:Nat->Int->World->Prop,
 (∃n25,aO [x7,x8,x9]/\aO [bh,bC,bN]/\I24 n25 x9 dT)/\
 ∀(n25:Nat)(aAK:Nat->Value)(fE:Int)(gN:World),I24 n25 fE gN->
 Br (fE<=bN)
 (∃I30:Nat->Int->World->Prop,
 (∃S0,aO [x7,x8,x9]/\aO [bh,bC,bN]/\I30 S0 x7 gN)/\
 ∀(S0:Nat)(apO:Nat->Value)(eF:Int)(jc:World),I30 S0 eF jc->
 Br (eF<=bh)
 (cr Tryz.prog a0 [.agg #[eF,dh,fE]] jc (Rb λb37 jW=>K2 w6 bP jc jW (
 Br (!b37)
 (R sY jW)
 (∃CD,CD<S0/\aO [x7,x8,x9]/\aO [bh,bC,bN]/\I30 CD ((aj (eF+1))) jW))))
 (∃W6,W6<n25/\aO [x7,x8,x9]/\aO [bh,bC,bN]/\I24 W6 ((aj (fE+1))) jc))
 (∃n23,n23<n19/\aO [x7,x8,x9]/\aO [bh,bC,bN]/\I18 n23 ((aj (dh+1))) gN))
 (R sY dT))
 (R sY dT))):ah 265 #[a0,c0] w R:=
 cq ⟨[(8,⟨[(8,.int .i64)],[],[]⟩),(5,⟨[(7,.int .i64)],[],[]⟩),(2,⟨[(6,.int .i64)],[],[]⟩)],[],[]⟩ Tryz.func265 h
theorem TR.vc(h:
 Aw w #[aA,aq,au,aS,aT,aW] 107 λw0=>
 Aw w0 #[aa,aa,aa] 41 λw1=>
 Aw w1 #[aa,aa,aa] 41 λw2=>
 ah 101 #[.agg #[aA,aq,au]] w2 (iC λx4 x5 x6 w3=>K3 w w0 w1 w2 w3 (
 Aw w3 #[aa,aa,aa] 41 λw7=>
 Sw w7 w3 #[x4,x5,x6] λw8=>
 ah 145 #[.agg #[aS,aT,aW],.agg #[(-1:Int),(-1:Int),(-1:Int)]] w8 (iC λbh bC bN w9=>K4 w w0 w1 w3 w8 w9 (
 ah 101 #[.agg #[bh,bC,bN]] w9 (iC λbX cA cD bJ=>K4 w w0 w1 w3 w9 bJ (
 Aw bJ #[aa,aa,aa] 41 λcL=>
 Sw cL bJ #[bX,cA,cD] λdG=>
 ∃I19:Nat->Int->World->Prop,
 (∃Q3,aO [aA,aq,au,aS,aT,aW]/\aO [aa,aa,aa]/\aO [aa,aa,aa]/\aO [x4,x5,x6]/\aO [bX,cA,cD]/\I19 Q3 (0) dG)/\
 ∀(Q3:Nat)(arE:Nat->Value)(dN:Int)(eh:World),I19 Q3 dN eh->
 Br (dN<3)
 (ah 178 #[.agg #[aA,aq,au],dN] eh.drew (Ri λfy cU=>K5 w w0 w1 w3 bJ eh.drew cU (
 ag cU (some ⟨w,3,none⟩) 0 [aS,aT,aW]/\ah 178 #[.agg #[aS,aT,aW],dN] cU (Ri λg7 eH=>K5 w w0 w1 w3 bJ cU eH (
 Br (fy==g7)
 (ah 258 #[fy] eH (Ri λjD dR=>K5 w w0 w1 w3 bJ eH dR (
 Br (jD==0)
 (Sw dR w0 #[aa,aa,aa] λfJ=>
 Sw fJ w1 #[aa,aa,aa] λlv=>
 R (Value.tuple #[.agg #[aa,aa,aa],.agg #[aa,aa,aa],false]) lv)
 (∃n24,n24<Q3/\aO [aA,aq,au,aS,aT,aW]/\aO [aa,aa,aa]/\aO [aa,aa,aa]/\aO [x4,x5,x6]/\aO [bX,cA,cD]/\I19 n24 ((aj (dN+1))) dR))))
 (∃n24,n24<Q3/\aO [aA,aq,au,aS,aT,aW]/\aO [aa,aa,aa]/\aO [aa,aa,aa]/\aO [x4,x5,x6]/\aO [bX,cA,cD]/\I19 n24 ((aj (dN+1))) eH))))))
 (ah 293 #[aA,aS,x4,bX] eh.drew (Ri λg8 eM=>K5 w w0 w1 w3 bJ eh.drew eM (
 ag eM (some ⟨bJ,2,none⟩) 0 [cD]/\ag eM (some ⟨w3,2,none⟩) 0 [x6]/\ag eM (some ⟨w,5,none⟩) 0 [aW]/\ag eM (some ⟨w,2,none⟩) 0 [au]/\ag eM (some ⟨bJ,1,none⟩) 0 [cA]/\ag eM (some ⟨w3,1,none⟩) 0 [x5]/\ag eM (some ⟨w,4,none⟩) 0 [aT]/\ag eM (some ⟨w,1,none⟩) 0 [aq]/\ah 293 #[aq,aT,x5,cA] eM (Ri λnk jK=>K5 w w0 w1 w3 bJ eM jK (
 ag jK (some ⟨bJ,2,none⟩) 0 [cD]/\ag jK (some ⟨w3,2,none⟩) 0 [x6]/\ag jK (some ⟨w,5,none⟩) 0 [aW]/\ag jK (some ⟨w,2,none⟩) 0 [au]/\ah 293 #[au,aW,x6,cD] jK (Ri λgA ie=>K5 w w0 w1 w3 bJ jK ie (
 Sw ie bJ #[g8,cA,cD] λjX=>
 Sw jX bJ #[g8,nk,cD] λjr=>
 Sw jr bJ #[g8,nk,gA] λgO=>
 Sw gO.drew w0 #[x4,x5,x6] λku=>
 ag ku (some ⟨bJ,0,none⟩) 0 [g8,nk,gA]/\Sw ku w1 #[g8,nk,gA] λjd=>
 R (Value.tuple #[.agg #[x4,x5,x6],.agg #[g8,nk,gA],true]) jd)))))))))))))):ah 266 #[.agg #[aA,aq,au,aS,aT,aW]] w R:=
 cq ⟨[(4,⟨[(19,.int .i64)],[],[]⟩)],[],[]⟩ Tryz.func266 h
theorem KT.vc(h:
 Br (a0==a1)
 (R a2 w)
 (R a3 w)):ah 293 #[a0,a1,a2,a3] w R:=
 cq bV Tryz.func293 h
theorem QU.vc{a0:Addr}(h:
 ah 19 #[a0] w (λe w0=>∃(p1:Option Addr),e=p1/\
 Br (p1).isNone
 (R false w0)
 (∃I2:Nat->Int->World->Prop,
 (∃n3,I2 n3 ((-1)) w0)/\
 ∀(n3:Nat)(us4:Nat->Value)(x5:Int)(w6:World),I2 n3 x5 w6->
 Br (x5<2)
 (∃I8:Nat->Int->World->Prop,
 (∃n9,I8 n9 ((-1)) w6)/\
 ∀(n9:Nat)(Wv:Nat->Value)(bC:Int)(cR:World),I8 n9 bC cR->
 Br (bC<2)
 (ah 20 #[p1,.agg #[x5,bC]] cR (λe bP=>∃(cA:Int),e=cA/\
 Br (cA !=0)
 (R false bP)
 (∃n13,n13<n9/\I8 n13 ((aj (bC+1))) bP)))
 (∃n7,n7<n3/\I2 n7 ((aj (x5+1))) cR))
 (R true w6)))):ah 42 #[a0] w R:=
 cq ⟨[(8,⟨[(5,.int .i64)],[],[]⟩),(5,⟨[(4,.int .i64)],[],[]⟩)],[],[]⟩ Tryz.func42 h
theorem MV.vc(h:
 ah 38 #[.agg #[a0,a2,(1000000:Int),a1]] w (λe w0=>∃(p1:Option Addr),e=p1/\
 ah 39 #[a0,a2,(1000000:Int)] w0 (λe w2=>∃(p3:Option Addr),e=p3/\
 Br (p1).isNone
 (R (Value.tuple #[.pointer none,.pointer none]) w2)
 (Br (p3).isNone
 (R (Value.tuple #[.pointer none,.pointer none]) w2)
 (ah 40 #[p3,a1] w2 (λe w4=>∃(p5:Option Addr),e=p5/\
 Br (p5).isNone
 (R (Value.tuple #[.pointer none,.pointer none]) w4)
 (aP (dv p1) (aP (dv p1) (∃(p6:Option Addr),ld w4 (af p1 0)=some (.pointer p6)/\
 ah 18 #[p6] w4 (λe w7=>∃(p8:Option Addr),e=p8/\
 Br (p8).isNone
 (R (Value.tuple #[.pointer none,.pointer none]) w7)
 (ah 41 #[p1] w7 (λe w9=>∃(Ih:Option Addr),e=Ih/\
 Br (Ih).isNone
 (R (Value.tuple #[.pointer none,.pointer none]) w9)
 (ah 27 #[p3] w9 (λe aY=>∃(v12:Value),e=v12/\
 aP (fnC v12) (Br (Ip v12)
 (R (Value.tuple #[.pointer none,.pointer none]) aY)
 (aP (dv p1) (aP (dv p1) (∃(Nx:Option Addr),ld aY (af p1 0)=some (.pointer Nx)/\
 ah 18 #[Nx] aY (λe bP=>∃(Rr:Option Addr),e=Rr/\
 ah 27 #[Rr] bP (λe cJ=>∃(v17:Value),e=v17/\
 aP (fnC v17) (Br (Ip v17)
 (R (Value.tuple #[.pointer none,.pointer none]) cJ)
 (ah 42 #[p3] cJ (λe dG=>∃(b19:Bool),e=b19/\
 Br (!b19)
 (R (Value.tuple #[.pointer none,.pointer none]) dG)
 (aP (dv p1) (aP (dv p1) (∃(p20:Option Addr),ld dG (af p1 0)=some (.pointer p20)/\
 ah 18 #[p20] dG (λe eK=>∃(p22:Option Addr),e=p22/\
 ah 42 #[p22] eK (λe eh=>∃(Z4:Bool),e=Z4/\
 Br (!Z4)
 (R (Value.tuple #[.pointer none,.pointer none]) eh)
 ((((0:Int)<=16/\(16:Int)<=16/\(16:Int)<=140737488355328/\(16:Int)*104<=140737488355328)/\(∀cU,cU=eh.drew.alloc (.cells (bu [.bool false,aa,aa,aa,aa,aa,aa,aa,aa,false,aa,aa,false] (16:Int).toNat).toArray 117)->
 ((Aw cU #[p3,p5,.slice (some ⟨eh.drew.heap.size,0,none⟩) (16:Int).toNat (16:Int).toNat] 101 λfi=>
 R (Value.tuple #[p1,.pointer (some ⟨cU,0,none⟩)]) fi)/\(Aw cU #[p3,p5,.slice (some ⟨eh.drew.heap.size,0,none⟩) (16:Int).toNat (16:Int).toNat] 101 λeH=>
 R (Value.tuple #[p1,.pointer (some ⟨cU,0,none⟩)]) eH))/\(Aw cU #[p3,p5,.slice (some ⟨eh.drew.heap.size,0,none⟩) (16:Int).toNat (16:Int).toNat] 101 λgN=>
 R (Value.tuple #[p1,.pointer (some ⟨cU,0,none⟩)]) gN)))/\(((0:Int)<=16/\(16:Int)<=16/\(16:Int)<=140737488355328/\(16:Int)*104<=140737488355328)/\(∀dR,dR=eh.drew.alloc (.cells (bu [.bool false,aa,aa,aa,aa,aa,aa,aa,aa,false,aa,aa,false] (16:Int).toNat).toArray 117)->
 Aw dR #[p3,p5,.slice (some ⟨eh.drew.heap.size,0,none⟩) (16:Int).toNat (16:Int).toNat] 101 λfu=>
 R (Value.tuple #[p1,.pointer (some ⟨dR,0,none⟩)]) fu))))))))))))))))))))))))))))))):ah 9 #[a0,a1,a2] w R:=
 cq bV Tryz.func9 h
theorem MW.vc(h:
 ah 38 #[.agg #[aa,(1:Int),aa,aa]] w (λe w0=>∃(p1:Option Addr),e=p1/\
 Br (p1).isNone
 (R false w0)
 (ah 11 #[p1,.agg #[aa,aa,aa],(100:Int),(100:Int)] w0 (λe w2=>∃(x3 x4:Int),e=Value.tuple #[x3,x4]/\
 Br (x3==(-1))
 (R (Value.bool (x4==11)) w2)
 (R false w2))))):ah 14 #[] w R:=
 cq bV Tryz.func14 h
open Go.jV
abbrev eu:TypeId:=28
abbrev qQ(b:Bx):Value:=.agg #[b.1.1,b.1.2.1,b.1.2.2,b.2.1,b.2.2.1,b.2.2.2]
theorem ao2(n:Int):(if 140737488355328<(if (-140737488355328)>n then (-140737488355328) else n) then 140737488355328 else (if (-140737488355328)>n then (-140737488355328) else n))=dB n:=by
 unfold dB
 repeat' split
 all_goals omega
theorem gn(n:Int)(w:World):ah 214 #[n] w λe w'=>e=Value.int .i64 (dB n)/\w'=w:=by apply VA.vc;exact ⟨by rw [ao2],rfl⟩
theorem VB(a b:Int)(w:World):ah 205 #[a,b] w λe w'=>e=Value.int .i64 (m4 a b)/\w'=w:=by apply VC.vc;refine (gn a w).mono ?_;rintro e w1 ⟨rfl,rfl⟩;refine ⟨_,rfl,(gn b w1).mono ?_⟩;rintro e w2 ⟨rfl,rfl⟩;have h1:=jH a;have h2:=jH b;refine ⟨_,rfl,?_⟩;rw [wI];refine (gn _ w2).mono ?_;rintro e w3 ⟨rfl,rfl⟩;exact ⟨_,rfl,rfl,rfl⟩
theorem Hp(a b:Int)(w:World):ah 156 #[a,b] w λe w'=>e=Value.int .i64 (qd a b)/\w'=w:=by apply VD.vc;refine (gn a w).mono ?_;rintro e w1 ⟨rfl,rfl⟩;refine ⟨_,rfl,(gn b w1).mono ?_⟩;rintro e w2 ⟨rfl,rfl⟩;have h1:=jH a;have h2:=jH b;refine ⟨_,rfl,?_⟩;rw [wI];refine (gn _ w2).mono ?_;rintro e w3 ⟨rfl,rfl⟩;exact ⟨_,rfl,rfl,rfl⟩
theorem p16:(2 ^(min (16:Int).toNat 64):Int)=65536:=by decide
theorem nV(n:Int)(w:World):ah 152 #[n] w λe w'=>e=Value.int .i64 (cu n)/\w'=w:=by apply MD.vc;refine (gn n w).mono ?_;rintro e w1 ⟨rfl,rfl⟩;rw [p16];exact ⟨_,rfl,by rw [rT _ aF];rfl,rfl⟩
theorem VE{x:Int}(h: -140737488355328<=x/\x<=140737488355328):nL .i64 x 65535=x % 65536:=by
 unfold nL;have e:(BitVec.ofInt IntKind.i64.bits x &&& BitVec.ofInt IntKind.i64.bits 65535).toNat=(x % 65536).toNat:=by
  show (BitVec.ofInt 64 x &&& BitVec.ofInt 64 65535).toNat=_;rw [BitVec.toNat_and];have h1:(BitVec.ofInt 64 65535).toNat=2 ^ 16-1:=by decide
  rw [h1,Nat.and_two_pow_sub_one_eq_mod,BitVec.toNat_ofInt];omega
 rw [e,Int.toNat_of_nonneg ab];exact wI
theorem zS(n:Int)(w:World):ah 258 #[n] w λe w'=>e=Value.int .i64 (qh n)/\w'=w:=by apply QK.vc;refine (gn n w).mono ?_;rintro e w1 ⟨rfl,rfl⟩;exact ⟨_,rfl,by rw [VE (jH n)];rfl,rfl⟩
theorem qY(n:Int)(w:World):ah 174 #[n] w λe w'=>e=Value.int .i64 (pO n)/\w'=w:=by
 apply Zw.vc;rw [p16];have e:(if 2147483648<(if (-2147483648)>n then (-2147483648) else n) then 2147483648 else (if (-2147483648)>n then (-2147483648) else n))=min (max n (-2147483648)) 2147483648:=by
  repeat' split
  all_goals omega
 rw [e,wI];exact ⟨rfl,rfl⟩
theorem agK(p q r:Option Addr):One [.pointer p,q,r]:=by intro v hv;simp at hv;rcases hv with rfl|rfl|rfl<;>rfl
theorem EX(a:Addr)(w:World):ah 245 #[a] w λe w'=>e=Value.agg #[.pointer (af (some a) 0),.pointer (af (some a) 1),.pointer (af (some a) 2)]/\Ext w w':=by
 apply VF.vc;intro w0 e0;have x0:Ext w w0.drew:=(aL e0).drew;have hr:Row w0.drew w [.pointer none,.pointer none,.pointer none] 306:=by rw [e0];exact (Row.new w [_,_,_] _).ext (Ext.dr _)
 refine ⟨⟨rfl,hr.wr bB⟩,λw1 e1=> ?_⟩;rw [hr.aH (vs:=[.pointer (af (some a) 0),.pointer (af (some a) 1),.pointer (af (some a) 2)]) bB (agK _ _ _),aQ bB] at e1;have hr1:Row w1 w [.pointer (af (some a) 0),.pointer (af (some a) 1),.pointer (af (some a) 2)] 306:=hr.st e1;exact ⟨_,_,_,Lo.wv hr1,rfl,x0.ae e1 (aB _)⟩
def QL(f:Int->Int->Int)(v:Ce)(k:Nat):LV:=[.int .i64 (if 0<k then f 0 v.1 else v.1),.int .i64 (if 1<k then f 1 v.2.1 else v.2.1),.int .i64 (if 2<k then f 2 v.2.2 else v.2.2)]
theorem uw(f:Int->Int->Int)(v:Ce)(fv:Value)(w:World)(hf:∀w',Ext w w'->∀i x:Int,0<=i->i<3->cr Tryz.prog fv [.int .i64 i,.int .i64 x] w' λe w''=>e=Value.int .i64 (f i x)/\Ext w' w''):
  ah 203 #[dY v,fv] w λe w'=>e=(dY (TW f v))/\Ext w w':=by
 apply Zx.vc;intro w0 e0 w1 e1;have x0:=aL e0;have z0:=eG e0;have r0:Row w0 w (QL f v 0) eu:=Row.nw e0;have x1:=aL e1;have z1:=eG e1;refine (EX ⟨w.heap.size,0,none⟩ w1).mono ?_;rintro e w2 ⟨rfl,x2⟩;have z2:=x2.size;refine ⟨_,_,_,rfl,x2.heap ab,λn x wr=>∃k:Nat,x=k/\k+n=3/\Row wr w (QL f v k) eu/\Ext w wr/\w2.heap.size<=wr,⟨3,rfl,0,rfl,rfl,r0.ext (x1.tr x2),x0.tr (x1.tr x2),aB _⟩,?_⟩;rintro n us x wr ⟨k,rfl,hk,hr,xr,zr⟩;have hl:∀k,(QL f v k).length=3:=λ_=>rfl
 have wk:=mz (j:=k);apply Br.mk<;>intro hb
 ·replace hb:=mh hb;have za:k=0\/k=1\/k=2:=by omega
  have step:∀(j:Nat)(y:Int),k=j->j<3->(QL f v j)[j]? =some (.int .i64 y)->aR (QL f v j) j [(f j y)]=QL f v (j+1)->
    aP (dv (af (some ⟨w.heap.size,0,none⟩) j)) (∃(cm:Int),ld wr (af (some ⟨w.heap.size,0,none⟩) j)=some (.int .i64 cm)/\
     cr Tryz.prog fv [.int .i64 (k:Int),cm] wr (λe bP=>∃(cA:Int),e=cA/\bP.heap[w0.heap.size]? =wr.heap[w0.heap.size]?/\
     aP (dv (af (some ⟨w.heap.size,0,none⟩) j)) (((af (some ⟨w.heap.size,0,none⟩) j).isSome=true/\Wr bP (af (some ⟨w.heap.size,0,none⟩) j) 1)/\bD (af (some ⟨w.heap.size,0,none⟩) j)≠some w0.heap.size/\(∀cJ:World,cJ=aH bP (af (some ⟨w.heap.size,0,none⟩) j) [cA]->
     ∃sb,sb<n/\aO [aa,aa,aa]/\∃k':Nat,aj ((k:Int)+1)=k'/\k'+sb=3/\Row cJ w (QL f v k') eu/\Ext w cJ/\w2.heap.size<=cJ)))):=by
   intro j y hj h3 h1 h2;subst hj;refine fU rfl ⟨y,hr.at k h1,ee (hf wr xr k y ab ab) ?_⟩;rintro e bP ⟨rfl,bX⟩;have Wb:=bX.size;have agV:=hr.ext bX;obtain ⟨p1,p2⟩:=agV.je (j:=k) (v:=.int .i64 (f k y)) (by rw [hl];exact h3) rfl;refine ⟨_,rfl,bX.heap ab,fU rfl ⟨⟨rfl,p1⟩,?_,λcJ FP=> ?_⟩⟩
   ·rw [cV];intro q;have q:w.heap.size=w0.heap.size:=by simpa [bD] using q
    omega
   obtain ⟨q1,q2⟩:=p2 cJ FP;rw [h2] at q1;have z16:=q2.size;exact ⟨n-1,by omega,rfl,k+1,wk,by omega,q1,q2.ext (xr.tr bX) λi hi=>by omega,by omega⟩
  refine ⟨⟨by omega,by omega⟩,?_⟩;rcases za with h|h|h
  ·exact ⟨_,by rw [h];rfl,step 0 v.1 h aF rfl rfl⟩
  ·exact ⟨_,by rw [h];rfl,step 1 v.2.1 h aF rfl rfl⟩
  ·exact ⟨_,by rw [h];rfl,step 2 v.2.2 h aF rfl rfl⟩
 ·replace hb:=my hb;have za:k=3:=by omega
  subst za;exact ⟨_,_,_,Lo.wv hr,λfx e20=>⟨rfl,xr.ae e20 ab⟩⟩
theorem dc(v:Ce)(i:Int)(w:World):ah 178 #[dY v,i] w λe w'=>e=Value.int .i64 (db v i)/\Ext w w':=by
 apply Zy.vc;intro w0 e0;have x0:=aL e0;have r0:Row w0 w (dA v) eu:=Row.nw e0;refine Br.mk (λh=> ?_) (λh=>Br.mk (λh2=> ?_) (λh2=>(EX ⟨w.heap.size,0,none⟩ w0).mono ?_))
 ·replace h:=mh h;exact ⟨by unfold db;rw [if_neg ab,if_neg ab,if_neg ab],x0⟩
 ·simp only [cQ,ge_iff_le] at h2;exact ⟨by unfold db;rw [if_neg ab,if_neg ab,if_neg ab],x0⟩
 ·simp only [fa,ge_iff_le] at h h2;rintro e w1 ⟨rfl,x1⟩;have hr:=r0.ext x1;refine ⟨_,_,_,rfl,⟨by omega,by omega⟩,?_⟩;have h3:i=0\/i=1\/i=2:=by omega
  rcases h3 with rfl|rfl|rfl
  ·exact ⟨_,rfl,fU rfl ⟨_,hr.at 0 rfl,rfl,x0.tr x1⟩⟩
  ·exact ⟨_,rfl,fU rfl ⟨_,hr.at 1 rfl,rfl,x0.tr x1⟩⟩
  ·exact ⟨_,rfl,fU rfl ⟨_,hr.at 2 rfl,rfl,x0.tr x1⟩⟩
theorem VG(b:Ce)(i n:Int){g:Nat}{w:World}(hr:Row w g (dA b) eu):ah 204 #[i,n,g] w λe w'=>e=Value.int .i64 (m4 n (db b i))/\Ext w w':=by apply VH.vc;refine ⟨_,_,_,Lo.wv hr,(dc b i w).mono ?_⟩;rintro e w1 ⟨rfl,x1⟩;refine ⟨_,rfl,(VB n _ w1).mono ?_⟩;rintro e w2 ⟨rfl,rfl⟩;exact ⟨_,rfl,rfl,x1⟩
theorem VI(b:Ce)(i n:Int){g:Nat}{w:World}(hr:Row w g (dA b) eu):ah 216 #[i,n,g] w λe w'=>e=Value.int .i64 (qd n (db b i))/\Ext w w':=by apply VJ.vc;refine ⟨_,_,_,Lo.wv hr,(dc b i w).mono ?_⟩;rintro e w1 ⟨rfl,x1⟩;refine ⟨_,rfl,(Hp n _ w1).mono ?_⟩;rintro e w2 ⟨rfl,rfl⟩;exact ⟨_,rfl,rfl,x1⟩
theorem iS(a b:Ce)(w:World):ah 145 #[dY a,dY b] w λe w'=>e=(dY (jU a b))/\Ext w w':=by apply ade.vc;intro w0 e0 w1 e1 w2 e2;have x0:=aL e0;have z0:=eG e0;have x1:=aL e1;have z1:=eG e1;have r1:Row w1 w0 (dA b) eu:=Row.nw e1;have x2:=aL e2;have z2:=eG e2;have yM:=x0.tr (x1.tr x2);refine (uw (λi n=>m4 n (db b i)) a (.func (.func 204) #[] #[w0]) w2 λw' x' i x _ _=>cS (by kernel_rfl) rfl (VG b i x ((r1.ext x2).ext x'))).mono ?_;rintro e w3 ⟨rfl,x3⟩;have z3:=x3.size;exact ⟨_,_,_,rfl,x3.heap ab,x3.heap ab,λw7 e7=>⟨rfl,(yM.tr x3).ae e7 ab⟩⟩
theorem uh(a b:Ce)(w:World):ah 154 #[dY a,dY b] w λe w'=>e=(dY (zO a b))/\Ext w w':=by apply adf.vc;intro w0 e0 w1 e1 w2 e2;have x0:=aL e0;have z0:=eG e0;have x1:=aL e1;have z1:=eG e1;have r1:Row w1 w0 (dA b) eu:=Row.nw e1;have x2:=aL e2;have z2:=eG e2;have yM:=x0.tr (x1.tr x2);refine (uw (λi n=>qd n (db b i)) a (.func (.func 216) #[] #[w0]) w2 λw' x' i x _ _=>cS (by kernel_rfl) rfl (VI b i x ((r1.ext x2).ext x'))).mono ?_;rintro e w3 ⟨rfl,x3⟩;have z3:=x3.size;exact ⟨_,_,_,rfl,x3.heap ab,x3.heap ab,λw7 e7=>⟨rfl,(yM.tr x3).ae e7 ab⟩⟩
theorem QM(ax m i n:Int){g h:Nat}{w:World}{τ:TypeId}(hr:Row w g [ax] τ)(hh:Row w h [m] τ):ah 217 #[i,n,g,h] w λe w'=>e=Value.int .i64 (if i=ax then dB m else n)/\Ext w w':=by
 apply QN.vc;refine ⟨ax,hr.at 0 rfl,Br.mk (λq=>⟨m,hh.at 0 rfl,(gn m w).mono ?_⟩) (λq=> ?_)⟩
 ·rintro e w1 ⟨rfl,rfl⟩;exact ⟨_,rfl,by rw [if_pos (by simpa using q)],Ext.cE _⟩
 ·exact ⟨by rw [if_neg (by simpa using q)],Ext.cE _⟩
theorem iD(v:Ce)(ax m:Int)(w:World):ah 155 #[dY v,ax,m] w λe w'=>e=(dY (iE v ax m))/\Ext w w':=by apply Zz.vc;intro w0 e0 w1 e1 w2 e2 w3 e3;have x0:=aL e0;have z0:=eG e0;have x1:=aL e1;have z1:=eG e1;have r1:Row w1 w0 [ax] 3:=Row.nw e1;have x2:=aL e2;have z2:=eG e2;have r2:Row w2 w1 [m] 3:=Row.nw e2;have x3:=aL e3;have z3:=eG e3;have AK:=x0.tr (x1.tr (x2.tr x3));refine (uw (λi own=>if i=ax then dB m else own) v (.func (.func 217) #[] #[w0,w1]) w3 λw' x' i x _ _=>cS (by kernel_rfl) rfl (QM ax m i x ((r1.ext (x2.tr x3)).ext x') ((r2.ext x3).ext x'))).mono ?_;rintro e w4 ⟨rfl,x4⟩;have z4:=x4.size;exact ⟨_,_,_,rfl,x4.heap ab,x4.heap ab,λw8 e8=>⟨rfl,(AK.tr x4).ae e8 ab⟩⟩
abbrev bF:TypeId:=107
abbrev fV(b:Bx):LV:=[.int .i64 b.1.1,.int .i64 b.1.2.1,.int .i64 b.1.2.2,.int .i64 b.2.1,.int .i64 b.2.2.1,.int .i64 b.2.2.2]
theorem kB{w:World}{g o:Nat}{cs:LV}{τ:TypeId}(hr:Row w g cs τ){v:Value}(h:cs[o]? =some v):ag w (some ⟨g,o,none⟩) 0 [v]:=hr.bZ (o:=o) (λj hj=>by
 match j,hj with
 |0,_=>exact h)
theorem qe{w:World}{g o:Nat}{cs:LV}{τ:TypeId}(hr:Row w g cs τ){x y z:Value}(h:cs[o]? =some x)(h1:cs[o+1]? =some y)(h2:cs[o+2]? =some z):ag w (some ⟨g,o,none⟩) 0 [x,y,z]:=hr.bZ (o:=o) (λj hj=>by
 match j,hj with
 |0,_=>exact h
 |1,_=>exact h1
 |2,_=>exact h2)
theorem aeD{a:Int}(h:inI a):aj (Int.tdiv (if 0>a then 0 else a) 2)=max a 0 / 2:=by
 have e:(if 0>a then 0 else a)=max a 0:=by split<;>omega
 unfold inI at h;rw [e,qb ab,wI]
theorem ajt(a:Int):(if 0>a then 0 else a)=max a 0:=by split<;>omega
theorem Pw(aI:Ce)(wd h:Int)(hw:inI wd)(w:World):ah 104 #[dY aI,wd,h] w λe w'=>e=(qQ (vK aI wd h))/\Ext w w':=by
 apply TN.vc;rw [aeD hw,ajt h];intro w0 e0 w1 e1 w2 e2 w3 e3;have x0:=aL e0;have z0:=eG e0;have r0:Row w0 w (dA aI) eu:=Row.nw e0;have x1:=aL e1;have z1:=eG e1;have x3:Ext w1 w3:=(aL e2).ae e3 (aB _);have z3:=BI e2 e3;have cm:=x1.tr (x3.tr (Ext.dr w3));have zd:=lG w3;constructor
 all_goals
  refine (uh aI (max wd 0 / 2,0,max wd 0 / 2) w3.drew).mono ?_
  rintro e w4 ⟨rfl,x4⟩
  have z4:=x4.size
  refine ⟨_,_,_,rfl,x4.heap ab,x4.heap ab,x4.heap ab,Lo.wv (r0.ext (cm.tr x4)),(iS aI (max wd 0 / 2,max h 0,max wd 0 / 2) w4).mono ?_⟩
  rintro e w8 ⟨rfl,x8⟩
  have z8:=x8.size
  exact ⟨_,_,_,rfl,x8.heap ab,x8.heap ab,x8.heap ab,λcR Og=>⟨rfl,(x0.tr (cm.tr (x4.tr x8))).ae Og ab⟩⟩
structure ef where
 aI:Ce
 speed:Ce
 wd:Int
 ht:Int
 gV:Bool
abbrev jo(b:ef):LV:=[.int .i64 b.aI.1,.int .i64 b.aI.2.1,.int .i64 b.aI.2.2,.int .i64 b.speed.1,.int .i64 b.speed.2.1,.int .i64 b.speed.2.2,.int .i64 b.wd,.int .i64 b.ht,.bool b.gV]
abbrev BV(b:ef):Value:=.agg #[b.aI.1,b.aI.2.1,b.aI.2.2,b.speed.1,b.speed.2.1,b.speed.2.2,b.wd,b.ht,.bool b.gV]
abbrev y9:TypeId:=70
def ef.box(b:ef):Bx:=vK b.aI b.wd b.ht
theorem cP(b:ef)(hw:inI b.wd)(w:World):ah 48 #[BV b] w λe w'=>e=(qQ b.box)/\Ext w w':=by apply Ge.vc;intro w0 e0 w1 e1;have x1:Ext w w1:=(aL e0).bn e1;have z0:=eG e0;have z1:=eG e1;refine (Pw b.aI b.wd b.ht hw w1).mono ?_;rintro e w2 ⟨rfl,x2⟩;have z2:=x2.size;exact ⟨_,_,_,_,_,_,rfl,x2.heap ab,x2.heap ab,λw9 e9=>⟨rfl,(x1.tr x2).ae e9 ab⟩⟩
theorem xM(v:Ce)(w:World):ah 101 #[dY v] w λe w'=>e=(dY (br v))/\Ext w w':=by
 apply acn.vc;intro w0 e0 w1 e1;have x0:=aL e0;have z0:=eG e0;have r0:Row w0 w (dA v) eu:=Row.nw e0;have x1:Ext w0 w1.drew:=(aL e1).drew;have z1:w1.drew.heap.size=w0.heap.size+1:=by show w1.heap.size=_;rw [e1];simp
 have r1:=r0.ext x1;refine (nV v.1 w1.drew).mono ?_;rintro e w2 ⟨rfl,rfl⟩;refine ⟨_,rfl,rfl,rfl,kB r1 rfl,kB r1 rfl,(nV v.2.1 w1.drew).mono ?_⟩;rintro e w4 ⟨rfl,rfl⟩;refine ⟨_,rfl,rfl,rfl,kB r1 rfl,(nV v.2.2 w1.drew).mono ?_⟩;rintro e w6 ⟨rfl,rfl⟩;exact ⟨_,rfl,rfl,rfl,λw8 e8=>⟨by unfold br;rfl,(x0.tr x1).ae e8 ab⟩⟩
theorem zQ(a b c d:Int)(w:World):ah 293 #[a,b,c,d] w λe w'=>e=Value.int .i64 (if a=b then c else d)/\w'=w:=by apply KT.vc;exact Br.mk (λh=>⟨by rw [if_pos (by simpa using h)],rfl⟩) (λh=>⟨by rw [if_neg (by simpa using h)],rfl⟩)
theorem TP(b:Bx)(w:World):ah 266 #[qQ b] w λe w'=>∃lo hi:Ce,e=Value.tuple #[dY lo,dY hi,.bool (Bh b)]/\(Bh b=true->lo=br b.1/\hi=gR b)/\Ext w w':=by
 apply TR.vc;intro w0 e0 w1 e1 w2 e2;have x0:=aL e0;have z0:=eG e0;have r0:Row w0 w (fV b) bF:=Row.nw e0;have x1:=aL e1;have z1:=eG e1;have x2:=aL e2;have z2:=eG e2;refine (xM b.1 w2).mono ?_;rintro e w3 ⟨rfl,x3⟩;have z3:=x3.size;refine ⟨_,_,_,rfl,x3.heap ab,x3.heap ab,x3.heap ab,λw7 e7 w8 e8=>(iS b.2 (-1,-1,-1) w8).mono ?_⟩;have x8:Ext w3 w8:=(aL e7).ae e8 (aB _);have z8:=BI e7 e8;have r8:Row w8 w3 (dA (br b.1)) pM:=by rw [e8];exact Row.set (by rw [e7];exact Row.new w3 [_,_,_] _) _
 rintro e w9 ⟨rfl,x9⟩;have z9:=x9.size;refine ⟨_,_,_,rfl,x9.heap ab,x9.heap ab,x9.heap ab,x9.heap ab,(xM (jU b.2 (-1,-1,-1)) w9).mono ?_⟩;rintro e bJ ⟨rfl,cm⟩;have z13:=cm.size;refine ⟨_,_,_,rfl,cm.heap ab,cm.heap ab,cm.heap ab,cm.heap ab,λcL ze dG We=> ?_⟩;have cp:Ext bJ dG:=(aL ze).ae We (aB _);have z18:=BI ze We;have r18:Row dG bJ (dA (DM b)) pM:=by rw [We];exact Row.set (by rw [ze];exact Row.new bJ [_,_,_] _) _
 have ahF:=x9.tr (cm.tr cp);have Rh:=x0.tr (x1.tr (x2.tr (x3.tr (x8.tr ahF))));have rb:=r0.ext (x1.tr (x2.tr (x3.tr (x8.tr ahF))));have rl:=r8.ext ahF;refine ⟨λn x wr=>∃k:Nat,x=k/\k+n=3/\Ext dG wr/\∀j:Nat,j<k->qg b j=false,⟨3,rfl,rfl,rfl,rfl,rfl,0,rfl,rfl,Ext.cE _,λj hj=>by omega⟩,?_⟩;rintro n us x wr ⟨k,rfl,hk,xr,ht⟩;have zr:=xr.size;have xd:=Ext.dr wr;have zd:=lG wr;have wk:=mz (j:=k);refine Br.mk (λhb=>(dc b.1 k wr.drew).mono ?_) (λhb=>(zQ b.1.1 b.2.1 (br b.1).1 (DM b).1 wr.drew).mono ?_)
 ·replace hb:=mh hb;rintro e cU ⟨rfl,dQ⟩;have z25:=dQ.size;have x25d:=xr.tr (xd.tr dQ);refine ⟨_,rfl,dQ.heap ab,dQ.heap ab,dQ.heap ab,dQ.heap ab,dQ.heap ab,qe (rb.ext x25d) rfl rfl rfl,(dc b.2 k cU).mono ?_⟩;rintro e eH ⟨rfl,fE⟩;have z27:=fE.size;have next:qg b k=false->∀j:Nat,j<k+1->qg b j=false:=λh j hj=>by
   by_cases q:j<k
   ·exact ht j q
   ·rw [show j=k from by omega];exact h
  refine ⟨_,rfl,fE.heap ab,fE.heap ab,fE.heap ab,fE.heap ab,fE.heap ab,Br.mk (λh1=>(zS _ eH).mono ?_) (λh1=> ?_)⟩
  ·rintro e dR ⟨rfl,rfl⟩;have h1:db b.1 k=db b.2 k:=by simpa using h1
   refine ⟨_,rfl,rfl,rfl,rfl,rfl,rfl,Br.mk (λh2=>λfJ e31 lv Rj=> ?_) (λh2=> ?_)⟩
   ·have h2:qh (db b.1 k)=0:=by simpa using h2
    have hth:qg b k=true:=by unfold qg;rw [h1,<-h1,h2];simp [h1]
    have Oh:Bh b=false:=by
     have h3:(k:Int)=0\/(k:Int)=1\/(k:Int)=2:=by omega
     unfold Bh;rcases h3 with q|q|q<;>(rw [q] at hth;rw [hth];simp)
    refine ⟨(0,0,0),(0,0,0),by rw [Oh],λq=>absurd (Oh.symm.trans q) aF,((Rh.tr (x25d.tr fE)).ae e31 ab).ae Rj ab⟩
   ·have h2:¬qh (db b.1 k)=0:=by simpa using h2
    exact ⟨n-1,by omega,rfl,rfl,rfl,rfl,rfl,k+1,wk,by omega,x25d.tr fE,next (by unfold qg;simp [h2])⟩
  ·have h1:¬db b.1 k=db b.2 k:=by simpa using h1
   exact ⟨n-1,by omega,rfl,rfl,rfl,rfl,rfl,k+1,wk,by omega,x25d.tr fE,next (by unfold qg;simp [h1])⟩
 ·replace hb:=my hb;have Oh:Bh b=true:=by unfold Bh;rw [show qg b 0=false from ht 0 ab,show qg b 1=false from ht 1 ab,show qg b 2=false from ht 2 ab];rfl
  have rb':=rb.ext (xr.tr xd);have rl':=rl.ext (xr.tr xd);have rt':=r18.ext (xr.tr xd);rintro e eM ⟨rfl,rfl⟩;refine ⟨_,rfl,rfl,rfl,rfl,rfl,rfl,kB rt' rfl,kB rl' rfl,kB rb' rfl,kB rb' rfl,kB rt' rfl,kB rl' rfl,kB rb' rfl,kB rb' rfl,(zQ b.1.2.1 b.2.2.1 (br b.1).2.1 (DM b).2.1 wr.drew).mono ?_⟩;rintro e jK ⟨rfl,rfl⟩;refine ⟨_,rfl,rfl,rfl,rfl,rfl,rfl,kB rt' rfl,kB rl' rfl,kB rb' rfl,kB rb' rfl,(zQ b.1.2.2 b.2.2.2 (br b.1).2.2 (DM b).2.2 wr.drew).mono ?_⟩;rintro e ie ⟨rfl,rfl⟩;refine ⟨_,rfl,rfl,rfl,rfl,rfl,rfl,λjX e39 jr QZ gO e41 ku ZV=> ?_⟩;have r39:Row jX bJ (dA ((gR b).1,(DM b).2.1,(DM b).2.2)) pM:=by rw [e39];exact Row.set rt' [_,_,_]
  have r40:Row jr bJ (dA ((gR b).1,(gR b).2.1,(DM b).2.2)) pM:=r39.st QZ;have r41:Row gO bJ (dA (gR b)) pM:=r40.st e41;have r42:Row ku bJ (dA (gR b)) pM:=(r41.ext (Ext.dr gO)).same (by rw [ZV];exact setRow_other _ _ _ _ ab);have lh:Ext w ku:=(((((Rh.tr (xr.tr xd)).ae e39 ab).ae QZ ab).ae e41 ab).drew).ae ZV ab;exact ⟨Lo.wv r42,λjd e43=>⟨br b.1,gR b,by rw [Oh];rfl,λ_=>⟨rfl,rfl⟩,lh.ae e43 ab⟩⟩
theorem Px(b:Bx)(w:World):ah 105 #[qQ b] w λe w'=>e=(qQ (iz b))/\Ext w w':=by
 apply KU.vc;intro w0 e0 w1 e1;have x0:=aL e0;have z0:=eG e0;have r0:Row w0 w (fV b) bF:=Row.nw e0;have x1:Ext w0 w1.drew:=(aL e1).drew;have z1:w1.drew.heap.size=w0.heap.size+1:=by show w1.heap.size=_;rw [e1];simp
 have r1:=r0.ext x1;refine (Hp b.1.2.1 1 w1.drew).mono ?_;rintro e w2 ⟨rfl,rfl⟩;refine ⟨_,rfl,rfl,rfl,qe r1 rfl rfl rfl,qe r1 rfl rfl rfl,(iD b.1 1 (qd b.1.2.1 1) w1.drew).mono ?_⟩;rintro e w4 ⟨rfl,x4⟩;have z4:=x4.size;refine ⟨_,_,_,rfl,x4.heap ab,x4.heap ab,qe (r1.ext x4) rfl rfl rfl,(iD b.2 1 b.1.2.1 w4).mono ?_⟩;rintro e w8 ⟨rfl,x8⟩;have z8:=x8.size;exact ⟨_,_,_,rfl,x8.heap ab,x8.heap ab,λcR Og=>⟨rfl,(x0.tr (x1.tr (x4.tr x8))).ae Og ab⟩⟩
abbrev mN(b:Bx):List (LV):=(kS b).map λc=> [dY c]
abbrev XW(g:Nat):Value:=.func (.func 265) #[] #[g]
theorem T3(b:Bx)(g:Nat)(W0:World)(hb:Row W0 g (fV b) bF):Iter Tryz.prog (XW g) W0 (λi=>i=g) (mN b):=by
 refine ⟨⟨_,_,_,rfl,by kernel_rfl⟩,?_⟩;intro y B J Jx F0 W hB hsJ hsX yO hRd hround h0;refine cS (by kernel_rfl) (by rfl) ?_;apply JG.vc;have hbW:Row W g (fV b) bF:=hb.same (hRd g rfl).2.2;refine ⟨_,_,_,_,_,_,Lo.wv hbW,(TP b W).mono ?_⟩;rintro e w6 ⟨lo,hi,rfl,Oh,x6⟩;refine ⟨_,_,_,_,_,_,_,rfl,λbP ux eA oO cJ FP cL ze=> ?_⟩;have bX:=aL ux;have Wb:=eG ux;have cY:Ext w6 cL:=(((bX.bn oO).ae FP (aB _)).ae ze ab);have z17:cL.heap.size=w6.heap.size+2:=by rw [ze,setRow_size,FP,setRow_size,oO];simp [Wb]
 have xW:=x6.tr cY;have zW:=xW.size;obtain ⟨Q,hQ⟩:∃Q:Nat->World->Prop,Q=λk wr=>∃F,J k F wr/\∀i,F i->(F0 i\/cL.heap.size<=i):=⟨_,rfl⟩
 have z6:=x6.size;have hF0:∀i,F0 i->i<w6.heap.size:=λi hi=>j6 (yO _ _ _ h0 i hi) z6
 have init:Q 0 cL:=by rw [hQ];exact ⟨F0,hsJ _ _ _ _ h0 (Below.mono xW hB) λi hi=>xW.heap (yO _ _ _ h0 i hi),λi hi=> .inl hi⟩
 have round:∀{k:Nat} {wr:World} {x:LV},cL.heap.size<=wr->(mN b)[k]? =some x->Q k wr->cr Tryz.prog y x wr λe w'=>cL.heap.size<=w'.heap.size/\(∀i,i<cL.heap.size->¬F0 i->w'.heap[i]? =wr.heap[i]?)/\((e=true/\Q (k+1) w')\/(e=false/\∃F',Jx () F' w')):=λ{k wr x} hz hx h=>by
  rw [hQ] at h ⊢;obtain ⟨F,hJ,h2⟩:=h;refine dp (hround _ _ _ _ hx hJ) ?_;have c5:∀{w':World} {F2:Nat->Prop},Step F F2 wr w'->cL.heap.size<=w'.heap.size/\(∀i,i<cL.heap.size->¬F0 i->w'.heap[i]? =wr.heap[i]?):=λgG=>⟨by have:=gG.size;omega,λi hi hn=>gG.same i ab λhf=>(h2 i hf).elim hn ab⟩
  rintro e w' (⟨rfl,F2,Kk,gG⟩|⟨rfl,F2,Kk,gG⟩)
  ·refine ⟨(c5 gG).1,(c5 gG).2,.inl ⟨rfl,F2,Kk,λi hi=> ?_⟩⟩;rcases gG.sub i hi with hf|hf
   ·exact h2 i hf
   ·exact .inr ab
  ·exact ⟨(c5 gG).1,(c5 gG).2,.inr ⟨rfl,F2,Kk⟩⟩
 have fin:∀{wr:World},Q (mN b).length wr->∃F',J (mN b).length F' wr:=λh=>by rw [hQ] at h;obtain ⟨F,hJ,-⟩:=h;exact ⟨F,hJ⟩
 have n6:¬F0 w6:=λq=>by have:=hF0 _ q;omega
 have FO:¬F0 bP:=λq=>by have:=hF0 _ q;omega
 have V7:cL.heap.size=w6.heap.size+2:=z17
 cases hspan:Bh b with
 |false=>
  have Co:mN b=[]:=by unfold mN kS;rw [hspan];rfl
  rw [Co] at fin ⊢;exact ⟨λn x wr=>wr=cL,⟨0,rfl,rfl,rfl⟩,λn us x wr hwr=>by
   subst hwr;exact Br.mk (λh=>by cases h) (λ_=>⟨⟨_,rfl⟩,.inl (fin init)⟩)⟩
 |true=>
  obtain ⟨rfl,rfl⟩:=Oh hspan;have hc:kS b=La (br b.1) (gR b):=by unfold kS;rw [hspan];rfl
  have FM:∀{jy jz jx:Nat},jy<cM (br b.1).2.1 (gR b).2.1->jz<cM (br b.1).2.2 (gR b).2.2->jx<cM (br b.1).1 (gR b).1->
    (mN b)[(jy*cM (br b.1).2.2 (gR b).2.2+jz)*cM (br b.1).1 (gR b).1+jx]? =some [dY ((br b.1).1+(jx:Int),(br b.1).2.1+(jy:Int),(br b.1).2.2+(jz:Int))]:=λh1 h2 h3=>by
   unfold mN;rw [hc,aU,acs _ _ h1 h2 h3];rfl
  have dI:(mN b).length=cM (br b.1).2.1 (gR b).2.1*cM (br b.1).2.2 (gR b).2.2*cM (br b.1).1 (gR b).1:=by unfold mN;rw [aN,hc,XR]
  obtain ⟨⟨a1,a2⟩,⟨a3,a4⟩,a5,a6⟩:=ui b.1;obtain ⟨⟨b1,b2⟩,⟨b3,b4⟩,b5,b6⟩:=RX b;generalize mN b=xs at*;generalize br b.1=a at*;generalize gR b=z at*;have hny:∀j:Nat,a.2.1+(j:Int)<=z.2.1 ↔ j<cM a.2.1 z.2.1:=λj=>by unfold cM;omega
  have hnz:∀j:Nat,a.2.2+(j:Int)<=z.2.2 ↔ j<cM a.2.2 z.2.2:=λj=>by unfold cM;omega
  have hnx:∀j:Nat,a.1+(j:Int)<=z.1 ↔ j<cM a.1 z.1:=λj=>by unfold cM;omega
  have hmy:cM a.2.1 z.2.1<=4294967297:=by unfold cM;omega
  have hmz:cM a.2.2 z.2.2<=4294967297:=by unfold cM;omega
  have hmx:cM a.1 z.1<=4294967297:=by unfold cM;omega
  generalize cM a.2.1 z.2.1=ny at*;generalize cM a.2.2 z.2.2=nz at*;generalize cM a.1 z.1=nx at*;refine ⟨λn v wr=>∃jy:Nat,v=a.2.1+jy/\jy+n=ny/\Q (jy*nz*nx) wr/\cL.heap.size<=wr,⟨ny,rfl,rfl,0,by omega,by omega,by rw [Nat.zero_mul,Nat.zero_mul];exact init,aB _⟩,?_⟩;rintro n2 us3 v dT ⟨jy,rfl,hjy,hq,zr⟩;refine Br.mk (λ_=>Br.mk (λhc1=> ?_) (λhc1=> ?_)) (λh=>by cases h)
  ·replace hc1:=mh hc1;have ly:=(hny jy).1 hc1;refine ⟨λn v wr=>∃jz:Nat,v=a.2.2+jz/\jz+n=nz/\Q ((jy*nz+jz)*nx) wr/\cL.heap.size<=wr,⟨nz,rfl,rfl,0,by omega,by omega,by rw [Nat.add_zero];exact hq,zr⟩,?_⟩;rintro n10 azM v gN ⟨jz,rfl,hjz,hq,zr⟩;apply Br.mk<;>intro nE
   ·replace nE:=mh nE;have lz:=(hnz jz).1 nE;refine ⟨λn v wr=>∃jx:Nat,v=a.1+jx/\jx+n=nx/\Q ((jy*nz+jz)*nx+jx) wr/\cL.heap.size<=wr,⟨nx,rfl,rfl,0,by omega,by omega,by rw [Nat.add_zero];exact hq,zr⟩,?_⟩;rintro n18 azN v jc ⟨jx,rfl,hjx,hq,zr⟩;apply Br.mk<;>intro Tc
    ·replace Tc:=mh Tc;have lx:=(hnx jx).1 Tc;refine dp (round zr (FM ly lz lx) hq) ?_;have wk:aj (a.1+(jx:Int)+1)=a.1+((jx+1:Nat):Int):=by rw [wI];omega
     rintro e jW ⟨z36,k36,q⟩;have k1:=k36 w6 ab n6;have k2:=k36 bP ab FO;rcases q with ⟨rfl,M1⟩|⟨rfl,hx2⟩
     ·exact ⟨true,rfl,k1,k2,Br.mk (λh=>by cases h) (λ_=>⟨n18-1,by omega,rfl,rfl,jx+1,wk,by omega,M1,z36⟩)⟩
     ·exact ⟨false,rfl,k1,k2,Br.mk (λ_=>⟨⟨_,rfl⟩,.inr hx2⟩) (λh=>by cases h)⟩
    ·replace Tc:=my Tc;have e:jx=nx:=by have:=mt (hnx jx).2 Tc;omega
     subst e;have wk:aj (a.2.2+(jz:Int)+1)=a.2.2+((jz+1:Nat):Int):=by rw [wI];omega
     refine ⟨n10-1,by omega,rfl,rfl,jz+1,wk,by omega,?_,zr⟩;have:(jy*nz+(jz+1))*jx=(jy*nz+jz)*jx+jx:=by rw [<-Nat.add_assoc,Nat.add_mul _ 1,Nat.one_mul]
     rw [this];exact hq
   ·replace nE:=my nE;have e:jz=nz:=by have:=mt (hnz jz).2 nE;omega
    subst e;have wk:aj (a.2.1+(jy:Int)+1)=a.2.1+((jy+1:Nat):Int):=by rw [wI];omega
    refine ⟨n2-1,by omega,rfl,rfl,jy+1,wk,by omega,?_,zr⟩;rw [Nat.add_mul jy 1,Nat.one_mul];exact hq
  ·replace hc1:=my hc1;have e:jy=ny:=by have:=mt (hny jy).2 hc1;omega
   subst e;rw [<-dI] at hq;exact ⟨⟨_,rfl⟩,.inl (fin hq)⟩
theorem PF(b:Bx)(w:World):ah 215 #[qQ b] w λe w'=>e=(XW w)/\Row w' w (fV b) bF/\Ext w w':=by apply PG.vc;intro w0 e0;exact ⟨rfl,by rw [e0];exact Row.new w [_,_,_,_,_,_] _,(aL e0)⟩
theorem TZ{b:Bx}{n:Nat}{x y z:Int}(h:(mN b)[n]? =some [.agg #[.int .i64 x,.int .i64 y,.int .i64 z]]):(kS b)[n]? =some (x,y,z):=by
 unfold mN at h;rw [aU] at h
 cases hc:(kS b)[n]? with
 |none=>rw [hc] at h;cases h
 |some c=>
  rw [hc] at h;simp only [Option.map_some] at h;injection h with h;injection h with h _;injection h with h;injection h with h;injection h with h1 h;injection h with h2 h;injection h with h3 _;injection h1 with _ h1;injection h2 with _ h2;injection h3 with _ h3;exact congrArg some (Prod.ext h1 (Prod.ext h2 h3))
theorem XX{b:Bx}{c:Ce}(h:c ∈ kS b):pn c:=by
 unfold kS at h;split at h
 ·have h1:=XS h;have h2:=ui b.1;have h3:=RX b;unfold pn inI;omega
 ·cases h
theorem T0{v:Value}{V:Ce->Int}{w:World}(hV:Tl v V w)(hv:j9 v=[])(b:Bx)(fp:Value)(hfp:j9 fp=[])(p:Int->Bool)(hp:∀(x:Int)(w':World),cr Tryz.prog fp [.int .i64 x] w' λe w''=>e=Value.bool (p x)/\Ext w' w''):
  ah 153 #[v,qQ b,fp] w λe w'=>∃c:Ce,e=Value.tuple #[dY c,.bool (jO V b p)]/\Ext w w':=by
 apply PH.vc;rw [hv,pU];intro w0 e0 w1 e1;rw [hfp,pU];intro w2 e2 w3 e3 w4 e4;have x0:=aL e0;have z0:=eG e0;have x1:=aL e1;have z1:=eG e1;have x2:=aL e2;have z2:=eG e2;have r2:∃τ,Row w2 w1 [fp] τ:=⟨_,by rw [e2];exact Row.new w1 [_] _⟩;have x3:=aL e3;have z3:=eG e3;have x4:=aL e4;have z4:=eG e4;have BH:=x0.tr (x1.tr (x2.tr (x3.tr x4)));obtain ⟨τ2,r2⟩:=r2;refine (PF b w4).mono ?_;rintro e w5 ⟨rfl,hb5,x5⟩;have z5:=x5.size;have l5:=hb5.lt;have Nu:=BH.tr x5;have r5:=r2.ext (x3.tr (x4.tr x5));refine ⟨_,rfl,x5.heap ab,x5.heap ab,x5.heap ab,x5.heap ab,x5.heap ab,mN b,λi=>i=w4.heap.size,λ_=>False,
  λn F x y z bb w'=>(∀i,¬F i)/\(∀c ∈(kS b).take n,p (V c)=false)/\Mod (λi=>w5.heap.size<=i) w5 w',
  λo F x y z bb w'=>(∀i,¬F i)/\bb=jO V b p/\Mod (λi=>i=w2.heap.size\/i=w3.heap.size\/w5.heap.size<=i) w5 w',?_,?_,?_,λn F x y z bb w' h i hi=>(h.1 i hi).elim,λo F x y z bb w' h i hi=>(h.1 i hi).elim,λi hi=> ?_,λAX wT=> ?_,?_,?_,?_⟩
 ·intro x hx;obtain ⟨c,-,rfl⟩:=aZ.1 hx;exact ⟨_,_,_,rfl⟩
 ·rintro n F x y z bb eK dT ⟨h1,h2,h3⟩ kD -;exact ⟨h1,h2,h3.tr ⟨kD.os,kD.tape,kD.output,kD.size,λi hi hn=>kD.block i (Nat.lt_of_not_le hn)⟩ λi hi=> .inl hi⟩
 ·rintro o F x y z bb eK dT ⟨h1,h2,h3⟩ kD -;exact ⟨h1,h2,h3.tr ⟨kD.os,kD.tape,kD.output,kD.size,λi hi hn=>kD.block i (Nat.lt_of_not_le hn)⟩ λi hi=> .inl (.inr (.inr hi))⟩
 ·subst hi;exact ⟨by omega,id,by omega,by omega,by omega,by omega,by omega,trivial⟩
 ·exact ⟨T3 b _ AX (hb5.same (wT.ext.block _ ab)),rfl,rfl,rfl,λi h=>h,λc hc=>by simp at hc,Mod.aD wT.ext⟩
 ·rintro n F us zi tX mH b52 iV pE kC pH hx hI kr e58 xh W5;have kJ:Ext pH xh:=(aL e58).ae W5 (aB _);have z59:xh.heap.size=pH.heap.size+1:=by rw [W5,setRow_size,e58];simp
  have z56:=hI.2.2.size;refine ⟨kJ,λmR fQ aaT=> ?_⟩;obtain ⟨hF,mF,hM⟩:=aaT;have zr:=fQ.size;have hc:=TZ hx;have mg:=bg hc;have z57:=hM.size;have ht:(kS b).take (n+1)=(kS b).take n++ [(iV,pE,kC)]:=by rw [dD,hc];rfl
  obtain ⟨D,hD1,hD2⟩:=hV;refine dp (hD2 mR.drew (λi hi=> ?_) (iV,pE,kC) (XX mg)) ?_
  ·have:=hD1 i hi;have:=Nu.size;exact (hM.same i ab ab).trans (Nu.heap ab)
  rintro e mQ ⟨rfl,iW⟩;have zd:=lG mR;have z60:=iW.size;have aaU:=hM.trans (Mod.aD ((Ext.dr mR).tr iW));refine ⟨_,rfl,iW.heap ab,iW.heap ab,iW.heap ab,iW.heap ab,iW.heap ab,iW.heap ab,Lo.wv (aaU.row r5 ab),dp (hp _ mQ) ?_⟩;rintro e il ⟨rfl,nj⟩;have z62:=nj.size;have Nv:=aaU.trans (Mod.aD nj);refine ⟨_,rfl,nj.heap ab,nj.heap ab,nj.heap ab,nj.heap ab,nj.heap ab,nj.heap ab,Br.mk (λhq=>λsO Wx GL Wy=> ?_) (λhq=> ?_)⟩
  ·have hq:p (V (iV,pE,kC))=true:=hq;have ahJ:jO V b p=true:=List.any_eq_true.2 ⟨_,mg,hq⟩;have aqw:GL.heap.size=il.heap.size:=by rw [Wy,setRow_size,Wx,setRow_size]
   have ahK:∀i,i≠w2.heap.size->i≠w3.heap.size->GL.heap[i]? =il.heap[i]? :=λi h1 h2=>by rw [Wy,setRow_other _ _ _ _ h2,Wx,setRow_other _ _ _ _ h1]
   have aaV:Mod (λi=>i=w2.heap.size\/i=w3.heap.size) il GL:=⟨by rw [Wy,Wx];rfl,by rw [Wy,Wx];rfl,by rw [Wy,Wx];rfl,by omega,λi _ hn=>ahK i (λq=>hn (.inl q)) (λq=>hn (.inr q))⟩;refine ⟨rfl,λ_=>False,⟨rfl,rfl,rfl,λi h=>h,ahJ.symm,(Nv.mono λi _ h=> .inr (.inr h)).trans (aaV.mono λi _ h=>h.elim .inl λh=> .inr (.inl h))⟩,?_⟩;have FB:=((Mod.aD (F:=λi=>i=w2.heap.size\/i=w3.heap.size) (((Ext.dr mR).tr iW).tr nj))).trans aaV;refine Step.late ⟨λi hi=> ?_,FB.size,λi hi hn=>FB.same i hi λq=>hn (.inr ?_)⟩
   ·rcases hi with h|h
    ·exact h.elim
    ·exact .inl (.inr h)
   ·rcases q with rfl|rfl<;>simp
  ·have hq:p (V (iV,pE,kC))=false:=hq;have Nw:=((Ext.dr mR).tr iW).tr nj;refine ⟨λ_=>False,⟨rfl,rfl,rfl,λi h=>h,λc hc=> ?_,Nv⟩,Step.late ⟨λi hi=> ?_,Nw.size,λi hi _=>Nw.block i hi⟩⟩
   ·rw [ht,di] at hc;rcases hc with hc|hc
    ·exact mF c hc
    ·rw [List.mem_singleton.1 hc];exact hq
   ·rcases hi with h|h
    ·exact h.elim
    ·exact .inl (.inr h)
 ·rintro F us nG mj ml b73 lD ⟨hF,mF,hM⟩ Rl qD Wz jt e76;have z74:=hM.size;have dI:(mN b).length=(kS b).length:=by unfold mN;simp
  rw [dI,iA] at mF;have ahJ:jO V b p=false:=by unfold jO;rw [List.any_eq_false];exact λc hc=>by rw [mF c hc];decide
  refine ⟨by rw [e76,setRow_other _ _ _ _ ab,Wz,setRow_other _ _ _ _ ab];exact Rl,λrJ fQ=>⟨(0,0,0),by rw [ahJ],?_⟩⟩;have uX:Ext w lD:=hM.ext Nu λi hi=>by have:=Nu.size;omega
  have wR:Ext w jt:=(uX.ae Wz ab).ae e76 ab;exact (Mod.nX fQ).ext wR λi hi=>by have:=Nu.size;omega
 ·rintro F us uy sK qG b83 JP ⟨hF,rfl,hM⟩ Rl;refine ⟨Rl,λWZ fQ=>⟨(uy,sK,qG),rfl,?_⟩⟩;have xg:Ext w JP:=hM.ext Nu λi hi=>by have:=Nu.size;omega
  exact (Mod.nX fQ).ext xg λi hi=>by have:=Nu.size;omega
theorem DU{v:Value}{V:Ce->Int}{w:World}(hV:Tl v V w)(hv:j9 v=[])(b:Bx)(fp:Value)(hfp:j9 fp=[])(p:Int->Bool)(hp:∀(x:Int)(w':World),cr Tryz.prog fp [x] w' λe w''=>e=Value.bool (p x)/\Ext w' w''):
  ah 102 #[v,qQ b,fp] w λe w'=>e=Value.bool (jO V b p)/\Ext w w':=by
 apply T4.vc;intro w0 e0;have x0:=aL e0;have z0:=eG e0;refine (T0 (hV.ext x0) hv b fp hfp p hp).mono ?_;rintro e w1 ⟨c,rfl,x1⟩;have z1:=x1.size;refine ⟨_,_,_,_,rfl,x1.heap ab,λw6 e6 w7 e7=>⟨rfl,(x0.tr x1).tr ((aL e6).ae e7 (aB _))⟩⟩
theorem mZ{v:Value}{V:Ce->Int}{w:World}(hV:Tl v V w)(hv:j9 v=[])(b:Bx):ah 46 #[v,qQ b] w λe w'=>e=Value.bool (jO V b aE)/\Ext w w':=by
 apply Gg.vc;intro w0 e0;have x0:=aL e0;have z0:=eG e0;refine (DU (hV.ext x0) hv b (.func (.func 103) #[] #[]) rfl aE λx w'=>cS (by kernel_rfl) rfl ((qk x w').mono ?_)).mono ?_
 ·rintro e w'' ⟨rfl,rfl⟩;exact ⟨rfl,Ext.cE _⟩
 rintro e w1 ⟨rfl,x1⟩;exact ⟨_,rfl,x1.heap ab,rfl,x0.tr x1⟩
theorem lM{v:Value}{V:Ce->Int}{w:World}(hV:Tl v V w)(hv:j9 v=[])(b:Bx):ah 49 #[v,qQ b] w λe w'=>e=Value.bool (jO V (iz b) aE)/\Ext w w':=by apply IW.vc;intro w0 e0;have x0:=aL e0;have z0:=eG e0;refine (Px b w0).mono ?_;rintro e w1 ⟨rfl,x1⟩;refine ⟨_,_,_,_,_,_,rfl,x1.heap ab,(mZ (hV.ext (x0.tr x1)) hv (iz b)).mono ?_⟩;rintro e w8 ⟨rfl,x8⟩;have z1:=x1.size;exact ⟨_,rfl,x8.heap ab,rfl,x0.tr (x1.tr x8)⟩
end Go.Proofs.YtkkkfkopcfdmaaaGreatDoor
