import Derived.Test.YtalpkjfpmdpbiaaGreatDoorChecked
import Derived.KernelRfl
import Derived.Test.YtalpkjfpmdpbiaaGreatDoorLib
set_option linter.all false
namespace Go.Proofs.YtalpkjfpmdpbiaaGreatDoor
open Go Go.Vc Go.RowKit Go.Proofs
set_option maxRecDepth 100000
set_option maxHeartbeats 8000000
set_option linter.unusedVariables false
variable {R:Ending->World->Prop} {w:World} {a0 a1 a2 a3 a4 a5 a6 a7 a8 a9 aq ar au aI aJ aK aL aH bM eB ao aj aw dO ic jg jh ji gq gY dj dZ dU lg lO nm xO xP xQ xR xS xU xV xW xX xY xZ ya yb yc:Int}
abbrev K2(i0 i1:Nat)(x y:World)(P:Prop):Prop:=Kp i0 x y/\Kp i1 x y/\P
abbrev K3(i0 i1 i2:Nat)(x y:World)(P:Prop):Prop:=Kp i0 x y/\Kp i1 x y/\Kp i2 x y/\P
abbrev K4(i0 i1 i2 i3:Nat)(x y:World)(P:Prop):Prop:=Kp i0 x y/\Kp i1 x y/\Kp i2 x y/\Kp i3 x y/\P
abbrev K5(i0 i1 i2 i3 i4:Nat)(x y:World)(P:Prop):Prop:=Kp i0 x y/\Kp i1 x y/\Kp i2 x y/\Kp i3 x y/\Kp i4 x y/\P
abbrev K6(i0 i1 i2 i3 i4 i5:Nat)(x y:World)(P:Prop):Prop:=Kp i0 x y/\Kp i1 x y/\Kp i2 x y/\Kp i3 x y/\Kp i4 x y/\Kp i5 x y/\P
abbrev K7(i0 i1 i2 i3 i4 i5 i6:Nat)(x y:World)(P:Prop):Prop:=Kp i0 x y/\Kp i1 x y/\Kp i2 x y/\Kp i3 x y/\Kp i4 x y/\Kp i5 x y/\Kp i6 x y/\P
abbrev K8(i0 i1 i2 i3 i4 i5 i6 i7:Nat)(x y:World)(P:Prop):Prop:=Kp i0 x y/\Kp i1 x y/\Kp i2 x y/\Kp i3 x y/\Kp i4 x y/\Kp i5 x y/\Kp i6 x y/\Kp i7 x y/\P
abbrev Xz(F:Int->Int->World->Prop)(e:Ending)(w:World):Prop:=∃x0 x1:Int,e=.returned (.agg #[x0,x1])/\F x0 x1 w
abbrev Je(F:Int->Int->Int->World->Prop)(e:Ending)(w:World):Prop:=∃x0 x1 x2:Int,e=.returned (.agg #[x0,x1,x2])/\F x0 x1 x2 w
abbrev Ra6(F:Int->Int->Int->Int->Int->Int->World->Prop)(e:Ending)(w:World):Prop:=∃x0 x1 x2 x3 x4 x5:Int,e=.returned (.agg #[x0,x1,x2,x3,x4,x5])/\F x0 x1 x2 x3 x4 x5 w
abbrev Ra9(F:Int->Int->Int->Int->Int->Int->Int->Int->Int->World->Prop)(e:Ending)(w:World):Prop:=∃x0 x1 x2 x3 x4 x5 x6 x7 x8:Int,e=.returned (.agg #[x0,x1,x2,x3,x4,x5,x6,x7,x8])/\F x0 x1 x2 x3 x4 x5 x6 x7 x8 w
abbrev Ri(F:Int->World->Prop)(e:Ending)(w:World):Prop:=∃x:Int,e=.returned x/\F x w
abbrev Rb(F:Bool->World->Prop)(e:Ending)(w:World):Prop:=∃x:Bool,e=.returned (.bool x)/\F x w
abbrev Rv(F:Value->World->Prop)(e:Ending)(w:World):Prop:=∃x:Value,e=.returned x/\F x w
abbrev Rs(F:Sl->World->Prop)(e:Ending)(w:World):Prop:=∃x:Sl,e=.returned x/\F x w
abbrev Rt(F:World->Prop)(e:Ending)(w:World):Prop:=e=.returned (.tuple #[])/\F w
abbrev Nq(p:Option Addr)(j:Nat):Prop:=cQ p≠some j
abbrev Nb(i j:Nat):Prop:=cQ (some ⟨i,0,none⟩)≠some j
abbrev Wt(w:World)(a:Addr)(n:Nat):Prop:=true=true/\Wr w (some a) n
abbrev Aw(w:World)(l:Array Value)(t:TypeId)(F:World->Prop):Prop:=∀v,v=w.alloc (.cells l t)->F v
abbrev Sw(w:World)(i:Nat)(l:Array Value)(F:World->Prop):Prop:=∀v,v=w.setRow i l->F v
def Tryz.agU:uV Tryz.prog:=Zg (by kernel_rfl)
def Tryz.mixed:Tryz.prog.follows .mixedOrders=true:=by kernel_rfl
def cq{pre:Prop}{f:FuncId}{fn:Func}(an:UI){args:List Value}{w:World}{R:Ending->World->Prop}(hf:Tryz.prog.funcs[f]? =some fn)(h:pre)(k:pre=Zh Tryz.prog an fn args w R:=by kernel_rfl):Calls Tryz.prog f args.toArray w R:=
 Gw (an:=an) Tryz.agU Tryz.mixed hf h k
abbrev cf:UI:=⟨[],[],[]⟩
inductive CQ|a
abbrev ah:CQ:=.a
instance:CoeFun CQ (λ_=>FuncId->Array Value->World->(Ending->World->Prop)->Prop):=⟨λ_=>Calls Tryz.prog⟩
def JL.vc(h:
 Aw w #[aq,ar,au] 23 λw0=>
 Br (ar<0)
 (R (Value.tuple #[af,false]) w0)
 (Br (ar>=32)
 (R (Value.tuple #[af,false]) w0)
 (ah 148 #[au,(16:Int)] w0.drew (Ri λx2 w1=>Kp w w0.drew w1/\
 av w1 w 0 [aq]/\av w1 (pd w 1) 0 [ar]/\ah 148 #[aq,(16:Int)] w1 (Ri λx4 w3=>Kp w w1 w3/\
 av w3 (pd w 1) 0 [ar]/\R (Value.tuple #[(ai ((ai ((ai ((ai (ar*16))+x2))*16))+x4)),true]) w3))))):ah 104 #[.agg #[aq,ar,au]] w R:=
 cq cf Tryz.func104 h
def NF.vc(h:
 ah 149 #[a0] w (λe w0=>∃(t1:ByteArray),e=Value.string t1/\
 R (Value.bool (!qM t1 (ByteArray.mk #[]))) w0)):ah 105 #[a0] w R:=
 cq cf Tryz.func105 h
def xn.vc{a0:Addr}(h:
 Aw w #[ao,aj,aw] 23 λw0=>
 ∃(x1 x2:Int),av w0.drew (ae (some a0) 0) 0 [x1,x2]/\
 ah 129 #[.agg #[x1,x2],.agg #[ao,aj,aw]] w0.drew (λe w3=>∃(x4:Int)(b5:Bool),e=Value.tuple #[x4,b5]/\Kp w w0.drew w3/\
 Br (!b5)
 (R (5:Int) w3)
 (ah 105 #[a2] w3 (Rb λb7 w6=>Kp w w3 w6/\
 Br (!b7)
 (R (1:Int) w6)
 (∃(s8:Sl),ld w6 (ae (some a0) 2)=some (.slice s8.a s8.n s8.c)/\
 ah 150 #[s8,x4,a2] w6 (Rs λcL w9=>Kp w w6 w9/\
 (true=true/\Wr w9 (ae (some a0) 2) 1)/\cQ (ae (some a0) 2)≠some w.heap.size/\(∀cH,cH=aZ w9 (ae (some a0) 2) [cL]->
 R (0:Int) cH))))))):ah 106 #[a0,.agg #[ao,aj,aw],a2] w R:=
 cq cf Tryz.func106 h
def uR.vc{a0:Addr}{a1:Addr}(h:
 ∃(b0:Bool),ld w (ae (some a1) 1)=some (.bool b0)/\
 Br (!b0)
 (R (0:Int) w)
 (∃(p1:Option Addr),ld w (ae (some a1) 0)=some (.pointer p1)/\
 bn (eQ p1) (bn (eQ p1) (∃(x2 x3:Int),av w (ae p1 0) 0 [x2,x3]/\
 ah 115 #[.agg #[x2,x3]] w (λe w4=>∃(x5 x6:Int),e=Value.agg #[x5,x6]/\
 ah 69 #[.agg #[x5,x6]] w4 (λe w7=>∃(x8:Int)(b9:Bool),e=Value.tuple #[x8,b9]/\
 ∃(X6:Option Addr),ld w7.drew (ae (some a0) 0)=some (.pointer X6)/\
 ∃(p11:Option Addr),ld w7.drew (ae (some a1) 0)=some (.pointer p11)/\
 ah 152 #[p11] w7.drew (λe bR=>∃(gf:Sl),e=gf/\
 av bR (ae (some a0) 0) 0 [.pointer X6]/\ah 151 #[X6,x8,gf] bR (λe cm=>∃(bA:Int),e=bA/\
 (true=true/\Wr cm (ae (some a1) 1) 1)/\(∀dy,dy=aZ cm (ae (some a1) 1) [.bool (bA !=0)]->
 R bA dy))))))))):ah 107 #[a0,a1] w R:=
 cq cf Tryz.func107 h
def xp.vc{a0:Addr}(h:
 ∃(s0:Sl),ld w (ae (some a0) 3)=some (.slice s0.a s0.n s0.c)/\
 cB s0.a a1 s0.n/\∃(p1:Option Addr),ld w (ae s0.a ((a1:Int).toNat*1))=some (.pointer p1)/\
 ∃(s2:Sl),ld w.drew (ae (some a0) 3)=some (.slice s2.a s2.n s2.c)/\
 (0:Int)<=a1/\a1<=((s2.c:Nat):Int)/\(0:Int)<=a1/\a1<=a1/\∃(s3:Sl),ld w.drew (ae (some a0) 3)=some (.slice s3.a s3.n s3.c)/\
 (0:Int)<=(ai (a1+1))/\(ai (a1+1))<=((s3.n:Nat):Int)/\∃l4:LV,Rd w.drew (aA s3.a (((ai (a1+1)):Int).toNat) (s3.c) 1) l4/\aF 8 1 w.drew ⟨(aA s2.a (0) ((a1:Int).toNat) 1),((a1:Int).toNat-0),((a1:Int).toNat-0)⟩ (s3.n-((ai (a1+1)):Int).toNat) l4/\∀(s5:Sl)(w6:World),aD 129 1 w.drew ⟨(aA s2.a (0) ((a1:Int).toNat) 1),((a1:Int).toNat-0),((a1:Int).toNat-0)⟩ (s3.n-((ai (a1+1)):Int).toNat) l4 s5 w6->
 av w6 (ae (some a0) 3) 0 [s3]/\av w6 (ae (some a0) 3) 0 [s2]/\(true=true/\Wr w6 (ae (some a0) 3) 1)/\(∀w7,w7=aZ w6 (ae (some a0) 3) [s5]->
 R p1 w7)):ah 108 #[a0,a1] w R:=
 cq cf Tryz.func108 h
def NG.vc(h:
 ah 157 #[a0] w (λe w0=>∃(p1:Option Addr),e=p1/\
 Aw w0 #[p1] 224 λw2=>
 R (Value.pointer (bu w0)) w2)):ah 111 #[a0] w R:=
 cq cf Tryz.func111 h
def oT.vc{a0:Sl}{a1:Value}(h:
 ∃I0:Nat->Int->World->Prop,
 (∃n1,I0 n1 (0) w)/\
 ∀(n1:Nat)(oX:Nat->Value)(x3:Int)(w4:World),I0 n1 x3 w4->
 Br (decide (x3<((a0.n:Nat):Int)))
 (cB a0.a x3 a0.n/\∃(p6:Option Addr),ld w4 (ae a0.a ((x3:Int).toNat*1))=some (.pointer p6)/\
 dH Tryz.prog a1 [.pointer p6] w4 (λe w7=>∃(b8:Bool),e=b8/\
 Br b8
 (R x3 w7)
 (∃n5,n5<n1/\I0 n5 ((ai (x3+1))) w7)))
 (R (Value.int .i64 (-1)) w4)):ah 113 #[a0,a1] w R:=
 cq ⟨[(2,⟨[(8,.int .i64)],[],[]⟩)],[],[]⟩ Tryz.func113 h
def rC.vc{a0:Addr}{c0:Addr}(h:
 ∃(p0:Option Addr),ld w.drew (ae (some a0) 0)=some (.pointer p0)/\
 bn (eQ p0) (bn (eQ p0) (∃(x1 x2:Int),av w.drew (ae p0 0) 0 [x1,x2]/\
 ∃(x3 x4:Int),av w.drew (some c0) 0 [x3,x4]/\
 ah 115 #[.agg #[x1,x2]] w.drew (λe w5=>∃(x6 x7:Int),e=Value.agg #[x6,x7]/\
 av w5 (some c0) 0 [x3,x4]/\av w5 (ae (some a0) 0) 0 [.pointer p0]/\R (Value.bool ((x6==x3) &&(x7==x4))) w5)))):ah 114 #[a0,c0] w R:=
 cq cf Tryz.func114 h
def td.vc(h:
 Aw w #[aq,ar] 181 λw0=>
 Aw w0 #[af,af] 89 λw1=>
 Sw w1 w0 #[aq,ar] λw2=>
 R (Value.agg #[aq,ar]) w2):ah 115 #[.agg #[aq,ar]] w R:=
 cq cf Tryz.func115 h
def rD.vc{a0:Addr}(h:
 ∃(x0:Int),ld w (ae (some a0) 2)=some (.int .i64 x0)/\
 R (Value.bool (x0==0)) w):ah 116 #[a0] w R:=
 cq cf Tryz.func116 h
def NH.vc(h:
 Br (a0>=0)
 (R (Value.bool (decide (a0<=1099511627776))) w)
 (R false w)):ah 117 #[a0] w R:=
 cq cf Tryz.func117 h
def NI.vc{a0:Sl}(h:
 ∃I0:Nat->Sl->Int->Int->Sl->World->Prop,
 (∃n1,I0 n1 a0 ((-1)) a1 ⟨none,0,0⟩ w)/\
 ∀(n1:Nat)(oX:Nat->Value)(s3:Sl)(x4 x5:Int)(s6:Sl)(w7:World),I0 n1 s3 x4 x5 s6 w7->
 Br (decide ((((s3.n:Nat):Int):Int)>0))
 (cB s3.a 0 s3.n/\∃(x9:Int),ld w7 (ae s3.a ((0:Int).toNat*1))=some (.int .u8 x9)/\
 Aw w7 #[af,af] 166 λbL=>
 Sw bL w7 #[af,(ai x9)] λcH=>
 ah 105 #[(ai x9)] cH (Rb λb13 bR=>Kp w7 cH bR/\
 Br (!b13)
 (R (Value.tuple #[.slice none 0 0,(2:Int)]) bR)
 (Br (((ai x9):Int)==x4)
 (R (Value.tuple #[.slice none 0 0,(2:Int)]) bR)
 ((0:Int)<=((s3.n:Nat):Int)/\((s3.n:Nat):Int)<=((s3.c:Nat):Int)/\(0:Int)<=((s3.n:Nat):Int)/\(((s3.n:Nat):Int):Int)<=((s3.n:Nat):Int)/\(0:Int)<=1/\(1:Int)<=((s3.n:Nat):Int)/\ah 160 #[.slice (aA s3.a ((1:Int).toNat) ((((s3.n:Nat):Int):Int).toNat) 1) ((((s3.n:Nat):Int):Int).toNat-(1:Int).toNat) ((((s3.n:Nat):Int):Int).toNat-(1:Int).toNat)] bR (λe cm=>∃(bA cY cP:Int),e=Value.tuple #[bA,cY,cP]/\Kp w7 bR cm/\
 Br (cP !=0)
 (R (Value.tuple #[.slice none 0 0,cP]) cm)
 (Br (bA==0)
 (R (Value.tuple #[.slice none 0 0,(2:Int)]) cm)
 (Br (bA>x5)
 (R (Value.tuple #[.slice none 0 0,(2:Int)]) cm)
 (Sw cm w7 #[bA,(ai x9)] λdJ=>
 (0:Int)<=(ai (1+cY))/\(ai (1+cY))<=((s3.n:Nat):Int)/\Aw dJ.drew #[bA,(ai x9)] 166 λfD=>
 aF 16 2 fD s6 1 [bA,(ai x9)]/\∀(rZ:Sl)(ea:World),aD 166 2 fD s6 1 [bA,(ai x9)] rZ ea->Kp w7 fD ea/\ea.heap[dJ.drew.heap.size]? =fD.heap[dJ.drew.heap.size]?/\
 Br (((ai (x5-bA)):Int)==0)
 (Br (decide (((ai (x5-bA)):Int)>0))
 (R (Value.tuple #[.slice none 0 0,(3:Int)]) ea)
 (Br (decide (((((s3.n-((ai (1+cY)):Int).toNat):Nat):Int):Int)>0))
 (R (Value.tuple #[.slice none 0 0,(2:Int)]) ea)
 (R (Value.tuple #[rZ,af]) ea)))
 (∃n8,n8<n1/\I0 n8 ⟨(aA s3.a (((ai (1+cY)):Int).toNat) (s3.c) 1),(s3.n-((ai (1+cY)):Int).toNat),(s3.c-((ai (1+cY)):Int).toNat)⟩ ((ai x9)) ((ai (x5-bA))) rZ ea)))))))))
 (Br (x5>0)
 (R (Value.tuple #[.slice none 0 0,(3:Int)]) w7)
 (Br (decide ((((s3.n:Nat):Int):Int)>0))
 (R (Value.tuple #[.slice none 0 0,(2:Int)]) w7)
 (R (Value.tuple #[s6,af]) w7)))):ah 119 #[a0,a1] w R:=
 cq ⟨[(3,⟨[(0,.slice),(7,.int .i64),(1,.int .i64),(6,.slice)],[],[]⟩)],[],[]⟩ Tryz.func119 h
def uL.vc{a0:Addr}(h:
 ∃(p0:Option Addr),ld w (ae (some a0) 0)=some (.pointer p0)/\
 R (Value.func (.func 43) #[p0] #[]) w):ah 11 #[a0] w R:=
 cq cf Tryz.func11 h
def NJ.vc{a1:Sl}(h:
 Aw w #[aq,ar] 89 λw0=>
 ah 161 #[a1,(8192:Int)] w0 (Rb λb2 w1=>Kp w w0 w1/\
 Br (!b2)
 (R (Value.tuple #[.pointer none,(1:Int)]) w1)
 ((ah 162 #[a1] w1.drew (Rs λs4 w3=>Kp w w1.drew w3/\
 Aw w3 #[aq,ar,s4] 183 λw5=>
 R (Value.tuple #[.pointer (bu w3),af]) w5))/\(ah 162 #[a1] w1.drew (Rs λs7 w6=>Kp w w1.drew w6/\
 av w6 w 0 [aq,ar]/\Aw w6 #[aq,ar,s7] 183 λw8=>
 R (Value.tuple #[.pointer (bu w6),af]) w8))))):ah 120 #[.agg #[aq,ar],a1] w R:=
 cq cf Tryz.func120 h
def Nx.vc(h:
 Aw w #[ao,aj] 89 λw0=>
 Aw w0 #[.slice none 0 0] 111 λw1=>
 ah 163 #[a0,.agg #[ao,aj]] w1 (Rv λv3 w2=>K2 w w0 w1 w2 (
 ∃(xs4:List (LV))(Rd5 F6:Nat->Prop)(I7:Nat->(Nat->Prop)->Sl->World->Prop)(X8:Option Nat->(Nat->Prop)->Sl->World->Prop),
 (∀x ∈ xs4,∃(x9:Int),x=[.int .i64 x9])/\
 (∀(n10:Nat)(F11:Nat->Prop)(eH:Sl)(cA cm:World),I7 n10 F11 eH cA->Below w2 cA cm->(∀i,F11 i->cm.heap[i]? =cA.heap[i]?)->I7 n10 F11 eH cm)/\
 (∀(n15:Option Nat)(F16:Nat->Prop)(gZ:Sl)(dJ fD:World),X8 n15 F16 gZ dJ->Below w2 dJ fD->(∀i,F16 i->fD.heap[i]? =dJ.heap[i]?)->X8 n15 F16 gZ fD)/\
 (∀(n20:Nat)(F21:Nat->Prop)(vG:Sl)(gi:World),I7 n20 F21 vG gi->∀i,F21 i->i<gi.heap.size/\i≠w2.heap.size/\i≠w2.heap.size+1)/\
 (∀(n24:Option Nat)(F25:Nat->Prop)(vH:Sl)(jb:World),X8 n24 F25 vH jb->∀i,F25 i->i<jb.heap.size/\i≠w2.heap.size/\i≠w2.heap.size+1)/\
 (∀i,Rd5 i->i<w2.heap.size/\¬F6 i/\i≠w.heap.size/\i≠w0.heap.size/\True)/\
 (∀eI:World,XA w2 w2 eI->Iter Tryz.prog (v3) eI Rd5 xs4/\aP [ao,aj]/\I7 0 F6 ⟨none,0,0⟩ eI)/\
 (∀(n29:Nat)(F30:Nat->Prop)(ahL:Nat->Value)(iR:Sl)(gn:Int)(ly:World),xs4[n29]? =some [.int .i64 gn]->I7 n29 F30 iR ly->
 Below ly ly ly/\∀wP:World,Rec (w2.heap.size+1) ly wP->I7 n29 F30 iR wP->
 Aw wP #[gn] 3 λnv=>
 aF 8 1 nv iR 1 [gn]/\∀(E2:Sl)(qx:World),aD 3 1 nv iR 1 [gn] E2 qx->K3 w w0 wP nv qx (
 Sw qx w0 #[E2] λiP=>
 ∃F40:Nat->Prop,(aP [ao,aj]/\I7 (n29+1) F40 E2 iP)/\Step (λi=>(F30 i\/i ∈([w.heap.size,w0.heap.size]:List Nat))\/ly.heap.size<=i) (λi=>F40 i\/i ∈([w.heap.size,w0.heap.size]:List Nat)) wP iP))/\
 (∀(F41:Nat->Prop)(aoE:Nat->Value)(TH:Sl)(jz:World),I7 xs4.length F41 TH jz->jz.heap[w2.heap.size]? =some (.deferred (some []))->
 ah 165 #[TH] jz (Rs λLD Dr=>K2 w w0 jz Dr (
 ah 164 #[LD] Dr (Rs λFA oO=>K2 w w0 Dr oO (
 oO.heap[w2.heap.size]? =some (.deferred (some []))/\∀Bq:World,Rec w2 oO Bq->
 R FA Bq)))))/\
 True))):ah 121 #[a0,.agg #[ao,aj]] w R:=
 cq ⟨[],[],[(4,⟨[],[(1,[.slice])],[]⟩,[.sc (.int .i64)])]⟩ Tryz.func121 h
def Gx.vc{a0:Sl}(h:
 ∃I0:Nat->Int->Int->World->Prop,
 (∃n1,I0 n1 (0) (0) w)/\
 ∀(n1:Nat)(oX:Nat->Value)(x3 x4:Int)(w5:World),I0 n1 x3 x4 w5->
 Br (decide (x3<((a0.n:Nat):Int)))
 (cB a0.a x3 a0.n/\bn (eQ (ae a0.a ((x3:Int).toNat*2))) (∃(x7:Int),ld w5 (ae (ae a0.a ((x3:Int).toNat*2)) 0)=some (.int .i64 x7)/\
 Br (x7<1)
 (R (Value.tuple #[.slice none 0 0,(1:Int)]) w5)
 (cB a0.a x3 a0.n/\bn (eQ (ae a0.a ((x3:Int).toNat*2))) (∃(x8:Int),ld w5 (ae (ae a0.a ((x3:Int).toNat*2)) 0)=some (.int .i64 x8)/\
 Br (decide (x8>(ai (1048576-x4))))
 (R (Value.tuple #[.slice none 0 0,(1:Int)]) w5)
 (cB a0.a x3 a0.n/\bn (eQ (ae a0.a ((x3:Int).toNat*2))) (∃(x9:Int),ld w5 (ae (ae a0.a ((x3:Int).toNat*2)) 0)=some (.int .i64 x9)/\
 ∃n6,n6<n1/\I0 n6 ((ai (x3+1))) ((ai (x4+x9))) w5))))))
 (ah 166 #[a0,x4] w5 (λe bL=>∃(Fo:Bool),e=Fo/\
 Br (!Fo)
 (R (Value.tuple #[.slice none 0 0,(1:Int)]) bL)
 (∃X7:Nat->Int->Sl->World->Prop,
 (∃uD,X7 uD (0) ⟨none,0,0⟩ bL)/\
 ∀(uD:Nat)(ah2:Nat->Value)(bA:Int)(kz:Sl)(cC:World),X7 uD bA kz cC->
 Br (decide (bA<((a0.n:Nat):Int)))
 (cB a0.a bA a0.n/\bn (eQ (ae a0.a ((bA:Int).toNat*2))) (∃(cN:Int),ld cC (ae (ae a0.a ((bA:Int).toNat*2)) 1)=some (.int .i64 cN)/\
 Aw cC #[.int .u8 (me cN)] 5 λeC=>
 aF 1 1 eC kz 1 [.int .u8 (me cN)]/\∀(jk:Sl)(cx:World),aD 5 1 eC kz 1 [.int .u8 (me cN)] jk cx->Kp cC eC cx/\
 cB a0.a bA a0.n/\bn (eQ (ae a0.a ((bA:Int).toNat*2))) (∃(de:Int),ld cx (ae (ae a0.a ((bA:Int).toNat*2)) 0)=some (.int .i64 de)/\
 ah 167 #[de] cx (Rs λmb fu=>Kp cC cx fu/\
 ∃l26:LV,Rd fu mb.a l26/\aF 1 1 fu jk mb.n l26/\∀(lV:Sl)(eI:World),aD 5 1 fu jk mb.n l26 lV eI->Kp cC fu eI/\
 ∃Pz,Pz<uD/\X7 Pz ((ai (bA+1))) lV eI))))
 (R (Value.tuple #[kz,af]) cC))))):ah 122 #[a0] w R:=
 cq ⟨[(13,⟨[(8,.int .i64),(7,.slice)],[],[]⟩),(3,⟨[(5,.int .i64),(4,.int .i64)],[],[]⟩)],[],[]⟩ Tryz.func122 h
def J7.vc{a0:Sl}(h:
 ∃I0:Nat->Int->Int->Sl->World->Prop,
 (∃n1,I0 n1 a1 (0) ⟨none,0,0⟩ w)/\
 ∀(n1:Nat)(oX:Nat->Value)(x3 x4:Int)(s5:Sl)(w6:World),I0 n1 x3 x4 s5 w6->
 Br (x3>0)
 (Br (decide (x4>=((a0.n:Nat):Int)))
 (R (Value.tuple #[.slice none 0 0,(3:Int)]) w6)
 (cB a0.a x4 a0.n/\∃(x8:Int),ld w6 (ae a0.a ((x4:Int).toNat*1))=some (.int .u8 x8)/\
 ah 146 #[(ai x8)] w6 (λe w9=>∃(WH:Bool),e=WH/\
 Br (!WH)
 (R (Value.tuple #[.slice none 0 0,(2:Int)]) w9)
 (Br (decide ((((s5.n:Nat):Int):Int)>0))
 (cB s5.a (if 0>(ai (((s5.n:Nat):Int)-1)) then 0 else (ai (((s5.n:Nat):Int)-1))) s5.n/\bn (eQ (ae s5.a (((if 0>(ai (((s5.n:Nat):Int)-1)) then 0 else (ai (((s5.n:Nat):Int)-1))):Int).toNat*2))) (∃(bV:Int),ld w9 (ae (ae s5.a (((if 0>(ai (((s5.n:Nat):Int)-1)) then 0 else (ai (((s5.n:Nat):Int)-1))):Int).toNat*2)) 1)=some (.int .i64 bV)/\
 Br (bV==(ai x8))
 (R (Value.tuple #[.slice none 0 0,(2:Int)]) w9)
 ((0:Int)<=(ai (x4+1))/\(ai (x4+1))<=((a0.n:Nat):Int)/\ah 173 #[.slice (aA a0.a (((ai (x4+1)):Int).toNat) (a0.c) 1) (a0.n-((ai (x4+1)):Int).toNat) (a0.c-((ai (x4+1)):Int).toNat)] w9 (λe bR=>∃(cD cl bA:Int),e=Value.tuple #[cD,cl,bA]/\
 Br (bA !=0)
 (R (Value.tuple #[.slice none 0 0,bA]) bR)
 (Br (cD==0)
 (R (Value.tuple #[.slice none 0 0,(2:Int)]) bR)
 (Br (cD>x3)
 (R (Value.tuple #[.slice none 0 0,(2:Int)]) bR)
 (Aw bR #[cD,(ai x8)] 166 λdy=>
 aF 16 2 dy s5 1 [cD,(ai x8)]/\∀(gZ:Sl)(dJ:World),aD 166 2 dy s5 1 [cD,(ai x8)] gZ dJ->Kp bR dy dJ/\
 ∃n7,n7<n1/\I0 n7 ((ai (x3-cD))) ((ai ((ai (x4+1))+cl))) gZ dJ)))))))
 ((0:Int)<=(ai (x4+1))/\(ai (x4+1))<=((a0.n:Nat):Int)/\ah 173 #[.slice (aA a0.a (((ai (x4+1)):Int).toNat) (a0.c) 1) (a0.n-((ai (x4+1)):Int).toNat) (a0.c-((ai (x4+1)):Int).toNat)] w9 (λe fD=>∃(dK fW eY:Int),e=Value.tuple #[dK,fW,eY]/\
 Br (eY !=0)
 (R (Value.tuple #[.slice none 0 0,eY]) fD)
 (Br (dK==0)
 (R (Value.tuple #[.slice none 0 0,(2:Int)]) fD)
 (Br (dK>x3)
 (R (Value.tuple #[.slice none 0 0,(2:Int)]) fD)
 (Aw fD #[dK,(ai x8)] 166 λgi=>
 aF 16 2 gi s5 1 [dK,(ai x8)]/\∀(kL:Sl)(eg:World),aD 166 2 gi s5 1 [dK,(ai x8)] kL eg->Kp fD gi eg/\
 ∃n7,n7<n1/\I0 n7 ((ai (x3-dK))) ((ai ((ai (x4+1))+fW))) kL eg)))))))))
 (Br (decide (x4<((a0.n:Nat):Int)))
 (R (Value.tuple #[.slice none 0 0,(2:Int)]) w6)
 (R (Value.tuple #[s5,af]) w6))):ah 126 #[a0,a1] w R:=
 cq ⟨[(3,⟨[(1,.int .i64),(7,.int .i64),(6,.slice)],[],[]⟩)],[],[]⟩ Tryz.func126 h
def Gy.vc(h:
 Aw w #[ao,aj] 89 λw0=>
 ∃I1:Nat->Int->Sl->World->Prop,
 (∃n2,aP [ao,aj]/\I1 n2 (0) ⟨none,0,0⟩ w0)/\
 ∀(n2:Nat)(Ww:Nat->Value)(x4:Int)(s5:Sl)(w6:World),I1 n2 x4 s5 w6->
 Br (x4<8192)
 (ah 174 #[.agg #[ao,aj],x4] w6 (λe w8=>∃(x9 br bV:Int)(b12:Bool),e=Value.tuple #[.agg #[x9,br,bV],b12]/\Kp w w6 w8/\
 Aw w8 #[af,af,af] 23 λcA=>
 Sw cA w8 #[x9,br,bV] λcm=>
 ah 175 #[a0,.agg #[x9,br,bV]] cm (Ri λcY cS=>K2 w w8 cm cS (
 Aw cS #[cY] 3 λcC=>
 aF 8 1 cC s5 1 [cY]/\∀(X9:Sl)(fD:World),aD 3 1 cC s5 1 [cY] X9 fD->K3 w w8 cS cC fD (
 ∃n7,n7<n2/\aP [ao,aj]/\I1 n7 ((ai (x4+1))) X9 fD)))))
 (ah 176 #[s5] w6 (Rs λjk eC=>Kp w w6 eC/\
 R jk eC))):ah 127 #[a0,.agg #[ao,aj]] w R:=
 cq ⟨[(3,⟨[(6,.int .i64),(5,.slice)],[],[]⟩)],[],[]⟩ Tryz.func127 h
def QN.vc(h:
 Br (a1<1)
 (R (0:Int) w)
 (bn (Na a1) (bn (Na a1) (Br (decide (((Int.tmod a0 a1):Int)<0))
 (R ((ai ((ai (Int.tdiv a0 a1))-1))) w)
 (R ((ai (Int.tdiv a0 a1))) w))))):ah 128 #[a0,a1] w R:=
 cq cf Tryz.func128 h
def te.vc(h:
 Aw w #[aq,ar] 181 λw0=>
 Aw w0 #[ao,aj,aw] 23 λw1=>
 ah 104 #[.agg #[ao,aj,aw]] w1 (λe w2=>∃(x3:Int)(b4:Bool),e=Value.tuple #[x3,b4]/\K2 w w0 w1 w2 (
 Br b4
 (ah 85 #[.agg #[ao,aj,aw]] w2.drew (Xz λx6 x7 w5=>K2 w w0 w2.drew w5 (
 av w5 w 0 [aq,ar]/\R (Value.tuple #[x3,.bool ((x6==aq) &&(x7==ar))]) w5)))
 (R (Value.tuple #[x3,false]) w2.drew)))):ah 129 #[.agg #[aq,ar],.agg #[ao,aj,aw]] w R:=
 cq cf Tryz.func129 h
def VD.vc{a0:Sl}(h:
 ∃I0:Nat->Int->Int->World->Prop,
 (∃n1,I0 n1 (0) a1 w)/\
 ∀(n1:Nat)(oX:Nat->Value)(x3 x4:Int)(w5:World),I0 n1 x3 x4 w5->
 Br (decide (x3<((a0.n:Nat):Int)))
 (cB a0.a x3 a0.n/\∃(x7 x8:Int),av w5 (ae a0.a ((x3:Int).toNat*2)) 0 [x7,x8]/\
 Aw w5 #[af,af] 166 λw9=>
 Sw w9 w5 #[x7,x8] λbL=>
 Br (x4>=0)
 (Br (x4<x7)
 (R x8 bL)
 (∃n6,n6<n1/\I0 n6 ((ai (x3+1))) ((ai (x4-x7))) bL))
 (∃n6,n6<n1/\I0 n6 ((ai (x3+1))) ((ai (x4-x7))) bL))
 (R (Value.int .i64 (-1)) w5)):ah 130 #[a0,a1] w R:=
 cq ⟨[(2,⟨[(9,.int .i64),(1,.int .i64)],[],[]⟩)],[],[]⟩ Tryz.func130 h
def NK.vc(h:
 Br (a0>=8)
 (R (Value.bool (decide (a0<16))) w)
 (R false w)):ah 134 #[a0] w R:=
 cq cf Tryz.func134 h
def uW.vc{a0:Addr}(h:
 ∃(s0:Sl),ld w (ae (some a0) 3)=some (.slice s0.a s0.n s0.c)/\
 ∃I1:Nat->Int->Sl->World->Prop,
 (∃n2,I1 n2 (0) ⟨none,0,0⟩ w)/\
 ∀(n2:Nat)(Ww:Nat->Value)(x4:Int)(s5:Sl)(w6:World),I1 n2 x4 s5 w6->
 Br (decide (x4<((s0.n:Nat):Int)))
 (cB s0.a x4 s0.n/\∃(p8:Option Addr),ld w6 (ae s0.a ((x4:Int).toNat*1))=some (.pointer p8)/\
 bn (eQ p8) (bn (eQ p8) (∃(p9:Option Addr),ld w6 (ae p8 0)=some (.pointer p9)/\
 bn (eQ p9) (bn (eQ p9) (∃(br bV:Int),av w6 (ae p9 0) 0 [br,bV]/\
 ah 115 #[.agg #[br,bV]] w6 (λe bR=>∃(cD cl:Int),e=Value.agg #[cD,cl]/\
 Aw bR #[cD,cl] 89 λcS=>
 aF 16 2 cS s5 1 [cD,cl]/\∀(kz:Sl)(cC:World),aD 89 2 cS s5 1 [cD,cl] kz cC->Kp bR cS cC/\
 ∃n7,n7<n2/\I1 n7 ((ai (x4+1))) kz cC))))))
 (R s5 w6)):ah 135 #[a0] w R:=
 cq ⟨[(3,⟨[(11,.int .i64),(3,.slice)],[],[]⟩)],[],[]⟩ Tryz.func135 h
def FV.vc(h:
 Aw w #[aq,ar] 89 λw0=>
 Aw w0 #[af,af,af,af,af,af,af,af,af,af] 202 λw1=>
 Wt w1 ⟨w0,0,none⟩ 10/\Nb w0 w/\(∀w2,w2=aZ w1 (bu w0) [aq,ar,(ai (aq-1)),ar,(ai (aq+1)),ar,aq,(ai (ar-1)),aq,(ai (ar+1))]->
 ∃(x3 x4 x5 x6 x7 x8 x9 br bV bT:Int),av w2 (bu w0) 0 [x3,x4,x5,x6,x7,x8,x9,br,bV,bT]/\
 R (Value.agg #[x3,x4,x5,x6,x7,x8,x9,br,bV,bT]) w2)):ah 136 #[.agg #[aq,ar]] w R:=
 cq cf Tryz.func136 h
def qA.vc{a0:Sl}(h:
 Aw w #[ao,aj] 89 λw0=>
 ah 184 #[a0,.agg #[ao,aj]] w0 (Ri λx2 w1=>Kp w w0 w1/\
 R (Value.bool (decide (x2>=0))) w1)):ah 137 #[a0,.agg #[ao,aj]] w R:=
 cq cf Tryz.func137 h
def Gz.vc(h:
 ah 134 #[a0] w (λe w0=>∃(b1:Bool),e=b1/\
 Br (!b1)
 (R (Value.int .i64 (-1)) w0)
 (R ((ai (a0-8))) w0))):ah 140 #[a0] w R:=
 cq cf Tryz.func140 h
def Nr.vc(h:
 bn (Na a1) (Br (decide (((ai ((ai (Int.tdiv a0 a1))*a1)):Int)>a0))
 (R ((ai ((ai (Int.tdiv a0 a1))-1))) w)
 (R ((ai (Int.tdiv a0 a1))) w))):ah 144 #[a0,a1] w R:=
 cq cf Tryz.func144 h
def Gb.vc(h:
 Aw w #[aq,ar,au] 23 λw0=>
 Br (ar<0)
 (R (Value.tuple #[af,false]) w0)
 (Br (ar>31)
 (R (Value.tuple #[af,false]) w0)
 (ah 44 #[au,(16:Int)] w0.drew (Ri λx2 w1=>Kp w w0.drew w1/\
 av w1 w 0 [aq]/\av w1 (pd w 1) 0 [ar]/\ah 44 #[aq,(16:Int)] w1 (Ri λx4 w3=>Kp w w1 w3/\
 av w3 (pd w 1) 0 [ar]/\R (Value.tuple #[(ai ((ai ((ai (ar*256))+(ai (x2*16))))+x4)),true]) w3))))):ah 145 #[.agg #[aq,ar,au]] w R:=
 cq cf Tryz.func145 h
def NL.vc(h:
 Br (a0>=0)
 (Br (a0<=15)
 (Br (a0 !=6)
 (R (Value.bool (a0 !=7)) w)
 (R false w))
 (R false w))
 (R false w)):ah 146 #[a0] w R:=
 cq cf Tryz.func146 h
def NM.vc{au:Sl}(h:
 Aw w #[aq,ar,au] 108 λw0=>
 Aw w0 #[ao,aj,aw] 23 λw1=>
 Aw w1 #[af,af,.slice none 0 0] 108 λw2=>
 ah 97 #[.agg #[aq,ar,au],.agg #[ao,aj,aw]] w2 (Ri λx4 w3=>K3 w w0 w1 w2 w3 (
 Br (x4<0)
 (Sw w3 w1 #[aq,ar,au] λw5=>
 R (Value.tuple #[.agg #[aq,ar,au],(5:Int)]) w5)
 (ah 146 #[a2] w3 (Rb λb7 w6=>K3 w w0 w1 w3 w6 (
 Br (!b7)
 (Sw w6 w1 #[aq,ar,au] λw8=>
 R (Value.tuple #[.agg #[aq,ar,au],(1:Int)]) w8)
 (ah 189 #[au,x4,a2] w6 (Rs λcL w9=>K3 w w0 w1 w6 w9 (
 Sw w9 w #[aq,ar,cL] λcH=>
 Sw cH w1 #[aq,ar,cL] λbR=>
 R (Value.tuple #[.agg #[aq,ar,cL],(0:Int)]) bR))))))))):ah 147 #[.agg #[aq,ar,au],.agg #[ao,aj,aw],a2] w R:=
 cq cf Tryz.func147 h
def QO.vc(h:
 Br (a1<1)
 (R (0:Int) w)
 (bn (Na a1) (Br (decide (((Int.tmod a0 a1):Int)<0))
 (R ((ai ((Int.tmod a0 a1)+a1))) w)
 (R (Value.int .i64 (Int.tmod a0 a1)) w)))):ah 148 #[a0,a1] w R:=
 cq cf Tryz.func148 h
def J8.vc(h:
 Br (a0<0)
 (R (Value.string (ByteArray.mk #[])) w)
 (Br (a0>=16)
 (R (Value.string (ByteArray.mk #[])) w)
 (ah 190 #[] w (λe w0=>∃(t1 t2 t3 t4 t5 t6 t7 t8 t9 t10 t11 t12 t13 t14 t15 t16:ByteArray),e=Value.agg #[.string t1,.string t2,.string t3,.string t4,.string t5,.string t6,.string t7,.string t8,.string t9,.string t10,.string t11,.string t12,.string t13,.string t14,.string t15,.string t16]/\
 ((0:Int)<=a0/\a0<((16:Nat):Int))/\∃(t17:ByteArray),([.string t1,.string t2,.string t3,.string t4,.string t5,.string t6,.string t7,.string t8,.string t9,.string t10,.string t11,.string t12,.string t13,.string t14,.string t15,.string t16]:LV)[(a0:Int).toNat*1]? =some (.string t17)/\
 R (Value.string t17) w0)))):ah 149 #[a0] w R:=
 cq cf Tryz.func149 h
def Q4.vc{a0:Sl}(h:
 Br (a1<0)
 (ah 162 #[a0] w (λe w0=>∃(s1:Sl),e=s1/\
 R s1 w0))
 (ah 191 #[a0] w (λe w2=>∃(x3:Int),e=x3/\
 Br (a1>=x3)
 (ah 162 #[a0] w2 (λe w4=>∃(s5:Sl),e=s5/\
 R s5 w4))
 (ah 192 #[a0,a1,(ai (a1+1)),a2] w2 (λe w6=>∃(s7:Sl),e=s7/\
 R s7 w6))))):ah 150 #[a0,a1,a2] w R:=
 cq cf Tryz.func150 h
def tf.vc{a0:Addr}(h:
 ∃(s0:Sl),ld w (ae (some a0) 2)=some (.slice s0.a s0.n s0.c)/\
 ah 196 #[s0] w (λe w1=>∃(s2:Sl)(x3:Int),e=Value.tuple #[s2,x3]/\
 R s2 w1)):ah 152 #[a0] w R:=
 cq cf Tryz.func152 h
def Q5.vc(h:
 ∀w0,w0=w.alloc (.map #[] 0)->
 Aw w0 #[.int .i64 (if 1048576<(if 0>a0 then 0 else a0) then 1048576 else (if 0>a0 then 0 else a0)),af,af,.map (some w.heap.size),.slice none 0 0] 262 λw1=>
 R (Value.pointer (bu w0)) w1):ah 157 #[a0] w R:=
 cq cf Tryz.func157 h
def BE.vc{a0:Addr}(h:
 ah 202 #[a0] w (λe w0=>∃(m1:Option Nat),e=Value.map m1/\
 ∃(G2:Value->Prop)(kvs3:List (Value × Value)),gF Tryz.prog 3 G2/\bK G2 w0 m1 kvs3/\G2 a1/\∃(s4:Sl),∃b5:Bool,BF kvs3 a1 (.slice none 0 0) s4 b5/\
 ah 203 #[s4] w0 (λe w6=>∃(s7:Sl),e=s7/\
 R (Value.tuple #[s7,b5]) w6))):ah 158 #[a0,a1] w R:=
 cq cf Tryz.func158 h
def J9.vc{a0:Sl}(h:
 ah 204 #[a0] w (λe w0=>∃(s1:Sl)(x2:Int),e=Value.tuple #[s1,x2]/\
 Br (x2 !=0)
 (R (Value.tuple #[af,.slice none 0 0,x2]) w0)
 (Br (decide ((((s1.n:Nat):Int):Int)<7))
 (R (Value.tuple #[af,.slice none 0 0,(3:Int)]) w0)
 ((0:Int)<=4/\4<=((s1.c:Nat):Int)/\(0:Int)<=7/\7<=((s1.c:Nat):Int)/\(0:Int)<=4/\(4:Int)<=7/\(0:Int)<=7/\7<=((s1.n:Nat):Int)/\ah 205 #[.slice (aA s1.a (0) (s1.c) 1) ((4:Int).toNat-0) (s1.c-0)] w0.drew (λe w3=>∃(x4:Int),e=x4/\
 ah 205 #[.slice (aA s1.a ((4:Int).toNat) (s1.c) 1) ((7:Int).toNat-(4:Int).toNat) (s1.c-(4:Int).toNat)] w3 (λe w5=>∃(x6:Int),e=x6/\
 Br (x4<1)
 (R (Value.tuple #[af,.slice none 0 0,(2:Int)]) w5)
 (Br (x4>1073741824)
 (R (Value.tuple #[af,.slice none 0 0,(2:Int)]) w5)
 (Br (x6>65536)
 (R (Value.tuple #[af,.slice none 0 0,(2:Int)]) w5)
 (Br (x6 !=(((s1.n-(7:Int).toNat):Nat):Int))
 (R (Value.tuple #[af,.slice none 0 0,(2:Int)]) w5)
 (R (Value.tuple #[x4,.slice (aA s1.a ((7:Int).toNat) (s1.c) 1) (s1.n-(7:Int).toNat) (s1.c-(7:Int).toNat),af]) w5)))))))))):ah 159 #[a0] w R:=
 cq cf Tryz.func159 h
def GA.vc{a0:Sl}(h:
 (0:Int)<=(if 3<((a0.n:Nat):Int) then 3 else ((a0.n:Nat):Int))/\(if 3<((a0.n:Nat):Int) then 3 else ((a0.n:Nat):Int))<=((a0.c:Nat):Int)/\∃I0:Nat->Int->Int->World->Prop,
 (∃n1,I0 n1 (0) (0) w)/\
 ∀(n1:Nat)(oX:Nat->Value)(x3 x4:Int)(w5:World),I0 n1 x3 x4 w5->
 Br (decide (x3<(((((if 3<((a0.n:Nat):Int) then 3 else ((a0.n:Nat):Int)):Int).toNat-0):Nat):Int)))
 (cB (aA a0.a (0) (a0.c) 1) x3 (((if 3<((a0.n:Nat):Int) then 3 else ((a0.n:Nat):Int)):Int).toNat-0)/\∃(x7:Int),ld w5 (ae (aA a0.a (0) (a0.c) 1) ((x3:Int).toNat*1))=some (.int .u8 x7)/\
 bn (YL (ai (7*x3))) (Br (x7>=128)
 (∃n6,n6<n1/\I0 n6 ((ai (x3+1))) ((FI .i64 x4 (ai ((ai (jZ .u8 x7 128))*2 ^(min ((ai (7*x3)):Int).toNat 64))))) w5)
 (Br (x7==0)
 (Br (x3>0)
 (R (Value.tuple #[af,af,(2:Int)]) w5)
 (Br (decide (((FI .i64 x4 (ai ((ai (jZ .u8 x7 128))*2 ^(min ((ai (7*x3)):Int).toNat 64)))):Int)>1048576))
 (R (Value.tuple #[af,af,(2:Int)]) w5)
 (R (Value.tuple #[.int .i64 (FI .i64 x4 (ai ((ai (jZ .u8 x7 128))*2 ^(min ((ai (7*x3)):Int).toNat 64)))),(ai (x3+1)),af]) w5)))
 (Br (decide (((FI .i64 x4 (ai ((ai (jZ .u8 x7 128))*2 ^(min ((ai (7*x3)):Int).toNat 64)))):Int)>1048576))
 (R (Value.tuple #[af,af,(2:Int)]) w5)
 (R (Value.tuple #[.int .i64 (FI .i64 x4 (ai ((ai (jZ .u8 x7 128))*2 ^(min ((ai (7*x3)):Int).toNat 64)))),(ai (x3+1)),af]) w5)))))
 (Br (decide ((((a0.n:Nat):Int):Int)<3))
 (R (Value.tuple #[af,af,(3:Int)]) w5)
 (R (Value.tuple #[af,af,(2:Int)]) w5))):ah 160 #[a0] w R:=
 cq ⟨[(3,⟨[(14,.int .i64),(5,.int .i64)],[],[]⟩)],[],[]⟩ Tryz.func160 h
def Q6.vc{a0:Sl}(h:
 ∃I0:Nat->Int->Int->World->Prop,
 (∃n1,I0 n1 (0) a1 w)/\
 ∀(n1:Nat)(oX:Nat->Value)(x3 x4:Int)(w5:World),I0 n1 x3 x4 w5->
 Br (decide (x3<((a0.n:Nat):Int)))
 (cB a0.a x3 a0.n/\∃(x7 x8:Int),av w5 (ae a0.a ((x3:Int).toNat*2)) 0 [x7,x8]/\
 Aw w5 #[af,af] 166 λw9=>
 Sw w9 w5 #[x7,x8] λbL=>
 Br (x7<1)
 (R false bL.drew)
 (Br (x7>x4)
 (R false bL.drew)
 (ah 105 #[x8] bL.drew (Rb λb12 cH=>Kp w5 bL.drew cH/\
 av cH w5 0 [x7]/\av cH w5 0 [x7]/\Br (!b12)
 (R false cH)
 (Br (x3>0)
 (cB a0.a (ai (x3-1)) a0.n/\bn (eQ (ae a0.a (((ai (x3-1)):Int).toNat*2))) (∃(cD:Int),ld cH (ae (ae a0.a (((ai (x3-1)):Int).toNat*2)) 1)=some (.int .i64 cD)/\
 Br (cD==x8)
 (R false cH)
 (∃n6,n6<n1/\I0 n6 ((ai (x3+1))) ((ai (x4-x7))) cH)))
 (∃n6,n6<n1/\I0 n6 ((ai (x3+1))) ((ai (x4-x7))) cH))))))
 (Br (a1>0)
 (R (Value.bool (x4==0)) w5)
 (R false w5))):ah 161 #[a0,a1] w R:=
 cq ⟨[(3,⟨[(11,.int .i64),(5,.int .i64)],[],[]⟩)],[],[]⟩ Tryz.func161 h
def uX.vc{a0:Sl}(h:
 Br (a0.a).isNone
 (R (Value.slice none 0 0) w)
 (Aw w #[] 166 λw0=>
 ∃l1:LV,Rd w0 a0.a l1/\aF 16 2 w0 ⟨(bu w),0,0⟩ a0.n l1/\∀(s2:Sl)(w3:World),aD 166 2 w0 ⟨(bu w),0,0⟩ a0.n l1 s2 w3->Kp w w0 w3/\
 R s2 w3)):ah 162 #[a0] w R:=
 cq cf Tryz.func162 h
def NN.vc(h:
 Aw w #[a0] 3 λw0=>
 Aw w0 #[ao,aj] 89 λw1=>
 R (Value.func (.func 206) #[] #[.pointer (bu w0),w]) w1):ah 163 #[a0,.agg #[ao,aj]] w R:=
 cq cf Tryz.func163 h
def VE.vc{a0:Sl}(h:
 ∃I0:Nat->Int->Sl->World->Prop,
 (∃n1,I0 n1 (0) ⟨none,0,0⟩ w)/\
 ∀(n1:Nat)(oX:Nat->Value)(x3:Int)(s4:Sl)(w5:World),I0 n1 x3 s4 w5->
 Br (decide (x3<((a0.n:Nat):Int)))
 (cB a0.a x3 a0.n/\∃(x7:Int),ld w5 (ae a0.a ((x3:Int).toNat*1))=some (.int .i64 x7)/\
 ah 210 #[s4,.agg #[(1:Int),x7]] w5 (λe w8=>∃(s9:Sl),e=s9/\
 ∃n6,n6<n1/\I0 n6 ((ai (x3+1))) s9 w8))
 (R s4 w5)):ah 164 #[a0] w R:=
 cq ⟨[(3,⟨[(8,.int .i64),(3,.slice)],[],[]⟩)],[],[]⟩ Tryz.func164 h
def xl.vc{a0:Sl}(h:
 (0:Int)<=((a0.n:Nat):Int)/\((a0.n:Nat):Int)<=((a0.c:Nat):Int)/\(0:Int)<=((a0.n:Nat):Int)/\(((a0.n:Nat):Int):Int)<=((a0.n:Nat):Int)/\R (Value.slice (aA a0.a (0) ((((a0.n:Nat):Int):Int).toNat) 1) ((((a0.n:Nat):Int):Int).toNat-0) ((((a0.n:Nat):Int):Int).toNat-0)) w):ah 165 #[a0] w R:=
 cq cf Tryz.func165 h
def NO.vc{a0:Sl}(h:
 ∃I0:Nat->Int->Int->World->Prop,
 (∃n1,I0 n1 (0) a1 w)/\
 ∀(n1:Nat)(oX:Nat->Value)(x3 x4:Int)(w5:World),I0 n1 x3 x4 w5->
 Br (decide (x3<((a0.n:Nat):Int)))
 (cB a0.a x3 a0.n/\bn (eQ (ae a0.a ((x3:Int).toNat*2))) (∃(x7:Int),ld w5 (ae (ae a0.a ((x3:Int).toNat*2)) 1)=some (.int .i64 x7)/\
 ah 146 #[x7] w5 (λe w8=>∃(b9:Bool),e=b9/\
 Br (!b9)
 (R false w8)
 (cB a0.a x3 a0.n/\bn (eQ (ae a0.a ((x3:Int).toNat*2))) (∃(br:Int),ld w8 (ae (ae a0.a ((x3:Int).toNat*2)) 0)=some (.int .i64 br)/\
 Br (br<1)
 (R false w8)
 (cB a0.a x3 a0.n/\bn (eQ (ae a0.a ((x3:Int).toNat*2))) (∃(bV:Int),ld w8 (ae (ae a0.a ((x3:Int).toNat*2)) 0)=some (.int .i64 bV)/\
 Br (bV>x4)
 (R false w8)
 (Br (x3>0)
 (cB a0.a x3 a0.n/\bn (eQ (ae a0.a ((x3:Int).toNat*2))) (∃(bT:Int),ld w8.drew (ae (ae a0.a ((x3:Int).toNat*2)) 1)=some (.int .i64 bT)/\
 cB a0.a (ai (x3-1)) a0.n/\bn (eQ (ae a0.a (((ai (x3-1)):Int).toNat*2))) (∃(cD:Int),ld w8.drew (ae (ae a0.a (((ai (x3-1)):Int).toNat*2)) 1)=some (.int .i64 cD)/\
 Br (bT==cD)
 (R false w8.drew)
 (cB a0.a x3 a0.n/\bn (eQ (ae a0.a ((x3:Int).toNat*2))) (∃(cl:Int),ld w8.drew (ae (ae a0.a ((x3:Int).toNat*2)) 0)=some (.int .i64 cl)/\
 ∃n6,n6<n1/\I0 n6 ((ai (x3+1))) ((ai (x4-cl))) w8.drew)))))
 (cB a0.a x3 a0.n/\bn (eQ (ae a0.a ((x3:Int).toNat*2))) (∃(bA:Int),ld w8.drew (ae (ae a0.a ((x3:Int).toNat*2)) 0)=some (.int .i64 bA)/\
 ∃n6,n6<n1/\I0 n6 ((ai (x3+1))) ((ai (x4-bA))) w8.drew))))))))))
 (Br (x4==0)
 (R (Value.bool (decide (a1>0))) w5)
 (R false w5))):ah 166 #[a0,a1] w R:=
 cq ⟨[(3,⟨[(6,.int .i64),(5,.int .i64)],[],[]⟩)],[],[]⟩ Tryz.func166 h
def D3.vc(h:
 Br (a0<0)
 (R (Value.slice none 0 0) w)
 (Br (a0>1048576)
 (R (Value.slice none 0 0) w)
 (∃I0:Nat->Int->Int->Sl->World->Prop,
 (∃n1,I0 n1 (0) a0 ⟨none,0,0⟩ w)/\
 ∀(n1:Nat)(oX:Nat->Value)(x3 x4:Int)(s5:Sl)(w6:World),I0 n1 x3 x4 s5 w6->
 Br (x3<3)
 (Br (x4<128)
 (Aw w6 #[.int .u8 (me x4)] 5 λw8=>
 aF 1 1 w8 s5 1 [.int .u8 (me x4)]/\∀(s9:Sl)(bL:World),aD 5 1 w8 s5 1 [.int .u8 (me x4)] s9 bL->Kp w6 w8 bL/\
 R s9 bL)
 (Aw w6 #[.int .u8 (me (ai (128+(Int.tmod x4 128))))] 5 λcH=>
 aF 1 1 cH s5 1 [.int .u8 (me (ai (128+(Int.tmod x4 128))))]/\∀(eH:Sl)(cA:World),aD 5 1 cH s5 1 [.int .u8 (me (ai (128+(Int.tmod x4 128))))] eH cA->Kp w6 cH cA/\
 ∃n7,n7<n1/\I0 n7 ((ai (x3+1))) ((ai (Int.tdiv x4 128))) eH cA))
 (R s5 w6)))):ah 167 #[a0] w R:=
 cq ⟨[(5,⟨[(4,.int .i64),(0,.int .i64),(3,.slice)],[],[]⟩)],[],[]⟩ Tryz.func167 h
def D4.vc{a0:Sl}(h:
 ∃I0:Nat->Int->Int->Int->World->Prop,
 (∃n1,I0 n1 (0) (0) (1) w)/\
 ∀(n1:Nat)(oX:Nat->Value)(x3 x4 x5:Int)(w6:World),I0 n1 x3 x4 x5 w6->
 Br (x3<3)
 (Br (decide (x3>=((a0.n:Nat):Int)))
 (R (Value.tuple #[af,af,(3:Int)]) w6)
 (cB a0.a x3 a0.n/\∃(x8:Int),ld w6 (ae a0.a ((x3:Int).toNat*1))=some (.int .u8 x8)/\
 Br (decide (((ai x8):Int)>=128))
 (∃n7,n7<n1/\I0 n7 ((ai (x3+1))) ((ai (x4+(ai ((Int.tmod (ai x8) 128)*x5))))) ((ai (x5*128))) w6)
 (Br (((ai x8):Int)==0)
 (Br (x3>0)
 (R (Value.tuple #[af,af,(2:Int)]) w6)
 (Br (decide (((ai (x4+(ai ((Int.tmod (ai x8) 128)*x5)))):Int)>1048576))
 (R (Value.tuple #[af,af,(2:Int)]) w6)
 (R (Value.tuple #[(ai (x4+(ai ((Int.tmod (ai x8) 128)*x5)))),(ai (x3+1)),af]) w6)))
 (Br (decide (((ai (x4+(ai ((Int.tmod (ai x8) 128)*x5)))):Int)>1048576))
 (R (Value.tuple #[af,af,(2:Int)]) w6)
 (R (Value.tuple #[(ai (x4+(ai ((Int.tmod (ai x8) 128)*x5)))),(ai (x3+1)),af]) w6)))))
 (R (Value.tuple #[af,af,(2:Int)]) w6)):ah 173 #[a0] w R:=
 cq ⟨[(4,⟨[(7,.int .i64),(5,.int .i64),(6,.int .i64)],[],[]⟩)],[],[]⟩ Tryz.func173 h
def JP.vc(h:
 Aw w #[aq,ar] 89 λw0=>
 Aw w0 #[af,af,af] 23 λw1=>
 Br (a1<0)
 (Sw w1 w0 #[af,af,af] λw2=>
 R (Value.tuple #[.agg #[af,af,af],false]) w2)
 (Br (a1>8191)
 (Sw w1 w0 #[af,af,af] λw3=>
 R (Value.tuple #[.agg #[af,af,af],false]) w3)
 (Sw w1 w0 #[(ai ((ai (aq*16))+(Int.tmod a1 16))),(ai (Int.tdiv a1 256)),(ai ((ai (ar*16))+(ai (Int.tdiv (Int.tmod a1 256) 16))))] λw4=>
 R (Value.tuple #[.agg #[(ai ((ai (aq*16))+(Int.tmod a1 16))),(ai (Int.tdiv a1 256)),(ai ((ai (ar*16))+(ai (Int.tdiv (Int.tmod a1 256) 16))))],true]) w4))):ah 174 #[.agg #[aq,ar],a1] w R:=
 cq cf Tryz.func174 h
def Gj.vc(h:
 Aw w #[ao,aj,aw] 23 λw0=>
 ah 219 #[a0,ao,aw] w0 (Ri λx2 w1=>Kp w w0 w1/\
 Br (aj<0)
 (R (0:Int) w1)
 (Br (aj>31)
 (R (0:Int) w1)
 (Br (aj==0)
 (R (1:Int) w1)
 (Br (decide (aj<(ai (x2-3))))
 (R (1:Int) w1)
 (Br (decide (aj<(ai (x2-1))))
 (R (2:Int) w1)
 (Br (aj==(ai (x2-1)))
 (Br (x2<=9)
 (R (3:Int) w1)
 (R (2:Int) w1))
 (Br (aj<9)
 (R (8:Int) w1)
 (R (0:Int) w1))))))))):ah 175 #[a0,.agg #[ao,aj,aw]] w R:=
 cq cf Tryz.func175 h
def QW.vc{a0:Sl}(h:
 ∃I0:Nat->Int->Sl->World->Prop,
 (∃n1,I0 n1 (0) ⟨none,0,0⟩ w)/\
 ∀(n1:Nat)(oX:Nat->Value)(x3:Int)(s4:Sl)(w5:World),I0 n1 x3 s4 w5->
 Br (decide (x3<((a0.n:Nat):Int)))
 (Br (x3>0)
 (cB a0.a (ai (x3-1)) a0.n/\∃(x7:Int),ld w5.drew (ae a0.a (((ai (x3-1)):Int).toNat*1))=some (.int .i64 x7)/\
 cB a0.a x3 a0.n/\∃(x8:Int),ld w5.drew (ae a0.a ((x3:Int).toNat*1))=some (.int .i64 x8)/\
 Br (x7==x8)
 (cB s4.a (ai (((s4.n:Nat):Int)-1)) s4.n/\bn (eQ (ae s4.a (((ai (((s4.n:Nat):Int)-1)):Int).toNat*2))) (∃(x9:Int),ld w5.drew (ae (ae s4.a (((ai (((s4.n:Nat):Int)-1)):Int).toNat*2)) 0)=some (.int .i64 x9)/\
 cB s4.a (ai (((s4.n:Nat):Int)-1)) s4.n/\bn (eQ (ae s4.a (((ai (((s4.n:Nat):Int)-1)):Int).toNat*2))) ((((ae (ae s4.a (((ai (((s4.n:Nat):Int)-1)):Int).toNat*2)) 0)).isSome=true/\Wr w5.drew (ae (ae s4.a (((ai (((s4.n:Nat):Int)-1)):Int).toNat*2)) 0) 1)/\(∀bL,bL=aZ w5.drew (ae (ae s4.a (((ai (((s4.n:Nat):Int)-1)):Int).toNat*2)) 0) [(ai (x9+1))]->
 ∃n6,n6<n1/\I0 n6 ((ai (x3+1))) s4 bL))))
 (cB a0.a x3 a0.n/\∃(bV:Int),ld w5.drew (ae a0.a ((x3:Int).toNat*1))=some (.int .i64 bV)/\
 Aw w5.drew #[(1:Int),bV] 166 λbR=>
 aF 16 2 bR s4 1 [(1:Int),bV]/\∀(gf:Sl)(cm:World),aD 166 2 bR s4 1 [(1:Int),bV] gf cm->cm.heap[w5.drew.heap.size]? =bR.heap[w5.drew.heap.size]?/\
 ∃n6,n6<n1/\I0 n6 ((ai (x3+1))) gf cm))
 (cB a0.a x3 a0.n/\∃(bA:Int),ld w5.drew (ae a0.a ((x3:Int).toNat*1))=some (.int .i64 bA)/\
 Aw w5.drew #[(1:Int),bA] 166 λdy=>
 aF 16 2 dy s4 1 [(1:Int),bA]/\∀(gZ:Sl)(dJ:World),aD 166 2 dy s4 1 [(1:Int),bA] gZ dJ->dJ.heap[w5.drew.heap.size]? =dy.heap[w5.drew.heap.size]?/\
 ∃n6,n6<n1/\I0 n6 ((ai (x3+1))) gZ dJ))
 (R s4 w5)):ah 176 #[a0] w R:=
 cq ⟨[(3,⟨[(4,.int .i64),(3,.slice)],[],[]⟩)],[],[]⟩ Tryz.func176 h
def uM.vc{a0:Sl}(h:
 Aw w #[ao,aj] 89 λw0=>
 ∃I1:Nat->Int->World->Prop,
 (∃n2,aP [ao,aj]/\I1 n2 (0) w0)/\
 ∀(n2:Nat)(Ww:Nat->Value)(x4:Int)(w5:World),I1 n2 x4 w5->
 Br (decide (x4<((a0.n:Nat):Int)))
 (cB a0.a x4 a0.n/\∃(x7 x8:Int),av w5.drew (ae a0.a ((x4:Int).toNat*2)) 0 [x7,x8]/\
 Br ((ao==x7) &&(aj==x8))
 (R x4 w5.drew)
 (∃n6,n6<n2/\aP [ao,aj]/\I1 n6 ((ai (x4+1))) w5.drew))
 (R (Value.int .i64 (-1)) w5)):ah 184 #[a0,.agg #[ao,aj]] w R:=
 cq ⟨[(2,⟨[(8,.int .i64)],[],[]⟩)],[],[]⟩ Tryz.func184 h
def D5.vc(h:
 Br (a0==0)
 (R true w)
 (ah 134 #[a0] w (λe w0=>∃(b1:Bool),e=b1/\
 R b1 w0))):ah 185 #[a0] w R:=
 cq cf Tryz.func185 h
def GG.vc(h:
 R ((ai (8+(if 7<(if 0>a0 then 0 else a0) then 7 else (if 0>a0 then 0 else a0))))) w):ah 187 #[a0] w R:=
 cq cf Tryz.func187 h
def Ny.vc{a0:Sl}(h:
 ah 224 #[a0] w (λe w0=>∃(s1:Sl),e=s1/\
 ah 146 #[a2] w0 (λe w2=>∃(b3:Bool),e=b3/\
 Br b3
 (Br (a1>=0)
 (Br (decide (a1<((s1.n:Nat):Int)))
 (cB s1.a a1 s1.n/\(((ae s1.a ((a1:Int).toNat*1))).isSome=true/\Wr w2 (ae s1.a ((a1:Int).toNat*1)) 1)/\(∀w4,w4=aZ w2 (ae s1.a ((a1:Int).toNat*1)) [a2]->
 ah 176 #[s1] w4 (λe w5=>∃(s6:Sl),e=s6/\
 R s6 w5)))
 (ah 176 #[s1] w2 (λe w7=>∃(s8:Sl),e=s8/\
 R s8 w7)))
 (ah 176 #[s1] w2 (λe w9=>∃(cL:Sl),e=cL/\
 R cL w9)))
 (ah 176 #[s1] w2 (λe cH=>∃(eH:Sl),e=eH/\
 R eH cH))))):ah 189 #[a0,a1,a2] w R:=
 cq cf Tryz.func189 h
def GH.vc(h:
 ∀w0,w0=w.alloc (.cells #[.string (ByteArray.mk #[]),.string (ByteArray.mk #[]),.string (ByteArray.mk #[]),.string (ByteArray.mk #[]),.string (ByteArray.mk #[]),.string (ByteArray.mk #[]),.string (ByteArray.mk #[]),.string (ByteArray.mk #[]),.string (ByteArray.mk #[]),.string (ByteArray.mk #[]),.string (ByteArray.mk #[]),.string (ByteArray.mk #[]),.string (ByteArray.mk #[]),.string (ByteArray.mk #[]),.string (ByteArray.mk #[]),.string (ByteArray.mk #[])] 254)->
 ∀w1,w1=w0.alloc (.cells #[.string (ByteArray.mk #[]),.string (ByteArray.mk #[]),.string (ByteArray.mk #[]),.string (ByteArray.mk #[]),.string (ByteArray.mk #[]),.string (ByteArray.mk #[]),.string (ByteArray.mk #[]),.string (ByteArray.mk #[]),.string (ByteArray.mk #[]),.string (ByteArray.mk #[]),.string (ByteArray.mk #[]),.string (ByteArray.mk #[]),.string (ByteArray.mk #[]),.string (ByteArray.mk #[]),.string (ByteArray.mk #[]),.string (ByteArray.mk #[])] 254)->
 Wt w1 ⟨w0,0,none⟩ 16/\(∀w2,w2=aZ w1 (bu w0) [.string (ByteArray.mk #[97,105,114]),.string (ByteArray.mk #[115,116,111,110,101]),.string (ByteArray.mk #[100,105,114,116]),.string (ByteArray.mk #[115,97,110,100]),.string (ByteArray.mk #[108,97,100,100,101,114]),.string (ByteArray.mk #[103,108,97,115,115]),.string (ByteArray.mk #[]),.string (ByteArray.mk #[]),.string (ByteArray.mk #[]),.string (ByteArray.mk #[]),.string (ByteArray.mk #[]),.string (ByteArray.mk #[]),.string (ByteArray.mk #[]),.string (ByteArray.mk #[]),.string (ByteArray.mk #[]),.string (ByteArray.mk #[])]->
 ∃I3:Nat->Int->World->Prop,
 (∃n4,I3 n4 (0) w2)/\
 ∀(n4:Nat)(us5:Nat->Value)(x6:Int)(w7:World),I3 n4 x6 w7->
 Br (x6<8)
 (ah 225 #[x6] w7 (λe w9=>∃(t10:ByteArray),e=Value.string t10/\
 ((((ByteArray.mk #[119,97,116,101,114])).size+(t10).size:Nat):Int)<=IntKind.i64.max/\(0:Int)<=(ai (8+x6))/\((ai (8+x6)):Int)<((16:Nat):Int)/\(true=true/\Wr w9 (ae (bu w0) (((ai (8+x6)):Int).toNat*1)) 1)/\(∀cH,cH=aZ w9 (ae (bu w0) (((ai (8+x6)):Int).toNat*1)) [.string ((ByteArray.mk #[119,97,116,101,114])++t10)]->
 ∃n8,n8<n4/\I3 n8 ((ai (x6+1))) cH)))
 (∃(t12 t13 t14 t15 t16 t17 t18 t19 t20 t21 t22 t23 t24 t25 t26 t27:ByteArray),av w7 (bu w0) 0 [.string t12,.string t13,.string t14,.string t15,.string t16,.string t17,.string t18,.string t19,.string t20,.string t21,.string t22,.string t23,.string t24,.string t25,.string t26,.string t27]/\
 Wt w7 ⟨w,0,none⟩ 16/\(∀eI,eI=aZ w7 w [.string t12,.string t13,.string t14,.string t15,.string t16,.string t17,.string t18,.string t19,.string t20,.string t21,.string t22,.string t23,.string t24,.string t25,.string t26,.string t27]->
 ∃(t29 t30 t31 t32 t33 t34 t35 t36 t37 t38 t39 t40 t41 t42 t43 t44:ByteArray),av eI w 0 [.string t29,.string t30,.string t31,.string t32,.string t33,.string t34,.string t35,.string t36,.string t37,.string t38,.string t39,.string t40,.string t41,.string t42,.string t43,.string t44]/\
 R (Value.agg #[.string t29,.string t30,.string t31,.string t32,.string t33,.string t34,.string t35,.string t36,.string t37,.string t38,.string t39,.string t40,.string t41,.string t42,.string t43,.string t44]) eI)))):ah 190 #[] w R:=
 cq ⟨[(3,⟨[(4,.int .i64)],[],[]⟩)],[],[]⟩ Tryz.func190 h
def Q7.vc{a0:Sl}(h:
 ∃I0:Nat->Int->Int->World->Prop,
 (∃n1,I0 n1 (0) (0) w)/\
 ∀(n1:Nat)(oX:Nat->Value)(x3 x4:Int)(w5:World),I0 n1 x3 x4 w5->
 Br (decide (x3<((a0.n:Nat):Int)))
 (cB a0.a x3 a0.n/\∃(x7 x8:Int),av w5 (ae a0.a ((x3:Int).toNat*2)) 0 [x7,x8]/\
 Aw w5 #[af,af] 166 λw9=>
 Sw w9 w5 #[x7,x8] λbL=>
 ∃n6,n6<n1/\I0 n6 ((ai (x3+1))) ((ai (x4+x7))) bL)
 (R x4 w5)):ah 191 #[a0] w R:=
 cq ⟨[(3,⟨[(8,.int .i64),(3,.int .i64)],[],[]⟩)],[],[]⟩ Tryz.func191 h
def NP.vc{a0:Sl}(h:
 ah 191 #[a0] w (λe w0=>∃(x1:Int),e=x1/\
 ah 105 #[a3] w0 (λe w2=>∃(b3:Bool),e=b3/\
 Br (!b3)
 (ah 162 #[a0] w2 (λe w4=>∃(s5:Sl),e=s5/\
 R s5 w4))
 (Br (decide (((if x1<(if 0>a1 then 0 else a1) then x1 else (if 0>a1 then 0 else a1)):Int)>=(if x1<(if 0>a2 then 0 else a2) then x1 else (if 0>a2 then 0 else a2))))
 (ah 162 #[a0] w2 (λe w6=>∃(s7:Sl),e=s7/\
 R s7 w6))
 (ah 227 #[a0,af,.int .i64 (if x1<(if 0>a1 then 0 else a1) then x1 else (if 0>a1 then 0 else a1))] w2 (λe w8=>∃(s9:Sl),e=s9/\
 ah 228 #[(ai ((if x1<(if 0>a2 then 0 else a2) then x1 else (if 0>a2 then 0 else a2))-(if x1<(if 0>a1 then 0 else a1) then x1 else (if 0>a1 then 0 else a1)))),a3] w8 (λe bL=>∃(eJ:Sl),e=eJ/\
 ah 227 #[a0,.int .i64 (if x1<(if 0>a2 then 0 else a2) then x1 else (if 0>a2 then 0 else a2)),x1] bL (λe bR=>∃(gf:Sl),e=gf/\
 Aw bR #[s9,eJ,gf] 106 λcm=>
 ah 226 #[.slice (bu bR) 3 3] cm (λe cS=>∃(kz:Sl),e=kz/\
 R kz cS))))))))):ah 192 #[a0,a1,a2,a3] w R:=
 cq cf Tryz.func192 h
def Ka.vc{a0:Sl}(h:
 ∃I0:Nat->Int->Int->World->Prop,
 (∃n1,I0 n1 (0) (1048576) w)/\
 ∀(n1:Nat)(oX:Nat->Value)(x3 x4:Int)(w5:World),I0 n1 x3 x4 w5->
 Br (decide (x3<((a0.n:Nat):Int)))
 (cB a0.a x3 a0.n/\∃(x7 x8:Int),av w5 (ae a0.a ((x3:Int).toNat*2)) 0 [x7,x8]/\
 Aw w5 #[af,af] 166 λw9=>
 Sw w9 w5 #[x7,x8] λbL=>
 Br (x7<1)
 (R (Value.tuple #[.slice none 0 0,(1:Int)]) bL)
 (Br (decide (((ai (x4-x7)):Int)<0))
 (R (Value.tuple #[.slice none 0 0,(1:Int)]) bL)
 (∃n6,n6<n1/\I0 n6 ((ai (x3+1))) ((ai (x4-x7))) bL)))
 (ah 191 #[a0] w5 (λe cH=>∃(bT:Int),e=bT/\
 ah 161 #[a0,bT] cH (λe cA=>∃(b14:Bool),e=b14/\
 Br (!b14)
 (R (Value.tuple #[.slice none 0 0,(1:Int)]) cA)
 (∃I15:Nat->Int->Sl->World->Prop,
 (∃UW,I15 UW (0) ⟨none,0,0⟩ cA)/\
 ∀(UW:Nat)(aoF:Nat->Value)(cn:Int)(oW:Sl)(eC:World),I15 UW cn oW eC->
 Br (decide (cn<((a0.n:Nat):Int)))
 (cB a0.a cn a0.n/\∃(eY de:Int),av eC (ae a0.a ((cn:Int).toNat*2)) 0 [eY,de]/\
 Aw eC #[af,af] 166 λfu=>
 Sw fu eC #[eY,de] λeg=>
 Aw eg.drew #[.int .u8 (me de)] 5 λg7=>
 aF 1 1 g7 oW 1 [.int .u8 (me de)]/\∀(lV:Sl)(eI:World),aD 5 1 g7 oW 1 [.int .u8 (me de)] lV eI->eI.heap[eC.heap.size]? =g7.heap[eC.heap.size]?/\eI.heap[eg.drew.heap.size]? =g7.heap[eg.drew.heap.size]?/\
 av eI eC 0 [eY]/\av eI (pd eC 1) 0 [de]/\ah 234 #[eY] eI (Rs λgP fJ=>fJ.heap[eC.heap.size]? =eI.heap[eC.heap.size]?/\fJ.heap[eg.drew.heap.size]? =eI.heap[eg.drew.heap.size]?/\
 av fJ (pd eC 1) 0 [de]/\∃l31:LV,Rd fJ gP.a l31/\aF 1 1 fJ lV gP.n l31/\∀(iR:Sl)(lz:World),aD 5 1 fJ lV gP.n l31 iR lz->lz.heap[eC.heap.size]? =fJ.heap[eC.heap.size]?/\lz.heap[eg.drew.heap.size]? =fJ.heap[eg.drew.heap.size]?/\
 av lz (pd eC 1) 0 [de]/\∃A2,A2<UW/\I15 A2 ((ai (cn+1))) iR lz))
 (R (Value.tuple #[oW,af]) eC)))))):ah 196 #[a0] w R:=
 cq ⟨[(13,⟨[(35,.int .i64),(7,.slice)],[],[]⟩),(3,⟨[(12,.int .i64),(4,.int .i64)],[],[]⟩)],[],[]⟩ Tryz.func196 h
def D6.vc(h:
 Br (a0<0)
 (bn (Na a1) (R (Value.int .i64 (Int.tmod (ai (0-(ai (a0+1)))) a1)) w))
 (bn (Na a1) (R (Value.int .i64 (Int.tmod a0 a1)) w))):ah 19 #[a0,a1] w R:=
 cq cf Tryz.func19 h
def BG.vc{a0:Addr}(h:
 ∃(m0:Option Nat),ld w (ae (some a0) 3)=some (.map m0)/\
 ah 236 #[.map m0] w (λe w1=>∃(m2:Option Nat),e=Value.map m2/\
 ∃(s3:Sl),ld w1 (ae (some a0) 4)=some (.slice s3.a s3.n s3.c)/\
 ∃I4:Nat->Int->World->Prop,
 (∃n5,I4 n5 (0) w1)/\
 ∀(n5:Nat)(us6:Nat->Value)(x7:Int)(w8:World),I4 n5 x7 w8->
 Br (decide (x7<((s3.n:Nat):Int)))
 (cB s3.a x7 s3.n/\∃(br:Int)(eJ:Sl),av w8 (ae s3.a ((x7:Int).toNat*2)) 0 [br,eJ]/\
 Aw w8 #[af,.slice none 0 0] 289 λbR=>
 Sw bR w8 #[br,eJ] λcA=>
 ∃(G14:Value->Prop)(kvs15:List (Value × Value)),gF Tryz.prog 3 G14/\(m2:Option Nat).isSome=true/\bK G14 cA m2 kvs15/\G14 br/\∀dy:World,Rec ((m2:Option Nat).getD 0) cA dy->bK G14 dy m2 (rE kvs15 br eJ)->
 ∃n9,n9<n5/\I4 n9 ((ai (x7+1))) dy)
 (R (Value.map m2) w8))):ah 202 #[a0] w R:=
 cq ⟨[(3,⟨[(16,.int .i64)],[],[]⟩)],[],[]⟩ Tryz.func202 h
def sM.vc{a0:Sl}(h:
 Br (a0.a).isNone
 (R (Value.slice none 0 0) w)
 (Aw w #[] 5 λw0=>
 ∃l1:LV,Rd w0 a0.a l1/\aF 1 1 w0 ⟨(bu w),0,0⟩ a0.n l1/\∀(s2:Sl)(w3:World),aD 5 1 w0 ⟨(bu w),0,0⟩ a0.n l1 s2 w3->Kp w w0 w3/\
 R s2 w3)):ah 203 #[a0] w R:=
 cq cf Tryz.func203 h
def QJ.vc{a0:Sl}(h:
 Br (decide ((((a0.n:Nat):Int):Int)<2))
 (R (Value.tuple #[.slice none 0 0,(3:Int)]) w)
 (ah 237 #[a0] w (λe w0=>∃(b1:Bool),e=b1/\
 Br (!b1)
 (R (Value.tuple #[.slice none 0 0,(4:Int)]) w0)
 ((0:Int)<=(ai (((a0.n:Nat):Int)-2))/\(ai (((a0.n:Nat):Int)-2))<=((a0.c:Nat):Int)/\ah 203 #[.slice (aA a0.a (0) (a0.c) 1) (((ai (((a0.n:Nat):Int)-2)):Int).toNat-0) (a0.c-0)] w0 (λe w2=>∃(s3:Sl),e=s3/\
 R (Value.tuple #[s3,af]) w2))))):ah 204 #[a0] w R:=
 cq cf Tryz.func204 h
def GJ.vc{a0:Value}{c0:Addr}{c1:Addr}(h:
 Aw w #[.int .i64 0,.int .i64 0,.int .i64 0,.int .i64 0,.int .i64 0,.int .i64 0,.int .i64 0,.int .i64 0,.int .i64 0,.int .i64 0,.int .i64 0,.int .i64 0,.int .i64 0,.int .i64 0,.int .i64 0,.int .i64 0,.int .i64 0,.int .i64 0,.int .i64 0,.int .i64 0,.int .i64 0,.int .i64 0,.int .i64 0,.int .i64 0,.int .i64 0,.int .i64 0,.int .i64 0,.int .i64 0,.int .i64 0,.int .i64 0,.int .i64 0,.int .i64 0,.int .i64 0,.int .i64 0,.int .i64 0,.int .i64 0,.int .i64 0,.int .i64 0,.int .i64 0,.int .i64 0,.int .i64 0,.int .i64 0,.int .i64 0,.int .i64 0,.int .i64 0,.int .i64 0,.int .i64 0,.int .i64 0,.int .i64 0,.int .i64 0,.int .i64 0,.int .i64 0,.int .i64 0,.int .i64 0,.int .i64 0,.int .i64 0,.int .i64 0,.int .i64 0,.int .i64 0,.int .i64 0,.int .i64 0,.int .i64 0,.int .i64 0,.int .i64 0,.int .i64 0,.int .i64 0,.int .i64 0,.int .i64 0,.int .i64 0,.int .i64 0,.int .i64 0,.int .i64 0,.int .i64 0,.int .i64 0,.int .i64 0,.int .i64 0,.int .i64 0,.int .i64 0,.int .i64 0,.int .i64 0,.int .i64 0,.int .i64 0,.int .i64 0,.int .i64 0,.int .i64 0,.int .i64 0,.int .i64 0,.int .i64 0,.int .i64 0,.int .i64 0,.int .i64 0,.int .i64 0,.int .i64 0,.int .i64 0,.int .i64 0,.int .i64 0,.int .i64 0,.int .i64 0,.int .i64 0,.int .i64 0,.int .i64 0,.int .i64 0,.int .i64 0,.int .i64 0,.int .i64 0,.int .i64 0,.int .i64 0,.int .i64 0,.int .i64 0,.int .i64 0,.int .i64 0,.int .i64 0,.int .i64 0,.int .i64 0,.int .i64 0,.int .i64 0,.int .i64 0,.int .i64 0,.int .i64 0,.int .i64 0,.int .i64 0,.int .i64 0,.int .i64 0,.int .i64 0,.int .i64 0,.int .i64 0,.int .i64 0,.int .i64 0,.int .i64 0,.int .i64 0,.int .i64 0,.int .i64 0,.int .i64 0,.int .i64 0,.int .i64 0,.int .i64 0,.int .i64 0,.int .i64 0,.int .i64 0,.int .i64 0,.int .i64 0,.int .i64 0,.int .i64 0,.int .i64 0,.int .i64 0,.int .i64 0,.int .i64 0,.int .i64 0,.int .i64 0,.int .i64 0,.int .i64 0,.int .i64 0,.int .i64 0,.int .i64 0,.int .i64 0,.int .i64 0,.int .i64 0,.int .i64 0,.int .i64 0,.int .i64 0,.int .i64 0,.int .i64 0,.int .i64 0,.int .i64 0,.int .i64 0,.int .i64 0,.int .i64 0,.int .i64 0,.int .i64 0,.int .i64 0,.int .i64 0,.int .i64 0,.int .i64 0,.int .i64 0,.int .i64 0,.int .i64 0,.int .i64 0,.int .i64 0,.int .i64 0,.int .i64 0,.int .i64 0,.int .i64 0,.int .i64 0,.int .i64 0,.int .i64 0,.int .i64 0,.int .i64 0,.int .i64 0,.int .i64 0,.int .i64 0,.int .i64 0,.int .i64 0,.int .i64 0,.int .i64 0,.int .i64 0,.int .i64 0,.int .i64 0,.int .i64 0,.int .i64 0,.int .i64 0,.int .i64 0,.int .i64 0,.int .i64 0,.int .i64 0,.int .i64 0,.int .i64 0,.int .i64 0,.int .i64 0,.int .i64 0,.int .i64 0,.int .i64 0,.int .i64 0,.int .i64 0,.int .i64 0,.int .i64 0,.int .i64 0,.int .i64 0,.int .i64 0,.int .i64 0,.int .i64 0,.int .i64 0,.int .i64 0,.int .i64 0,.int .i64 0,.int .i64 0,.int .i64 0,.int .i64 0,.int .i64 0,.int .i64 0,.int .i64 0,.int .i64 0,.int .i64 0,.int .i64 0,.int .i64 0,.int .i64 0,.int .i64 0,.int .i64 0,.int .i64 0,.int .i64 0,.int .i64 0,.int .i64 0,.int .i64 0,.int .i64 0,.int .i64 0,.int .i64 0,.int .i64 0,.int .i64 0,.int .i64 0,.int .i64 0,.int .i64 0,.int .i64 0,.int .i64 0,.int .i64 0,.int .i64 0,.int .i64 0,.int .i64 0] 267 λw0=>
 ∃I1:Nat->Int->World->Prop,
 (∃n2,I1 n2 (0) w0)/\
 ∀(n2:Nat)(Ww:Nat->Value)(x4:Int)(w5:World),I1 n2 x4 w5->
 Br (x4<256)
 (∃(x7 x8:Int),av w5 (some c0) 0 [x7,x8]/\
 ah 207 #[.agg #[x7,x8],x4] w5 (λe w9=>∃(br bV bT:Int)(b13:Bool),e=Value.tuple #[.agg #[br,bV,bT],b13]/\
 Aw w9 #[af,af,af] 23 λcm=>
 Sw cm w9 #[br,bV,bT] λcS=>
 ∃(cY:Int),ld cS (some c1)=some (.int .i64 cY)/\
 ah 208 #[cY,br,bT] cS (Ri λcn cC=>Kp w9 cS cC/\
 (0:Int)<=x4/\x4<((256:Nat):Int)/\(true=true/\Wr cC (ae (bu w) ((x4:Int).toNat*1)) 1)/\cQ (ae (bu w) ((x4:Int).toNat*1))≠some w9.heap.size/\(∀fD,fD=aZ cC (ae (bu w) ((x4:Int).toNat*1)) [cn]->
 ∃n6,n6<n2/\I1 n6 ((ai (x4+1))) fD))))
 (∃MU:Nat->Int->World->Prop,
 (∃A2,MU A2 (0) w5)/\
 ∀(A2:Nat)(adw:Nat->Value)(de:Int)(fu:World),MU A2 de fu->
 Br (de<8192)
 ((0:Int)<=(Int.tmod de 256)/\((Int.tmod de 256):Int)<((256:Nat):Int)/\∃(dV:Int),ld fu (ae (bu w) (((Int.tmod de 256):Int).toNat*1))=some (.int .i64 dV)/\
 ah 209 #[(ai (Int.tdiv de 256)),dV] fu (λe jb=>∃(eM:Int),e=eM/\
 dH Tryz.prog a0 [eM] jb (λe fJ=>∃(b30:Bool),e=b30/\
 Br (!b30)
 (R Fl fJ)
 (∃n25,n25<A2/\MU n25 ((ai (de+1))) fJ))))
 (R Fl fu))):ah 206 #[a0,c0,c1] w R:=
 cq ⟨[(8,⟨[(27,.int .i64)],[],[]⟩),(2,⟨[(9,.int .i64)],[],[]⟩)],[],[]⟩ Tryz.func206 h
def Nt.vc(h:
 Aw w #[aq,ar] 89 λw0=>
 Aw w0 #[af,af,af] 23 λw1=>
 Br (a1<0)
 (Sw w1 w0 #[af,af,af] λw2=>
 R (Value.tuple #[.agg #[af,af,af],false]) w2)
 (Br (a1>=8192)
 (Sw w1 w0 #[af,af,af] λw3=>
 R (Value.tuple #[.agg #[af,af,af],false]) w3)
 (Sw w1 w0 #[(ai ((ai (aq*16))+(Int.tmod a1 16))),(ai (Int.tdiv a1 256)),(ai ((ai (ar*16))+(Int.tmod (ai (Int.tdiv a1 16)) 16)))] λw4=>
 R (Value.tuple #[.agg #[(ai ((ai (aq*16))+(Int.tmod a1 16))),(ai (Int.tdiv a1 256)),(ai ((ai (ar*16))+(Int.tmod (ai (Int.tdiv a1 16)) 16)))],true]) w4))):ah 207 #[.agg #[aq,ar],a1] w R:=
 cq cf Tryz.func207 h
def J0.vc(h:
 Aw w #[a0] 3 λw0=>
 ah 128 #[a1,(8:Int)] w0 (Ri λx2 w1=>Kp w w0 w1/\
 ah 128 #[a2,(8:Int)] w1 (Ri λx4 w3=>Kp w w1 w3/\
 ah 148 #[a1,(8:Int)] w3 (Ri λx6 w5=>Kp w w3 w5/\
 ah 148 #[a2,(8:Int)] w5 (Ri λx8 w7=>Kp w w5 w7/\
 ah 238 #[x2,x4,(ai ((ai (8-x6))*(ai (8-x8)))),w] w7 (λe w9=>∃(br:Int),e=br/\
 ah 238 #[(ai (x2+1)),x4,(ai (x6*(ai (8-x8)))),w] w9 (λe cH=>∃(bT:Int),e=bT/\
 ah 238 #[x2,(ai (x4+1)),(ai ((ai (8-x6))*x8)),w] cH (λe cA=>∃(cl:Int),e=cl/\
 ah 238 #[(ai (x2+1)),(ai (x4+1)),(ai (x6*x8)),w] cA (λe cS=>∃(cY:Int),e=cY/\
 R ((ai (6+(ai (Int.tdiv (ai ((ai ((ai (br+bT))+cl))+cY)) 64))))) cS))))))))):ah 208 #[a0,a1,a2] w R:=
 cq cf Tryz.func208 h
def Za.vc(h:
 Br (a0<0)
 (R (0:Int) w)
 (Br (a0>=32)
 (R (0:Int) w)
 (Br (a0==0)
 (R (1:Int) w)
 (Br (decide (a0<(ai (a1-3))))
 (R (1:Int) w)
 (Br (decide (a0<(ai (a1-1))))
 (R (2:Int) w)
 (Br (a0==(ai (a1-1)))
 (Br (a1>9)
 (R (2:Int) w)
 (Br (a0==(ai (a1-1)))
 (R (3:Int) w)
 (Br (a0<9)
 (R (8:Int) w)
 (R (0:Int) w))))
 (Br (a0==(ai (a1-1)))
 (R (3:Int) w)
 (Br (a0<9)
 (R (8:Int) w)
 (R (0:Int) w))))))))):ah 209 #[a0,a1] w R:=
 cq cf Tryz.func209 h
def NQ.vc{a0:Sl}(h:
 Aw w #[ao,aj] 166 λw0=>
 Br (ao<1)
 (R a0 w0)
 (Br (decide (((ai (((a0.n:Nat):Int)-1)):Int)>=0))
 (cB a0.a (ai (((a0.n:Nat):Int)-1)) a0.n/\bn (eQ (ae a0.a (((ai (((a0.n:Nat):Int)-1)):Int).toNat*2))) (∃(x1:Int),ld w0.drew (ae (ae a0.a (((ai (((a0.n:Nat):Int)-1)):Int).toNat*2)) 1)=some (.int .i64 x1)/\
 Br (x1==aj)
 (cB a0.a (ai (((a0.n:Nat):Int)-1)) a0.n/\bn (eQ (ae a0.a (((ai (((a0.n:Nat):Int)-1)):Int).toNat*2))) (∃(x2:Int),ld w0.drew.drew (ae (ae a0.a (((ai (((a0.n:Nat):Int)-1)):Int).toNat*2)) 0)=some (.int .i64 x2)/\
 cB a0.a (ai (((a0.n:Nat):Int)-1)) a0.n/\bn (eQ (ae a0.a (((ai (((a0.n:Nat):Int)-1)):Int).toNat*2))) ((((ae (ae a0.a (((ai (((a0.n:Nat):Int)-1)):Int).toNat*2)) 0)).isSome=true/\Wr w0.drew.drew (ae (ae a0.a (((ai (((a0.n:Nat):Int)-1)):Int).toNat*2)) 0) 1)/\cQ (ae (ae a0.a (((ai (((a0.n:Nat):Int)-1)):Int).toNat*2)) 0)≠some w.heap.size/\(∀w3,w3=aZ w0.drew.drew (ae (ae a0.a (((ai (((a0.n:Nat):Int)-1)):Int).toNat*2)) 0) [(ai (x2+ao))]->
 R a0 w3))))
 (Aw w0.drew #[ao,aj] 166 λw4=>
 aF 16 2 w4 a0 1 [ao,aj]/\∀(s5:Sl)(w6:World),aD 166 2 w4 a0 1 [ao,aj] s5 w6->Kp w w4 w6/\w6.heap[w0.drew.heap.size]? =w4.heap[w0.drew.heap.size]?/\
 R s5 w6)))
 (Aw w0.drew #[ao,aj] 166 λw7=>
 aF 16 2 w7 a0 1 [ao,aj]/\∀(s8:Sl)(w9:World),aD 166 2 w7 a0 1 [ao,aj] s8 w9->Kp w w7 w9/\w9.heap[w0.drew.heap.size]? =w7.heap[w0.drew.heap.size]?/\
 R s8 w9))):ah 210 #[a0,.agg #[ao,aj]] w R:=
 cq cf Tryz.func210 h
def DV.vc(h:
 ∃I0:Nat->Int->Int->World->Prop,
 (∃n1,I0 n1 (0) (0) w)/\
 ∀(n1:Nat)(oX:Nat->Value)(x3 x4:Int)(w5:World),I0 n1 x3 x4 w5->
 Br (x3<2)
 (∃I7:Nat->Int->Int->World->Prop,
 (∃n8,I7 n8 (0) x4 w5)/\
 ∀(n8:Nat)(us9:Nat->Value)(br bV:Int)(bR:World),I7 n8 br bV bR->
 Br (br<2)
 (ah 44 #[a1,(8:Int)] bR (λe cm=>∃(bA:Int),e=bA/\
 ah 44 #[a2,(8:Int)] cm (λe dy=>∃(cP:Int),e=cP/\
 Br (x3==0)
 (Br (br==0)
 (ah 96 #[a1,(8:Int)] dy (λe dJ=>∃(cN:Int),e=cN/\
 ah 96 #[a2,(8:Int)] dJ (λe eC=>∃(fW:Int),e=fW/\
 ah 241 #[a0,(ai (cN+x3)),(ai (fW+br))] eC (λe cx=>∃(de:Int),e=Value.int .u64 de/\
 ∃uD,uD<n8/\I7 uD ((ai (br+1))) ((ai (bV+(ai ((ai ((ai (8-bA))*(ai (8-cP))))*(ai (Int.tmod de 9))))))) cx))))
 (ah 96 #[a1,(8:Int)] dy (λe fu=>∃(cW:Int),e=cW/\
 ah 96 #[a2,(8:Int)] fu (λe g7=>∃(dc:Int),e=dc/\
 ah 241 #[a0,(ai (cW+x3)),(ai (dc+br))] g7 (λe eI=>∃(iL:Int),e=Value.int .u64 iL/\
 ∃uD,uD<n8/\I7 uD ((ai (br+1))) ((ai (bV+(ai ((ai ((ai (8-bA))*cP))*(ai (Int.tmod iL 9))))))) eI)))))
 (Br (br==0)
 (ah 96 #[a1,(8:Int)] dy (λe g8=>∃(iK:Int),e=iK/\
 ah 96 #[a2,(8:Int)] g8 (λe yJ=>∃(gn:Int),e=gn/\
 ah 241 #[a0,(ai (iK+x3)),(ai (gn+br))] yJ (λe ly=>∃(jy:Int),e=Value.int .u64 jy/\
 ∃uD,uD<n8/\I7 uD ((ai (br+1))) ((ai (bV+(ai ((ai (bA*(ai (8-cP))))*(ai (Int.tmod jy 9))))))) ly))))
 (ah 96 #[a1,(8:Int)] dy (λe nv=>∃(gd:Int),e=gd/\
 ah 96 #[a2,(8:Int)] nv (λe qx=>∃(kq:Int),e=kq/\
 ah 241 #[a0,(ai (gd+x3)),(ai (kq+br))] qx (λe iQ=>∃(kK:Int),e=Value.int .u64 kK/\
 ∃uD,uD<n8/\I7 uD ((ai (br+1))) ((ai (bV+(ai ((ai (bA*cP))*(ai (Int.tmod kK 9))))))) iQ))))))))
 (∃n6,n6<n1/\I0 n6 ((ai (x3+1))) bV bR))
 (R ((ai (6+(ai (Int.tdiv x4 64))))) w5)):ah 219 #[a0,a1,a2] w R:=
 cq ⟨[(6,⟨[(9,.int .i64),(7,.int .i64)],[],[]⟩),(3,⟨[(8,.int .i64),(7,.int .i64)],[],[]⟩)],[],[]⟩ Tryz.func219 h
def Gh.vc{a0:Sl}(h:
 ∃I0:Nat->Int->Sl->World->Prop,
 (∃n1,I0 n1 (0) ⟨none,0,0⟩ w)/\
 ∀(n1:Nat)(oX:Nat->Value)(x3:Int)(s4:Sl)(w5:World),I0 n1 x3 s4 w5->
 Br (decide (x3<((a0.n:Nat):Int)))
 (∃I7:Nat->Int->Sl->World->Prop,
 (∃n8,I7 n8 (0) s4 w5)/\
 ∀(n8:Nat)(us9:Nat->Value)(br:Int)(eJ:Sl)(bR:World),I7 n8 br eJ bR->
 cB a0.a x3 a0.n/\bn (eQ (ae a0.a ((x3:Int).toNat*2))) (∃(cl:Int),ld bR (ae (ae a0.a ((x3:Int).toNat*2)) 0)=some (.int .i64 cl)/\
 Br (br<cl)
 (cB a0.a x3 a0.n/\bn (eQ (ae a0.a ((x3:Int).toNat*2))) (∃(bA:Int),ld bR (ae (ae a0.a ((x3:Int).toNat*2)) 1)=some (.int .i64 bA)/\
 Aw bR #[bA] 3 λdy=>
 aF 8 1 dy eJ 1 [bA]/\∀(gZ:Sl)(dJ:World),aD 3 1 dy eJ 1 [bA] gZ dJ->Kp bR dy dJ/\
 ∃uD,uD<n8/\I7 uD ((ai (br+1))) gZ dJ))
 (∃n6,n6<n1/\I0 n6 ((ai (x3+1))) eJ bR)))
 (R s4 w5)):ah 224 #[a0] w R:=
 cq ⟨[(6,⟨[(5,.int .i64),(3,.slice)],[],[]⟩),(3,⟨[(4,.int .i64),(3,.slice)],[],[]⟩)],[],[]⟩ Tryz.func224 h
def D7.vc(h:
 ah 243 #[a0] w (λe w0=>∃(t1:ByteArray),e=Value.string t1/\
 R (Value.string t1) w0)):ah 225 #[a0] w R:=
 cq cf Tryz.func225 h
def NR.vc{a0:Sl}(h:
 ∃I0:Nat->Int->Sl->World->Prop,
 (∃n1,I0 n1 (0) ⟨none,0,0⟩ w)/\
 ∀(n1:Nat)(oX:Nat->Value)(x3:Int)(s4:Sl)(w5:World),I0 n1 x3 s4 w5->
 Br (decide (x3<((a0.n:Nat):Int)))
 (cB a0.a x3 a0.n/\∃(s7:Sl),ld w5 (ae a0.a ((x3:Int).toNat*1))=some (.slice s7.a s7.n s7.c)/\
 ∃I8:Nat->Int->Sl->World->Prop,
 (∃n9,I8 n9 (0) s4 w5)/\
 ∀(n9:Nat)(WI:Nat->Value)(bV:Int)(eH:Sl)(cA:World),I8 n9 bV eH cA->
 Br (decide (bV<((s7.n:Nat):Int)))
 (cB s7.a bV s7.n/\∃(bA cY:Int),av cA (ae s7.a ((bV:Int).toNat*2)) 0 [bA,cY]/\
 Aw cA #[af,af] 166 λcC=>
 Sw cC cA #[bA,cY] λdJ=>
 ah 210 #[eH,.agg #[bA,cY]] dJ (Rs λrZ fD=>Kp cA dJ fD/\
 ∃MV,MV<n9/\I8 MV ((ai (bV+1))) rZ fD))
 (∃n6,n6<n1/\I0 n6 ((ai (x3+1))) eH cA))
 (R s4 w5)):ah 226 #[a0] w R:=
 cq ⟨[(6,⟨[(16,.int .i64),(3,.slice)],[],[]⟩),(3,⟨[(10,.int .i64),(3,.slice)],[],[]⟩)],[],[]⟩ Tryz.func226 h
def Q8.vc{a0:Sl}(h:
 ∃I0:Nat->Int->Int->Sl->World->Prop,
 (∃n1,I0 n1 (0) (0) ⟨none,0,0⟩ w)/\
 ∀(n1:Nat)(oX:Nat->Value)(x3 x4:Int)(s5:Sl)(w6:World),I0 n1 x3 x4 s5 w6->
 Br (decide (x3<((a0.n:Nat):Int)))
 (cB a0.a x3 a0.n/\∃(x8 x9:Int),av w6 (ae a0.a ((x3:Int).toNat*2)) 0 [x8,x9]/\
 Aw w6 #[af,af] 166 λbL=>
 Sw bL w6 #[x8,x9] λcH=>
 Br (decide (((if (ai (x4+x8))<a2 then (ai (x4+x8)) else a2):Int)>(if x4>a1 then x4 else a1)))
 (ah 210 #[s5,.agg #[(ai ((if (ai (x4+x8))<a2 then (ai (x4+x8)) else a2)-(if x4>a1 then x4 else a1))),x9]] cH.drew (Rs λgf bR=>Kp w6 cH.drew bR/\
 ∃n7,n7<n1/\I0 n7 ((ai (x3+1))) ((ai (x4+x8))) gf bR))
 (∃n7,n7<n1/\I0 n7 ((ai (x3+1))) ((ai (x4+x8))) s5 cH.drew))
 (R s5 w6)):ah 227 #[a0,a1,a2] w R:=
 cq ⟨[(4,⟨[(15,.int .i64),(8,.int .i64),(7,.slice)],[],[]⟩)],[],[]⟩ Tryz.func227 h
def NS.vc(h:
 ah 210 #[.slice none 0 0,.agg #[a0,a1]] w (λe w0=>∃(s1:Sl),e=s1/\
 R s1 w0)):ah 228 #[a0,a1] w R:=
 cq cf Tryz.func228 h
def GK.vc(h:
 Br (a0<0)
 (R (Value.slice none 0 0) w)
 (Br (a0>1048576)
 (R (Value.slice none 0 0) w)
 (∃I0:Nat->Int->Sl->World->Prop,
 (∃n1,I0 n1 a0 ⟨none,0,0⟩ w)/\
 ∀(n1:Nat)(oX:Nat->Value)(x3:Int)(s4:Sl)(w5:World),I0 n1 x3 s4 w5->
 Br (x3>=128)
 (Aw w5 #[.int .u8 (FI .u8 (me x3) 128)] 5 λw7=>
 aF 1 1 w7 s4 1 [.int .u8 (FI .u8 (me x3) 128)]/\∀(s8:Sl)(w9:World),aD 5 1 w7 s4 1 [.int .u8 (FI .u8 (me x3) 128)] s8 w9->Kp w5 w7 w9/\
 ∃n6,n6<n1/\I0 n6 (((x3:Int).fdiv (2 ^(min (7:Int).toNat 64)))) s8 w9)
 (Aw w5 #[.int .u8 (me x3)] 5 λbL=>
 aF 1 1 bL s4 1 [.int .u8 (me x3)]/\∀(eJ:Sl)(bR:World),aD 5 1 bL s4 1 [.int .u8 (me x3)] eJ bR->Kp w5 bL bR/\
 R eJ bR)))):ah 234 #[a0] w R:=
 cq ⟨[(4,⟨[(0,.int .i64),(3,.slice)],[],[]⟩)],[],[]⟩ Tryz.func234 h
def Q9.vc{aq:Sl}(h:
 Aw w #[aq,ar] 214 λw0=>
 Aw w0 #[ao,aj,aw] 23 λw1=>
 Br (aj<0)
 (R (1:Int) w1)
 (Br (ao>=0)
 (Br (ao<6)
 (Br (aj<6)
 (Br (aw>=0)
 (Br (aw<6)
 (Br (decide (((ai ((ai ((ai ((ai (aj*6))+aw))*6))+ao)):Int)<((aq.n:Nat):Int)))
 (cB aq.a (ai ((ai ((ai ((ai (aj*6))+aw))*6))+ao)) aq.n/\∃(x2:Int),ld w1 (ae aq.a (((ai ((ai ((ai ((ai (aj*6))+aw))*6))+ao)):Int).toNat*1))=some (.int .i64 x2)/\
 R x2 w1)
 (R (0:Int) w1))
 (R ar w1))
 (R ar w1))
 (R ar w1))
 (R ar w1))
 (R ar w1))):ah 235 #[.agg #[aq,ar],.agg #[ao,aj,aw]] w R:=
 cq cf Tryz.func235 h
def xq.vc{a0:Option Nat}(h:
 Br (a0).isNone
 (R (Value.map none) w)
 (Ra Tryz.prog 247 [.iface 259 (.map a0)] w (λe w0=>∃(v1:Value),e=v1/\
 ∃(m2:Option Nat),(v1:Value)=.iface 259 (.map m2)/\
 R (Value.map m2) w0))):ah 236 #[.map a0] w R:=
 cq cf Tryz.func236 h
def DS.vc{c0:Addr}(h:
 ∃(x0:Int),ld w (some c0)=some (.int .i64 x0)/\
 ah 239 #[x0,a0,a1] w (λe w1=>∃(x2:Int),e=Value.int .u64 x2/\
 R ((ai ((ai (Int.tmod x2 9))*a2))) w1)):ah 238 #[a0,a1,a2,c0] w R:=
 cq cf Tryz.func238 h
def QX.vc(h:
 R (Value.int .u64 (gw .u64 (bD ((gw .u64 (bD ((bD ((bD ((bD a0)*11400714819323198485))+(bD ((bD a1)*14029467366897019727))))+(bD ((bD a2)*1609587929392839161)))) (((bD ((bD ((bD ((bD a0)*11400714819323198485))+(bD ((bD a1)*14029467366897019727))))+(bD ((bD a2)*1609587929392839161)))):Int).fdiv (2 ^(min (29:Int).toNat 64))))*13787848793156543929)) (((bD ((gw .u64 (bD ((bD ((bD ((bD a0)*11400714819323198485))+(bD ((bD a1)*14029467366897019727))))+(bD ((bD a2)*1609587929392839161)))) (((bD ((bD ((bD ((bD a0)*11400714819323198485))+(bD ((bD a1)*14029467366897019727))))+(bD ((bD a2)*1609587929392839161)))):Int).fdiv (2 ^(min (29:Int).toNat 64))))*13787848793156543929)):Int).fdiv (2 ^(min (32:Int).toNat 64))))) w):ah 239 #[a0,a1,a2] w R:=
 cq cf Tryz.func239 h
def JZ.vc(h:
 R (Value.int .u64 (gw .u64 (bD ((gw .u64 (bD ((bD ((bD ((bD a0)*11400714819323198485))+(bD ((bD a1)*14029467366897019727))))+(bD ((bD a2)*1609587929392839161)))) (bD (Int.tdiv (bD ((bD ((bD ((bD a0)*11400714819323198485))+(bD ((bD a1)*14029467366897019727))))+(bD ((bD a2)*1609587929392839161)))) 536870912)))*13787848793156543929)) (bD (Int.tdiv (bD ((gw .u64 (bD ((bD ((bD ((bD a0)*11400714819323198485))+(bD ((bD a1)*14029467366897019727))))+(bD ((bD a2)*1609587929392839161)))) (bD (Int.tdiv (bD ((bD ((bD ((bD a0)*11400714819323198485))+(bD ((bD a1)*14029467366897019727))))+(bD ((bD a2)*1609587929392839161)))) 536870912)))*13787848793156543929)) 4294967296)))) w):ah 241 #[a0,a1,a2] w R:=
 cq cf Tryz.func241 h
def oU.vc(h:
 ah 250 #[a0,(10:Int)] w (λe w0=>∃(t1:ByteArray),e=Value.string t1/\
 R (Value.string t1) w0)):ah 243 #[a0] w R:=
 cq cf Tryz.func243 h
def nO.vc(h:
 Br (a0<10)
 ((0:Int)<=(ai (a0+1))/\(ai (a0+1))<=((((ByteArray.mk #[48,49,50,51,52,53,54,55,56,57,97,98,99,100,101,102,103,104,105,106,107,108,109,110,111,112,113,114,115,116,117,118,119,120,121,122])).size:Nat):Int)/\(0:Int)<=a0/\a0<=(ai (a0+1))/\R (Value.string (((ByteArray.mk #[48,49,50,51,52,53,54,55,56,57,97,98,99,100,101,102,103,104,105,106,107,108,109,110,111,112,113,114,115,116,117,118,119,120,121,122])).extract ((a0:Int).toNat) (((ai (a0+1)):Int).toNat))) w)
 ((0:Int)<=(ai ((ai (a0*2))+2))/\(ai ((ai (a0*2))+2))<=((((ByteArray.mk #[48,48,48,49,48,50,48,51,48,52,48,53,48,54,48,55,48,56,48,57,49,48,49,49,49,50,49,51,49,52,49,53,49,54,49,55,49,56,49,57,50,48,50,49,50,50,50,51,50,52,50,53,50,54,50,55,50,56,50,57,51,48,51,49,51,50,51,51,51,52,51,53,51,54,51,55,51,56,51,57,52,48,52,49,52,50,52,51,52,52,52,53,52,54,52,55,52,56,52,57,53,48,53,49,53,50,53,51,53,52,53,53,53,54,53,55,53,56,53,57,54,48,54,49,54,50,54,51,54,52,54,53,54,54,54,55,54,56,54,57,55,48,55,49,55,50,55,51,55,52,55,53,55,54,55,55,55,56,55,57,56,48,56,49,56,50,56,51,56,52,56,53,56,54,56,55,56,56,56,57,57,48,57,49,57,50,57,51,57,52,57,53,57,54,57,55,57,56,57,57])).size:Nat):Int)/\(0:Int)<=(ai (a0*2))/\((ai (a0*2)):Int)<=(ai ((ai (a0*2))+2))/\R (Value.string (((ByteArray.mk #[48,48,48,49,48,50,48,51,48,52,48,53,48,54,48,55,48,56,48,57,49,48,49,49,49,50,49,51,49,52,49,53,49,54,49,55,49,56,49,57,50,48,50,49,50,50,50,51,50,52,50,53,50,54,50,55,50,56,50,57,51,48,51,49,51,50,51,51,51,52,51,53,51,54,51,55,51,56,51,57,52,48,52,49,52,50,52,51,52,52,52,53,52,54,52,55,52,56,52,57,53,48,53,49,53,50,53,51,53,52,53,53,53,54,53,55,53,56,53,57,54,48,54,49,54,50,54,51,54,52,54,53,54,54,54,55,54,56,54,57,55,48,55,49,55,50,55,51,55,52,55,53,55,54,55,55,55,56,55,57,56,48,56,49,56,50,56,51,56,52,56,53,56,54,56,55,56,56,56,57,57,48,57,49,57,50,57,51,57,52,57,53,57,54,57,55,57,56,57,57])).extract (((ai (a0*2)):Int).toNat) (((ai ((ai (a0*2))+2)):Int).toNat))) w)):ah 253 #[a0] w R:=
 cq cf Tryz.func253 h
def xg.vc{a0:Addr}(h:
 Aw w #[ao,aj,aw] 23 λw0=>
 ∃(p1:Option Addr),ld w0.drew (ae (some a0) 0)=some (.pointer p1)/\
 ah 43 #[p1,.agg #[ao,aj,aw]] w0.drew (Ri λx3 w2=>Kp w w0.drew w2/\
 ∃(p4:Option Addr),ld w2.drew (ae (some a0) 0)=some (.pointer p4)/\
 ah 59 #[p4,.agg #[ao,aj,aw],a2] w2.drew (Ri λx6 w5=>Kp w w2.drew w5/\
 Br (x6==0)
 (Br (x3 !=a2)
 (∃(s7:Sl),ld w5.drew (ae (some a0) 1)=some (.slice s7.a s7.n s7.c)/\
 Aw w5.drew #[ao,aj,aw,a2] 71 λw8=>
 aF 32 4 w8 s7 1 [ao,aj,aw,a2]/\∀(s9:Sl)(bL:World),aD 71 4 w8 s7 1 [ao,aj,aw,a2] s9 bL->Kp w w8 bL/\bL.heap[w5.drew.heap.size]? =w8.heap[w5.drew.heap.size]?/\
 (true=true/\Wr bL (ae (some a0) 1) 1)/\cQ (ae (some a0) 1)≠some w.heap.size/\cQ (ae (some a0) 1)≠some w5.drew.heap.size/\(∀cH,cH=aZ bL (ae (some a0) 1) [s9]->
 R x6 cH))
 (R x6 w5))
 (R x6 w5)))):ah 27 #[a0,.agg #[ao,aj,aw],a2] w R:=
 cq cf Tryz.func27 h
def Nl.vc(h:
 ah 67 #[a0,a1,a2] w (λe w0=>∃(p1:Option Addr),e=p1/\
 Aw w0 #[p1,.slice none 0 0] 100 λw2=>
 R (Value.pointer (bu w0)) w2)):ah 35 #[a0,a1,a2] w R:=
 cq cf Tryz.func35 h
def sK.vc{a0:Addr}(h:
 ∃(p0:Option Addr),ld w (ae (some a0) 0)=some (.pointer p0)/\
 R p0 w):ah 37 #[a0] w R:=
 cq cf Tryz.func37 h
def uY.vc{a0:Addr}(h:
 Aw w #[ao,aj] 89 λw0=>
 ah 69 #[.agg #[ao,aj]] w0 (λe w1=>∃(x2:Int)(b3:Bool),e=Value.tuple #[x2,b3]/\Kp w w0 w1/\
 Br (!b3)
 (R (5:Int) w1)
 (ah 70 #[a0,.agg #[ao,aj]] w1 (Ri λx5 w4=>Kp w w1 w4/\
 Br (x5>=0)
 (ah 71 #[a0,x5] w4 (λe w6=>∃(p7:Option Addr),e=p7/\Kp w w4 w6/\
 R (0:Int) w6))
 (ah 72 #[a0] w4 (Ri λx9 w8=>Kp w w4 w8/\
 Br (x9 !=0)
 (R x9 w8)
 (∃(X6:Option Addr),ld w8 (ae (some a0) 0)=some (.pointer X6)/\
 ah 73 #[X6,x2] w8 (λe cH=>∃(eH:Sl)(cD:Int)(b14:Bool),e=Value.tuple #[eH,cD,b14]/\Kp w w8 cH/\
 ah 74 #[.agg #[ao,aj],eH] cH (λe cS=>∃(p16:Option Addr)(cP:Int),e=Value.tuple #[p16,cP]/\Kp w cH cS/\
 Br (cP !=0)
 (∃(cn:Int),ld cS.drew (ae (some a0) 1)=some (.int .i64 cn)/\
 ah 75 #[cn,.agg #[ao,aj]] cS.drew (λe fD=>∃(p20:Option Addr),e=p20/\Kp w cS.drew fD/\
 ∃(jk:Sl),ld fD (ae (some a0) 3)=some (.slice jk.a jk.n jk.c)/\
 Aw fD #[p20,false,af] 144 λcx=>
 Aw cx #[.pointer (bu fD)] 129 λgi=>
 aF 8 1 gi jk 1 [.pointer (bu fD)]/\∀(kL:Sl)(eg:World),aD 129 1 gi jk 1 [.pointer (bu fD)] kL eg->K2 w cx gi eg (
 (true=true/\Wr eg (ae (some a0) 3) 1)/\cQ (ae (some a0) 3)≠some w.heap.size/\cQ (ae (some a0) 3)≠some cx.heap.size/\(∀g7,g7=aZ eg (ae (some a0) 3) [kL]->
 R (0:Int) g7))))
 (∃(lV:Sl),ld cS (ae (some a0) 3)=some (.slice lV.a lV.n lV.c)/\
 Aw cS #[p16,false,af] 144 λeI=>
 Aw eI #[.pointer (bu cS)] 129 λfJ=>
 aF 8 1 fJ lV 1 [.pointer (bu cS)]/\∀(gP:Sl)(ig:World),aD 129 1 fJ lV 1 [.pointer (bu cS)] gP ig->K2 w eI fJ ig (
 (true=true/\Wr ig (ae (some a0) 3) 1)/\cQ (ae (some a0) 3)≠some w.heap.size/\cQ (ae (some a0) 3)≠some eI.heap.size/\(∀yJ,yJ=aZ ig (ae (some a0) 3) [gP]->
 R (0:Int) yJ)))))))))))):ah 38 #[a0,.agg #[ao,aj]] w R:=
 cq cf Tryz.func38 h
def zD.vc{a0:Addr}(h:
 Aw w #[ao,aj,aw] 23 λw0=>
 ah 85 #[.agg #[ao,aj,aw]] w0 (Xz λx2 x3 w1=>Kp w w0 w1/\
 ah 70 #[a0,.agg #[x2,x3]] w1 (Ri λx5 w4=>Kp w w1 w4/\
 Br (x5<0)
 (R (Value.int .i64 (-1)) w4)
 (Br (aj<0)
 (R (1:Int) w4)
 (∃(s6:Sl),ld w4.drew (ae (some a0) 3)=some (.slice s6.a s6.n s6.c)/\
 cB s6.a x5 s6.n/\∃(p7:Option Addr),ld w4.drew (ae s6.a ((x5:Int).toNat*1))=some (.pointer p7)/\
 bn (eQ p7) (bn (eQ p7) (∃(p8:Option Addr),ld w4.drew (ae p7 0)=some (.pointer p8)/\
 ah 86 #[p8,.agg #[ao,aj,aw]] w4.drew (λe w9=>∃(br:Int)(Fo:Bool),e=Value.tuple #[br,Fo]/\Kp w w4.drew w9/\
 av w9 (ae s6.a ((x5:Int).toNat*1)) 0 [.pointer p7]/\av w9 (ae (some a0) 3) 0 [s6]/\R br w9)))))))):ah 43 #[a0,.agg #[ao,aj,aw]] w R:=
 cq cf Tryz.func43 h
def Np.vc(h:
 Br (a1<1)
 (R (0:Int) w)
 (bn (Na a1) (Br (decide (((Int.tmod a0 a1):Int)<0))
 (R ((ai ((Int.tmod a0 a1)+a1))) w)
 (R (Value.int .i64 (Int.tmod a0 a1)) w)))):ah 44 #[a0,a1] w R:=
 cq cf Tryz.func44 h
def Gc.vc(h:
 Aw w #[aq,ar,au] 23 λw0=>
 Aw w0 #[af,af] 89 λw1=>
 ah 96 #[aq,(16:Int)] w1.drew (Ri λx3 w2=>K2 w w0 w1.drew w2 (
 av w2 (pd w 2) 0 [au]/\ah 96 #[au,(16:Int)] w2 (Ri λx5 w4=>K2 w w0 w2 w4 (
 Sw w4 w0 #[x3,x5] λw6=>
 R (Value.agg #[x3,x5]) w6))))):ah 50 #[.agg #[aq,ar,au]] w R:=
 cq cf Tryz.func50 h
def Re.vc{au:Sl}(h:
 Aw w #[aq,ar,au] 108 λw0=>
 Aw w0 #[ao,aj,aw] 23 λw1=>
 ah 97 #[.agg #[aq,ar,au],.agg #[ao,aj,aw]] w1 (Ri λx3 w2=>K2 w w0 w1 w2 (
 Br (x3<0)
 (R (Value.int .i64 (-1)) w2)
 (∃I4:Nat->Int->Int->World->Prop,
 (∃n5,aP [aq,ar,au]/\aP [ao,aj,aw]/\I4 n5 (0) (0) w2)/\
 ∀(n5:Nat)(us6:Nat->Value)(x7 x8:Int)(w9:World),I4 n5 x7 x8 w9->
 Br (decide (x7<((au.n:Nat):Int)))
 (cB au.a x7 au.n/\bn (eQ (ae au.a ((x7:Int).toNat*2))) (∃(bV:Int),ld w9 (ae (ae au.a ((x7:Int).toNat*2)) 0)=some (.int .i64 bV)/\
 Br (decide (x3<(ai (x8+bV))))
 (cB au.a x7 au.n/\bn (eQ (ae au.a ((x7:Int).toNat*2))) (∃(bT:Int),ld w9 (ae (ae au.a ((x7:Int).toNat*2)) 1)=some (.int .i64 bT)/\
 R bT w9))
 (∃n10,n10<n5/\aP [aq,ar,au]/\aP [ao,aj,aw]/\I4 n10 ((ai (x7+1))) ((ai (x8+bV))) w9)))
 (R (Value.int .i64 (-1)) w9))))):ah 51 #[.agg #[aq,ar,au],.agg #[ao,aj,aw]] w R:=
 cq ⟨[(6,⟨[(7,.int .i64),(6,.int .i64)],[],[]⟩)],[],[]⟩ Tryz.func51 h
def Kb.vc(h:
 ah 19 #[a0,(14:Int)] w (λe w0=>∃(x1:Int),e=x1/\
 Br (x1>5)
 (R ((ai (x1+2))) w0)
 (R x1 w0))):ah 53 #[a0] w R:=
 cq cf Tryz.func53 h
def xt.vc{a0:Addr}(h:
 Aw w #[ao,aj,aw] 23 λw0=>
 ah 85 #[.agg #[ao,aj,aw]] w0 (Xz λx2 x3 w1=>Kp w w0 w1/\
 ah 70 #[a0,.agg #[x2,x3]] w1 (Ri λx5 w4=>Kp w w1 w4/\
 ah 104 #[.agg #[ao,aj,aw]] w4 (λe w6=>∃(x7:Int)(b8:Bool),e=Value.tuple #[x7,b8]/\Kp w w4 w6/\
 Br (x5<0)
 (R (11:Int) w6)
 (Br (!b8)
 (R (5:Int) w6)
 (ah 105 #[a2] w6 (Rb λWH w9=>Kp w w6 w9/\
 Br (!WH)
 (R (1:Int) w9)
 (ah 71 #[a0,x5] w9 (λe cH=>∃(yg:Option Addr),e=yg/\Kp w w9 cH/\
 bn (eQ yg) (bn (eQ yg) (∃(p13:Option Addr),ld cH.drew (ae yg 0)=some (.pointer p13)/\
 ah 86 #[p13,.agg #[ao,aj,aw]] cH.drew (λe cm=>∃(bA:Int)(b16:Bool),e=Value.tuple #[bA,b16]/\Kp w cH.drew cm/\
 bn (eQ yg) (bn (eQ yg) (∃(b17:Bool),ld cm (ae yg 1)=some (.bool b17)/\
 Br b17
 (bn (eQ yg) (bn (eQ yg) ((((ae yg 1)).isSome=true/\Wr cm (ae yg 1) 1)/\cQ (ae yg 1)≠some w.heap.size/\(∀dJ,dJ=aZ cm (ae yg 1) [.bool true]->
 bn (eQ yg) (bn (eQ yg) (∃(p19:Option Addr),ld dJ.drew (ae yg 0)=some (.pointer p19)/\
 ah 106 #[p19,.agg #[ao,aj,aw],a2] dJ.drew (Ri λfW eC=>Kp w dJ.drew eC/\
 R fW eC)))))))
 (bn (eQ yg) (bn (eQ yg) ((((ae yg 1)).isSome=true/\Wr cm (ae yg 1) 1)/\cQ (ae yg 1)≠some w.heap.size/\(∀cx,cx=aZ cm (ae yg 1) [.bool (bA !=a2)]->
 bn (eQ yg) (bn (eQ yg) (∃(p23:Option Addr),ld cx.drew (ae yg 0)=some (.pointer p23)/\
 ah 106 #[p23,.agg #[ao,aj,aw],a2] cx.drew (Ri λcW fu=>Kp w cx.drew fu/\
 R cW fu))))))))))))))))))))):ah 59 #[a0,.agg #[ao,aj,aw],a2] w R:=
 cq cf Tryz.func59 h
def Kc.vc(h:
 Aw w #[aq,ar,au] 23 λw0=>
 Aw w0 #[af,af,af] 23 λw1=>
 ah 19 #[aq,(80:Int)] w1.drew (Ri λx3 w2=>K2 w w0 w1.drew w2 (
 av w2 (pd w 2) 0 [au]/\av w2 (pd w 1) 0 [ar]/\ah 19 #[ar,(34:Int)] w2 (Ri λx5 w4=>K2 w w0 w2 w4 (
 av w4 (pd w 2) 0 [au]/\ah 19 #[au,(80:Int)] w4 (Ri λx7 w6=>K2 w w0 w4 w6 (
 Sw w6 w0 #[(ai (x3-32)),(ai (x5-1)),(ai (x7-32))] λw8=>
 R (Value.agg #[(ai (x3-32)),(ai (x5-1)),(ai (x7-32))]) w8))))))):ah 62 #[.agg #[aq,ar,au]] w R:=
 cq cf Tryz.func62 h
def rF.vc{a0:Addr}(h:
 Aw w #[ao,aj] 89 λw0=>
 ah 70 #[a0,.agg #[ao,aj]] w0 (Ri λx2 w1=>Kp w w0 w1/\
 Br (x2<0)
 (R (6:Int) w1)
 (∃(s3:Sl),ld w1 (ae (some a0) 3)=some (.slice s3.a s3.n s3.c)/\
 cB s3.a x2 s3.n/\∃(p4:Option Addr),ld w1 (ae s3.a ((x2:Int).toNat*1))=some (.pointer p4)/\
 bn (eQ p4) (bn (eQ p4) (∃(x5:Int),ld w1 (ae p4 2)=some (.int .i64 x5)/\
 Br (x5>0)
 (R (10:Int) w1)
 (∃(s6:Sl),ld w1 (ae (some a0) 3)=some (.slice s6.a s6.n s6.c)/\
 cB s6.a x2 s6.n/\∃(p7:Option Addr),ld w1 (ae s6.a ((x2:Int).toNat*1))=some (.pointer p7)/\
 ah 107 #[a0,p7] w1 (Ri λx9 w8=>Kp w w1 w8/\
 Br (x9==0)
 (ah 108 #[a0,x2] w8 (λe bL=>∃(p11:Option Addr),e=p11/\Kp w w8 bL/\
 R x9 bL))
 (R x9 w8)))))))):ah 65 #[a0,.agg #[ao,aj]] w R:=
 cq cf Tryz.func65 h
def NT.vc(h:
 ah 111 #[a2] w (λe w0=>∃(p1:Option Addr),e=p1/\
 Aw w0 #[p1,a0,.int .i64 (if 16<(if 1>a1 then 1 else a1) then 16 else (if 1>a1 then 1 else a1)),.slice none 0 0] 137 λw2=>
 R (Value.pointer (bu w0)) w2)):ah 67 #[a0,a1,a2] w R:=
 cq cf Tryz.func67 h
def Rf.vc(h:
 Aw w #[aq,ar] 89 λw0=>
 Br (aq<(-524288))
 (R (Value.tuple #[af,false]) w0)
 (Br (aq>=524288)
 (R (Value.tuple #[af,false]) w0)
 (Br (ar<(-524288))
 (R (Value.tuple #[af,false]) w0)
 (Br (ar>=524288)
 (R (Value.tuple #[af,false]) w0)
 (R (Value.tuple #[(ai ((ai ((ai ((ai ((ai ((ai (aq+524288))*2))*524288))+ar))+524288))+1)),true]) w0))))):ah 69 #[.agg #[aq,ar]] w R:=
 cq cf Tryz.func69 h
def uZ.vc{a0:Addr}(h:
 Aw w #[ao,aj] 89 λw0=>
 ∃(s1:Sl),ld w0 (ae (some a0) 3)=some (.slice s1.a s1.n s1.c)/\
 ah 113 #[s1,.func (.func 114) #[] #[w]] w0 (λe w2=>∃(x3:Int),e=x3/\
 R x3 w2)):ah 70 #[a0,.agg #[ao,aj]] w R:=
 cq cf Tryz.func70 h
def tg.vc{a0:Addr}(h:
 ah 108 #[a0,a1] w (λe w0=>∃(p1:Option Addr),e=p1/\
 ∃(s2:Sl),ld w0 (ae (some a0) 3)=some (.slice s2.a s2.n s2.c)/\
 Aw w0 #[p1] 129 λw3=>
 aF 8 1 w3 s2 1 [.pointer p1]/\∀(s4:Sl)(w5:World),aD 129 1 w3 s2 1 [.pointer p1] s4 w5->Kp w0 w3 w5/\
 (true=true/\Wr w5 (ae (some a0) 3) 1)/\cQ (ae (some a0) 3)≠some w0.heap.size/\(∀w6,w6=aZ w5 (ae (some a0) 3) [s4]->
 R p1 w6))):ah 71 #[a0,a1] w R:=
 cq cf Tryz.func71 h
def u4.vc{a0:Addr}(h:
 ∃(s0:Sl),ld w.drew (ae (some a0) 3)=some (.slice s0.a s0.n s0.c)/\
 ∃(x1:Int),ld w.drew (ae (some a0) 2)=some (.int .i64 x1)/\
 Br (decide ((((s0.n:Nat):Int):Int)<x1))
 (R (0:Int) w.drew)
 (∃(s2:Sl),ld w.drew (ae (some a0) 3)=some (.slice s2.a s2.n s2.c)/\
 ah 113 #[s2,.func (.func 116) #[] #[]] w.drew (λe w3=>∃(x4:Int),e=x4/\
 Br (x4<0)
 (R (8:Int) w3)
 (∃(s5:Sl),ld w3 (ae (some a0) 3)=some (.slice s5.a s5.n s5.c)/\
 cB s5.a x4 s5.n/\∃(p6:Option Addr),ld w3 (ae s5.a ((x4:Int).toNat*1))=some (.pointer p6)/\
 ah 107 #[a0,p6] w3 (λe w7=>∃(x8:Int),e=x8/\
 Br (x8==0)
 (ah 108 #[a0,x4] w7 (λe w9=>∃(X6:Option Addr),e=X6/\
 R x8 w9))
 (R x8 w7)))))):ah 72 #[a0] w R:=
 cq cf Tryz.func72 h
def u5.vc{a0:Addr}(h:
 ah 117 #[a1] w (λe w0=>∃(b1:Bool),e=b1/\
 Br (!b1)
 (R (Value.tuple #[.slice none 0 0,af,false]) w0)
 (ah 118 #[a0,a1] w0 (λe w2=>∃(x3 x4:Int)(s5:Sl),e=Value.agg #[x3,x4,s5]/\
 Aw w2 #[af,af,.slice none 0 0] 186 λw6=>
 Sw w6 w2 #[x3,x4,s5] λw7=>
 R (Value.tuple #[s5,x4,.bool (decide (x4>0))]) w7.drew)))):ah 73 #[a0,a1] w R:=
 cq cf Tryz.func73 h
def Kd.vc{a1:Sl}(h:
 Aw w #[aq,ar] 89 λw0=>
 ah 119 #[a1,(8192:Int)] w0 (λe w1=>∃(s2:Sl)(x3:Int),e=Value.tuple #[s2,x3]/\Kp w w0 w1/\
 Br (x3 !=0)
 (R (Value.tuple #[.pointer none,x3]) w1)
 (ah 120 #[.agg #[aq,ar],s2] w1 (λe w4=>∃(p5:Option Addr)(x6:Int),e=Value.tuple #[p5,x6]/\Kp w w1 w4/\
 R (Value.tuple #[p5,x6]) w4)))):ah 74 #[.agg #[aq,ar],a1] w R:=
 cq cf Tryz.func74 h
def Ke.vc(h:
 Aw w #[ao,aj] 89 λw0=>
 (ah 121 #[a0,.agg #[ao,aj]] w0.drew (Rs λs2 w1=>Kp w w0.drew w1/\
 Aw w1 #[ao,aj,s2] 183 λw3=>
 R (Value.pointer (bu w1)) w3))/\(ah 121 #[a0,.agg #[ao,aj]] w0.drew (Rs λs5 w4=>Kp w w0.drew w4/\
 av w4 w 0 [ao,aj]/\Aw w4 #[ao,aj,s5] 183 λw6=>
 R (Value.pointer (bu w4)) w6))):ah 75 #[a0,.agg #[ao,aj]] w R:=
 cq cf Tryz.func75 h
def Rg.vc(h:
 Aw w #[aq,ar] 89 λw0=>
 Br (aq<(-524288))
 (R (0:Int) w0)
 (Br (aq>524287)
 (R (0:Int) w0)
 (Br (ar<(-524288))
 (R (0:Int) w0)
 (Br (ar>524287)
 (R (0:Int) w0)
 (R ((ai ((ai ((ai ((ai (aq+524288))*1048576))+(ai (ar+524288))))+1))) w0))))):ah 76 #[.agg #[aq,ar]] w R:=
 cq cf Tryz.func76 h
def Kf.vc{a1:Sl}(h:
 Aw w #[aq,ar] 89 λw0=>
 Aw w0 #[af,af,.slice none 0 0] 108 λw1=>
 ah 126 #[a1,(8192:Int)] w1 (λe w2=>∃(s3:Sl)(x4:Int),e=Value.tuple #[s3,x4]/\K2 w w0 w1 w2 (
 Br (x4 !=0)
 (Sw w2 w0 #[af,af,.slice none 0 0] λw5=>
 R (Value.tuple #[.agg #[af,af,.slice none 0 0],x4]) w5)
 (Sw w2 w0 #[aq,ar,s3] λw6=>
 R (Value.tuple #[.agg #[aq,ar,s3],(0:Int)]) w6)))):ah 81 #[.agg #[aq,ar],a1] w R:=
 cq cf Tryz.func81 h
def Kg.vc(h:
 Aw w #[ao,aj] 89 λw0=>
 Aw w0 #[af,af,.slice none 0 0] 108 λw1=>
 ah 127 #[a0,.agg #[ao,aj]] w1.drew (Rs λs3 w2=>K2 w w0 w1.drew w2 (
 av w2 w 0 [ao,aj]/\Sw w2 w0 #[ao,aj,s3] λw4=>
 R (Value.agg #[ao,aj,s3]) w4))):ah 82 #[a0,.agg #[ao,aj]] w R:=
 cq cf Tryz.func82 h
def JM.vc(h:
 Aw w #[aq,ar,au] 23 λw0=>
 Aw w0 #[af,af] 89 λw1=>
 ah 128 #[aq,(16:Int)] w1.drew (Ri λx3 w2=>K2 w w0 w1.drew w2 (
 av w2 (pd w 2) 0 [au]/\ah 128 #[au,(16:Int)] w2 (Ri λx5 w4=>K2 w w0 w2 w4 (
 Sw w4 w0 #[x3,x5] λw6=>
 R (Value.agg #[x3,x5]) w6))))):ah 85 #[.agg #[aq,ar,au]] w R:=
 cq cf Tryz.func85 h
def zE.vc{a0:Addr}(h:
 Aw w #[ao,aj,aw] 23 λw0=>
 ∃(x1 x2:Int),av w0.drew (ae (some a0) 0) 0 [x1,x2]/\
 ah 129 #[.agg #[x1,x2],.agg #[ao,aj,aw]] w0.drew (λe w3=>∃(x4:Int)(b5:Bool),e=Value.tuple #[x4,b5]/\Kp w w0.drew w3/\
 Br (!b5)
 (R (Value.tuple #[af,false]) w3)
 (∃(s6:Sl),ld w3 (ae (some a0) 2)=some (.slice s6.a s6.n s6.c)/\
 ah 130 #[s6,x4] w3 (Ri λx8 w7=>Kp w w3 w7/\
 R (Value.tuple #[x8,true]) w7)))):ah 86 #[a0,.agg #[ao,aj,aw]] w R:=
 cq cf Tryz.func86 h
def sL.vc{a0:Addr}(h:
 Aw w #[ao,aj,aw] 23 λw0=>
 ∃(p1:Option Addr),ld w0 (ae (some a0) 0)=some (.pointer p1)/\
 ah 135 #[p1] w0 (Rs λs3 w2=>Kp w w0 w2/\
 ah 85 #[.agg #[ao,aj,aw]] w2 (Xz λx5 x6 w4=>Kp w w2 w4/\
 ah 136 #[.agg #[x5,x6]] w4 (λe w7=>∃(x8 x9 br bV bT cD cl bA cY cP:Int),e=Value.agg #[x8,x9,br,bV,bT,cD,cl,bA,cY,cP]/\Kp w w4 w7/\
 ∃I18:Nat->Int->World->Prop,
 (∃WJ,aP [ao,aj,aw]/\I18 WJ (0) w7)/\
 ∀(WJ:Nat)(ah7:Nat->Value)(fW:Int)(cx:World),I18 WJ fW cx->
 Br (fW<5)
 (((0:Int)<=fW/\fW<((5:Nat):Int))/\∃(di cW:Int),(([x8,x9,br,bV,bT,cD,cl,bA,cY,cP]:LV).drop ((fW:Int).toNat*2)).take 2=[.int .i64 di,.int .i64 cW]/\
 Aw cx #[af,af] 89 λg7=>
 Sw g7 cx #[di,cW] λjb=>
 ah 137 #[s3,.agg #[di,cW]] jb (Rb λb29 eI=>K2 w cx jb eI (
 Br (!b29)
 (R false eI)
 (∃PA,PA<WJ/\aP [ao,aj,aw]/\I18 PA ((ai (fW+1))) eI))))
 (R true cx))))):ah 91 #[a0,.agg #[ao,aj,aw]] w R:=
 cq ⟨[(3,⟨[(16,.int .i64)],[],[]⟩)],[],[]⟩ Tryz.func91 h
def GL.vc(h:
 R (Value.bool (a0==3)) w):ah 94 #[a0] w R:=
 cq cf Tryz.func94 h
def Ns.vc(h:
 Br (a1<1)
 (R (0:Int) w)
 (ah 144 #[a0,a1] w (λe w0=>∃(x1:Int),e=x1/\
 R x1 w0))):ah 96 #[a0,a1] w R:=
 cq cf Tryz.func96 h
def GM.vc{au:Sl}(h:
 Aw w #[aq,ar,au] 108 λw0=>
 Aw w0 #[ao,aj,aw] 23 λw1=>
 ah 145 #[.agg #[ao,aj,aw]] w1 (λe w2=>∃(x3:Int)(b4:Bool),e=Value.tuple #[x3,b4]/\K2 w w0 w1 w2 (
 Br (!b4)
 (R (Value.int .i64 (-1)) w2.drew)
 (ah 50 #[.agg #[ao,aj,aw]] w2.drew (Xz λx6 x7 w5=>K2 w w0 w2.drew w5 (
 av w5 w 0 [aq,ar]/\Br (!((x6==aq) &&(x7==ar)))
 (R (Value.int .i64 (-1)) w5)
 (R x3 w5))))))):ah 97 #[.agg #[aq,ar,au],.agg #[ao,aj,aw]] w R:=
 cq cf Tryz.func97 h
end Go.Proofs.YtalpkjfpmdpbiaaGreatDoor
