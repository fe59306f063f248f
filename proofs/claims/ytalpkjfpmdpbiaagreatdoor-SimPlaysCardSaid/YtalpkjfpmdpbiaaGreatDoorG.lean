import Derived.Test.YtalpkjfpmdpbiaaGreatDoorChecked
import Derived.KernelRfl
import Derived.Test.YtalpkjfpmdpbiaaGreatDoorLib
set_option linter.all false
namespace Go.Proofs.YtalpkjfpmdpbiaaGreatDoor
open Go Go.Vc Go.RowKit Go.Proofs
set_option maxRecDepth 100000
set_option maxHeartbeats 8000000
set_option linter.unusedVariables false
variable {R:Ending->World->Prop} {w:World} {a0 a1 a2 a3 a4 a5 a6 a7 a8 a9 aq ar av aI aJ aK aL aH bO eE ao ak aw dB gn gB gC gD fM gE db dR dO ln lO nv ym yn yp yq yt yu yw yx yy yz yA yB yC yD:Int}
abbrev K2(i0 i1:Nat)(x y:World)(P:Prop):Prop:=Kp i0 x y/\Kp i1 x y/\P
abbrev K3(i0 i1 i2:Nat)(x y:World)(P:Prop):Prop:=Kp i0 x y/\Kp i1 x y/\Kp i2 x y/\P
abbrev K4(i0 i1 i2 i3:Nat)(x y:World)(P:Prop):Prop:=Kp i0 x y/\Kp i1 x y/\Kp i2 x y/\Kp i3 x y/\P
abbrev K5(i0 i1 i2 i3 i4:Nat)(x y:World)(P:Prop):Prop:=Kp i0 x y/\Kp i1 x y/\Kp i2 x y/\Kp i3 x y/\Kp i4 x y/\P
abbrev K6(i0 i1 i2 i3 i4 i5:Nat)(x y:World)(P:Prop):Prop:=Kp i0 x y/\Kp i1 x y/\Kp i2 x y/\Kp i3 x y/\Kp i4 x y/\Kp i5 x y/\P
abbrev K7(i0 i1 i2 i3 i4 i5 i6:Nat)(x y:World)(P:Prop):Prop:=Kp i0 x y/\Kp i1 x y/\Kp i2 x y/\Kp i3 x y/\Kp i4 x y/\Kp i5 x y/\Kp i6 x y/\P
abbrev K8(i0 i1 i2 i3 i4 i5 i6 i7:Nat)(x y:World)(P:Prop):Prop:=Kp i0 x y/\Kp i1 x y/\Kp i2 x y/\Kp i3 x y/\Kp i4 x y/\Kp i5 x y/\Kp i6 x y/\Kp i7 x y/\P
abbrev X7(F:Int->Int->World->Prop)(e:Ending)(w:World):Prop:=∃x0 x1:Int,e=.returned (.agg #[x0,x1])/\F x0 x1 w
abbrev G4(F:Int->Int->Int->World->Prop)(e:Ending)(w:World):Prop:=∃x0 x1 x2:Int,e=.returned (.agg #[x0,x1,x2])/\F x0 x1 x2 w
abbrev Ra6(F:Int->Int->Int->Int->Int->Int->World->Prop)(e:Ending)(w:World):Prop:=∃x0 x1 x2 x3 x4 x5:Int,e=.returned (.agg #[x0,x1,x2,x3,x4,x5])/\F x0 x1 x2 x3 x4 x5 w
abbrev Ra9(F:Int->Int->Int->Int->Int->Int->Int->Int->Int->World->Prop)(e:Ending)(w:World):Prop:=∃x0 x1 x2 x3 x4 x5 x6 x7 x8:Int,e=.returned (.agg #[x0,x1,x2,x3,x4,x5,x6,x7,x8])/\F x0 x1 x2 x3 x4 x5 x6 x7 x8 w
abbrev Ri(F:Int->World->Prop)(e:Ending)(w:World):Prop:=∃x:Int,e=.returned x/\F x w
abbrev Rb(F:Bool->World->Prop)(e:Ending)(w:World):Prop:=∃x:Bool,e=.returned (.bool x)/\F x w
abbrev Rv(F:Value->World->Prop)(e:Ending)(w:World):Prop:=∃x:Value,e=.returned x/\F x w
abbrev Rs(F:Sl->World->Prop)(e:Ending)(w:World):Prop:=∃x:Sl,e=.returned x/\F x w
abbrev Rt(F:World->Prop)(e:Ending)(w:World):Prop:=e=.returned (.tuple #[])/\F w
abbrev Nq(p:Option Addr)(j:Nat):Prop:=cS p≠some j
abbrev Nb(i j:Nat):Prop:=cS (some ⟨i,0,none⟩)≠some j
abbrev Wt(w:World)(a:Addr)(n:Nat):Prop:=true=true/\Wr w (some a) n
abbrev Aw(w:World)(l:Array Value)(t:TypeId)(F:World->Prop):Prop:=∀v,v=w.alloc (.cells l t)->F v
abbrev Sw(w:World)(i:Nat)(l:Array Value)(F:World->Prop):Prop:=∀v,v=w.setRow i l->F v
def Tryz.ahu:vx Tryz.prog:=Z0 (by kernel_rfl)
def Tryz.mixed:Tryz.prog.follows .mixedOrders=true:=by kernel_rfl
def cq{pre:Prop}{f:FuncId}{fn:Func}(an:Vm){args:List Value}{w:World}{R:Ending->World->Prop}(hf:Tryz.prog.funcs[f]? =some fn)(h:pre)(k:pre=Z1 Tryz.prog an fn args w R:=by kernel_rfl):Calls Tryz.prog f args.toArray w R:=
 Hd (an:=an) Tryz.ahu Tryz.mixed hf h k
abbrev cc:Vm:=⟨[],[],[]⟩
inductive CQ|a
abbrev ah:CQ:=.a
instance:CoeFun CQ (λ_=>FuncId->Array Value->World->(Ending->World->Prop)->Prop):=⟨λ_=>Calls Tryz.prog⟩
def Km.vc(h:
 Aw w #[aq,ar,av] 23 λw0=>
 Br (ar<0)
 (R (Value.tuple #[af,false]) w0)
 (Br (ar>=32)
 (R (Value.tuple #[af,false]) w0)
 (ah 148 #[av,(16:Int)] w0.drew (Ri λx2 w1=>Kp w w0.drew w1/\
 au w1 w 0 [aq]/\au w1 (lX w 1) 0 [ar]/\ah 148 #[aq,(16:Int)] w1 (Ri λx4 w3=>Kp w w1 w3/\
 au w3 (lX w 1) 0 [ar]/\R (Value.tuple #[(ai ((ai ((ai ((ai (ar*16))+x2))*16))+x4)),true]) w3))))):ah 104 #[.agg #[aq,ar,av]] w R:=
 cq cc Tryz.func104 h
def Om.vc(h:
 ah 149 #[a0] w (λe w0=>∃(t1:ByteArray),e=Value.string t1/\
 R (Value.bool (!q8 t1 (ByteArray.mk #[]))) w0)):ah 105 #[a0] w R:=
 cq cc Tryz.func105 h
def xL.vc{a0:Addr}(h:
 Aw w #[ao,ak,aw] 23 λw0=>
 ∃(x1 x2:Int),au w0.drew (ae (some a0) 0) 0 [x1,x2]/\
 ah 129 #[.agg #[x1,x2],.agg #[ao,ak,aw]] w0.drew (λe w3=>∃(x4:Int)(b5:Bool),e=Value.tuple #[x4,b5]/\Kp w w0.drew w3/\
 Br (!b5)
 (R (5:Int) w3)
 (ah 105 #[a2] w3 (Rb λb7 w6=>Kp w w3 w6/\
 Br (!b7)
 (R (1:Int) w6)
 (∃(s8:Sl),ld w6 (ae (some a0) 2)=some (.slice s8.a s8.n s8.c)/\
 ah 150 #[s8,x4,a2] w6 (Rs λcO w9=>Kp w w6 w9/\
 (true=true/\Wr w9 (ae (some a0) 2) 1)/\cS (ae (some a0) 2)≠some w.heap.size/\(∀cB,cB=bc w9 (ae (some a0) 2) [cO]->
 R (0:Int) cB))))))):ah 106 #[a0,.agg #[ao,ak,aw],a2] w R:=
 cq cc Tryz.func106 h
def vt.vc{a0:Addr}{a1:Addr}(h:
 ∃(b0:Bool),ld w (ae (some a1) 1)=some (.bool b0)/\
 Br (!b0)
 (R (0:Int) w)
 (∃(p1:Option Addr),ld w (ae (some a1) 0)=some (.pointer p1)/\
 bk (eV p1) (bk (eV p1) (∃(x2 x3:Int),au w (ae p1 0) 0 [x2,x3]/\
 ah 115 #[.agg #[x2,x3]] w (λe w4=>∃(x5 x6:Int),e=Value.agg #[x5,x6]/\
 ah 69 #[.agg #[x5,x6]] w4 (λe w7=>∃(x8:Int)(b9:Bool),e=Value.tuple #[x8,b9]/\
 ∃(YY:Option Addr),ld w7.drew (ae (some a0) 0)=some (.pointer YY)/\
 ∃(p11:Option Addr),ld w7.drew (ae (some a1) 0)=some (.pointer p11)/\
 ah 152 #[p11] w7.drew (λe bS=>∃(gl:Sl),e=gl/\
 au bS (ae (some a0) 0) 0 [.pointer YY]/\ah 151 #[YY,x8,gl] bS (λe bY=>∃(bw:Int),e=bw/\
 (true=true/\Wr bY (ae (some a1) 1) 1)/\(∀cY,cY=bc bY (ae (some a1) 1) [.bool (bw !=0)]->
 R bw cY))))))))):ah 107 #[a0,a1] w R:=
 cq cc Tryz.func107 h
def xN.vc{a0:Addr}(h:
 ∃(s0:Sl),ld w (ae (some a0) 3)=some (.slice s0.a s0.n s0.c)/\
 cA s0.a a1 s0.n/\∃(p1:Option Addr),ld w (ae s0.a ((a1:Int).toNat*1))=some (.pointer p1)/\
 ∃(s2:Sl),ld w.drew (ae (some a0) 3)=some (.slice s2.a s2.n s2.c)/\
 (0:Int)<=a1/\a1<=((s2.c:Nat):Int)/\(0:Int)<=a1/\a1<=a1/\∃(s3:Sl),ld w.drew (ae (some a0) 3)=some (.slice s3.a s3.n s3.c)/\
 (0:Int)<=(ai (a1+1))/\(ai (a1+1))<=((s3.n:Nat):Int)/\∃l4:LV,Rd w.drew (aA s3.a (((ai (a1+1)):Int).toNat) (s3.c) 1) l4/\aF 8 1 w.drew ⟨(aA s2.a (0) ((a1:Int).toNat) 1),((a1:Int).toNat-0),((a1:Int).toNat-0)⟩ (s3.n-((ai (a1+1)):Int).toNat) l4/\∀(s5:Sl)(w6:World),aE 129 1 w.drew ⟨(aA s2.a (0) ((a1:Int).toNat) 1),((a1:Int).toNat-0),((a1:Int).toNat-0)⟩ (s3.n-((ai (a1+1)):Int).toNat) l4 s5 w6->
 au w6 (ae (some a0) 3) 0 [s3]/\au w6 (ae (some a0) 3) 0 [s2]/\(true=true/\Wr w6 (ae (some a0) 3) 1)/\(∀w7,w7=bc w6 (ae (some a0) 3) [s5]->
 R p1 w7)):ah 108 #[a0,a1] w R:=
 cq cc Tryz.func108 h
def On.vc(h:
 ah 157 #[a0] w (λe w0=>∃(p1:Option Addr),e=p1/\
 Aw w0 #[p1] 224 λw2=>
 R (Value.pointer (bu w0)) w2)):ah 111 #[a0] w R:=
 cq cc Tryz.func111 h
def o5.vc{a0:Sl}{a1:Value}(h:
 ∃I0:Nat->Int->World->Prop,
 (∃n1,I0 n1 (0) w)/\
 ∀(n1:Nat)(oB:Nat->Value)(x3:Int)(w4:World),I0 n1 x3 w4->
 Br (decide (x3<((a0.n:Nat):Int)))
 (cA a0.a x3 a0.n/\∃(p6:Option Addr),ld w4 (ae a0.a ((x3:Int).toNat*1))=some (.pointer p6)/\
 dJ Tryz.prog a1 [.pointer p6] w4 (λe w7=>∃(b8:Bool),e=b8/\
 Br b8
 (R x3 w7)
 (∃n5,n5<n1/\I0 n5 ((ai (x3+1))) w7)))
 (R (Value.int .i64 (-1)) w4)):ah 113 #[a0,a1] w R:=
 cq ⟨[(2,⟨[(8,.int .i64)],[],[]⟩)],[],[]⟩ Tryz.func113 h
def rV.vc{a0:Addr}{c0:Addr}(h:
 ∃(p0:Option Addr),ld w.drew (ae (some a0) 0)=some (.pointer p0)/\
 bk (eV p0) (bk (eV p0) (∃(x1 x2:Int),au w.drew (ae p0 0) 0 [x1,x2]/\
 ∃(x3 x4:Int),au w.drew (some c0) 0 [x3,x4]/\
 ah 115 #[.agg #[x1,x2]] w.drew (λe w5=>∃(x6 x7:Int),e=Value.agg #[x6,x7]/\
 au w5 (some c0) 0 [x3,x4]/\au w5 (ae (some a0) 0) 0 [.pointer p0]/\R (Value.bool ((x6==x3) &&(x7==x4))) w5)))):ah 114 #[a0,c0] w R:=
 cq cc Tryz.func114 h
def tM.vc(h:
 Aw w #[aq,ar] 181 λw0=>
 Aw w0 #[af,af] 89 λw1=>
 Sw w1 w0 #[aq,ar] λw2=>
 R (Value.agg #[aq,ar]) w2):ah 115 #[.agg #[aq,ar]] w R:=
 cq cc Tryz.func115 h
def rW.vc{a0:Addr}(h:
 ∃(x0:Int),ld w (ae (some a0) 2)=some (.int .i64 x0)/\
 R (Value.bool (x0==0)) w):ah 116 #[a0] w R:=
 cq cc Tryz.func116 h
def Oo.vc(h:
 Br (a0>=0)
 (R (Value.bool (decide (a0<=1099511627776))) w)
 (R false w)):ah 117 #[a0] w R:=
 cq cc Tryz.func117 h
def Oq.vc{a0:Sl}(h:
 ∃I0:Nat->Sl->Int->Int->Sl->World->Prop,
 (∃n1,I0 n1 a0 ((-1)) a1 ⟨none,0,0⟩ w)/\
 ∀(n1:Nat)(oB:Nat->Value)(s3:Sl)(x4 x5:Int)(s6:Sl)(w7:World),I0 n1 s3 x4 x5 s6 w7->
 Br (decide ((((s3.n:Nat):Int):Int)>0))
 (cA s3.a 0 s3.n/\∃(x9:Int),ld w7 (ae s3.a ((0:Int).toNat*1))=some (.int .u8 x9)/\
 Aw w7 #[af,af] 166 λbL=>
 Sw bL w7 #[af,(ai x9)] λcB=>
 ah 105 #[(ai x9)] cB (Rb λb13 bS=>Kp w7 cB bS/\
 Br (!b13)
 (R (Value.tuple #[.slice none 0 0,(2:Int)]) bS)
 (Br (((ai x9):Int)==x4)
 (R (Value.tuple #[.slice none 0 0,(2:Int)]) bS)
 ((0:Int)<=((s3.n:Nat):Int)/\((s3.n:Nat):Int)<=((s3.c:Nat):Int)/\(0:Int)<=((s3.n:Nat):Int)/\(((s3.n:Nat):Int):Int)<=((s3.n:Nat):Int)/\(0:Int)<=1/\(1:Int)<=((s3.n:Nat):Int)/\ah 160 #[.slice (aA s3.a ((1:Int).toNat) ((((s3.n:Nat):Int):Int).toNat) 1) ((((s3.n:Nat):Int):Int).toNat-(1:Int).toNat) ((((s3.n:Nat):Int):Int).toNat-(1:Int).toNat)] bS (λe bY=>∃(bw cQ cR:Int),e=Value.tuple #[bw,cQ,cR]/\Kp w7 bS bY/\
 Br (cR !=0)
 (R (Value.tuple #[.slice none 0 0,cR]) bY)
 (Br (bw==0)
 (R (Value.tuple #[.slice none 0 0,(2:Int)]) bY)
 (Br (bw>x5)
 (R (Value.tuple #[.slice none 0 0,(2:Int)]) bY)
 (Sw bY w7 #[bw,(ai x9)] λdA=>
 (0:Int)<=(ai (1+cQ))/\(ai (1+cQ))<=((s3.n:Nat):Int)/\Aw dA.drew #[bw,(ai x9)] 166 λft=>
 aF 16 2 ft s6 1 [bw,(ai x9)]/\∀(sM:Sl)(ef:World),aE 166 2 ft s6 1 [bw,(ai x9)] sM ef->Kp w7 ft ef/\ef.heap[dA.drew.heap.size]? =ft.heap[dA.drew.heap.size]?/\
 Br (((ai (x5-bw)):Int)==0)
 (Br (decide (((ai (x5-bw)):Int)>0))
 (R (Value.tuple #[.slice none 0 0,(3:Int)]) ef)
 (Br (decide (((((s3.n-((ai (1+cQ)):Int).toNat):Nat):Int):Int)>0))
 (R (Value.tuple #[.slice none 0 0,(2:Int)]) ef)
 (R (Value.tuple #[sM,af]) ef)))
 (∃n8,n8<n1/\I0 n8 ⟨(aA s3.a (((ai (1+cQ)):Int).toNat) (s3.c) 1),(s3.n-((ai (1+cQ)):Int).toNat),(s3.c-((ai (1+cQ)):Int).toNat)⟩ ((ai x9)) ((ai (x5-bw))) sM ef)))))))))
 (Br (x5>0)
 (R (Value.tuple #[.slice none 0 0,(3:Int)]) w7)
 (Br (decide ((((s3.n:Nat):Int):Int)>0))
 (R (Value.tuple #[.slice none 0 0,(2:Int)]) w7)
 (R (Value.tuple #[s6,af]) w7)))):ah 119 #[a0,a1] w R:=
 cq ⟨[(3,⟨[(0,.slice),(7,.int .i64),(1,.int .i64),(6,.slice)],[],[]⟩)],[],[]⟩ Tryz.func119 h
def vk.vc{a0:Addr}(h:
 ∃(p0:Option Addr),ld w (ae (some a0) 0)=some (.pointer p0)/\
 R (Value.func (.func 43) #[p0] #[]) w):ah 11 #[a0] w R:=
 cq cc Tryz.func11 h
def Ot.vc{a1:Sl}(h:
 Aw w #[aq,ar] 89 λw0=>
 ah 161 #[a1,(8192:Int)] w0 (Rb λb2 w1=>Kp w w0 w1/\
 Br (!b2)
 (R (Value.tuple #[.pointer none,(1:Int)]) w1)
 ((ah 162 #[a1] w1.drew (Rs λs4 w3=>Kp w w1.drew w3/\
 Aw w3 #[aq,ar,s4] 183 λw5=>
 R (Value.tuple #[.pointer (bu w3),af]) w5))/\(ah 162 #[a1] w1.drew (Rs λs7 w6=>Kp w w1.drew w6/\
 au w6 w 0 [aq,ar]/\Aw w6 #[aq,ar,s7] 183 λw8=>
 R (Value.tuple #[.pointer (bu w6),af]) w8))))):ah 120 #[.agg #[aq,ar],a1] w R:=
 cq cc Tryz.func120 h
def Oe.vc(h:
 Aw w #[ao,ak] 89 λw0=>
 Aw w0 #[.slice none 0 0] 111 λw1=>
 ah 163 #[a0,.agg #[ao,ak]] w1 (Rv λv3 w2=>K2 w w0 w1 w2 (
 ∃(xs4:List (LV))(Rd5 F6:Nat->Prop)(I7:Nat->(Nat->Prop)->Sl->World->Prop)(X8:Option Nat->(Nat->Prop)->Sl->World->Prop),
 (∀x ∈ xs4,∃(x9:Int),x=[.int .i64 x9])/\
 (∀(n10:Nat)(F11:Nat->Prop)(eM:Sl)(cC bY:World),I7 n10 F11 eM cC->Below w2 cC bY->(∀i,F11 i->bY.heap[i]? =cC.heap[i]?)->I7 n10 F11 eM bY)/\
 (∀(n15:Option Nat)(F16:Nat->Prop)(gF:Sl)(dA ft:World),X8 n15 F16 gF dA->Below w2 dA ft->(∀i,F16 i->ft.heap[i]? =dA.heap[i]?)->X8 n15 F16 gF ft)/\
 (∀(n20:Nat)(F21:Nat->Prop)(wo:Sl)(gp:World),I7 n20 F21 wo gp->∀i,F21 i->i<gp.heap.size/\i≠w2.heap.size/\i≠w2.heap.size+1)/\
 (∀(n24:Option Nat)(F25:Nat->Prop)(wu:Sl)(jf:World),X8 n24 F25 wu jf->∀i,F25 i->i<jf.heap.size/\i≠w2.heap.size/\i≠w2.heap.size+1)/\
 (∀i,Rd5 i->i<w2.heap.size/\¬F6 i/\i≠w.heap.size/\i≠w0.heap.size/\True)/\
 (∀eN:World,X9 w2 w2 eN->Iter Tryz.prog (v3) eN Rd5 xs4/\aP [ao,ak]/\I7 0 F6 ⟨none,0,0⟩ eN)/\
 (∀(n29:Nat)(F30:Nat->Prop)(aio:Nat->Value)(iW:Sl)(gx:Int)(ly:World),xs4[n29]? =some [.int .i64 gx]->I7 n29 F30 iW ly->
 Below ly ly ly/\∀xu:World,Rec (w2.heap.size+1) ly xu->I7 n29 F30 iW xu->
 Aw xu #[gx] 3 λnC=>
 aF 8 1 nC iW 1 [gx]/\∀(FC:Sl)(qP:World),aE 3 1 nC iW 1 [gx] FC qP->K3 w w0 xu nC qP (
 Sw qP w0 #[FC] λiU=>
 ∃F40:Nat->Prop,(aP [ao,ak]/\I7 (n29+1) F40 FC iU)/\Step (λi=>(F30 i\/i ∈([w.heap.size,w0.heap.size]:List Nat))\/ly.heap.size<=i) (λi=>F40 i\/i ∈([w.heap.size,w0.heap.size]:List Nat)) xu iU))/\
 (∀(F41:Nat->Prop)(apl:Nat->Value)(Uf:Sl)(jA:World),I7 xs4.length F41 Uf jA->jA.heap[w2.heap.size]? =some (.deferred (some []))->
 ah 165 #[Uf] jA (Rs λMm DS=>K2 w w0 jA DS (
 ah 164 #[Mm] DS (Rs λGd oV=>K2 w w0 DS oV (
 oV.heap[w2.heap.size]? =some (.deferred (some []))/\∀BS:World,Rec w2 oV BS->
 R Gd BS)))))/\
 True))):ah 121 #[a0,.agg #[ao,ak]] w R:=
 cq ⟨[],[],[(4,⟨[],[(1,[.slice])],[]⟩,[.sc (.int .i64)])]⟩ Tryz.func121 h
def He.vc{a0:Sl}(h:
 ∃I0:Nat->Int->Int->World->Prop,
 (∃n1,I0 n1 (0) (0) w)/\
 ∀(n1:Nat)(oB:Nat->Value)(x3 x4:Int)(w5:World),I0 n1 x3 x4 w5->
 Br (decide (x3<((a0.n:Nat):Int)))
 (cA a0.a x3 a0.n/\bk (eV (ae a0.a ((x3:Int).toNat*2))) (∃(x7:Int),ld w5 (ae (ae a0.a ((x3:Int).toNat*2)) 0)=some (.int .i64 x7)/\
 Br (x7<1)
 (R (Value.tuple #[.slice none 0 0,(1:Int)]) w5)
 (cA a0.a x3 a0.n/\bk (eV (ae a0.a ((x3:Int).toNat*2))) (∃(x8:Int),ld w5 (ae (ae a0.a ((x3:Int).toNat*2)) 0)=some (.int .i64 x8)/\
 Br (decide (x8>(ai (1048576-x4))))
 (R (Value.tuple #[.slice none 0 0,(1:Int)]) w5)
 (cA a0.a x3 a0.n/\bk (eV (ae a0.a ((x3:Int).toNat*2))) (∃(x9:Int),ld w5 (ae (ae a0.a ((x3:Int).toNat*2)) 0)=some (.int .i64 x9)/\
 ∃n6,n6<n1/\I0 n6 ((ai (x3+1))) ((ai (x4+x9))) w5))))))
 (ah 166 #[a0,x4] w5 (λe bL=>∃(F7:Bool),e=F7/\
 Br (!F7)
 (R (Value.tuple #[.slice none 0 0,(1:Int)]) bL)
 (∃YZ:Nat->Int->Sl->World->Prop,
 (∃ve,YZ ve (0) ⟨none,0,0⟩ bL)/\
 ∀(ve:Nat)(aiG:Nat->Value)(bw:Int)(kH:Sl)(cE:World),YZ ve bw kH cE->
 Br (decide (bw<((a0.n:Nat):Int)))
 (cA a0.a bw a0.n/\bk (eV (ae a0.a ((bw:Int).toNat*2))) (∃(cK:Int),ld cE (ae (ae a0.a ((bw:Int).toNat*2)) 1)=some (.int .i64 cK)/\
 Aw cE #[.int .u8 (mg cK)] 5 λdY=>
 aF 1 1 dY kH 1 [.int .u8 (mg cK)]/\∀(jk:Sl)(ct:World),aE 5 1 dY kH 1 [.int .u8 (mg cK)] jk ct->Kp cE dY ct/\
 cA a0.a bw a0.n/\bk (eV (ae a0.a ((bw:Int).toNat*2))) (∃(dc:Int),ld ct (ae (ae a0.a ((bw:Int).toNat*2)) 0)=some (.int .i64 dc)/\
 ah 167 #[dc] ct (Rs λme fy=>Kp cE ct fy/\
 ∃l26:LV,Rd fy me.a l26/\aF 1 1 fy jk me.n l26/\∀(lW:Sl)(eN:World),aE 5 1 fy jk me.n l26 lW eN->Kp cE fy eN/\
 ∃Qe,Qe<ve/\YZ Qe ((ai (bw+1))) lW eN))))
 (R (Value.tuple #[kH,af]) cE))))):ah 122 #[a0] w R:=
 cq ⟨[(13,⟨[(8,.int .i64),(7,.slice)],[],[]⟩),(3,⟨[(5,.int .i64),(4,.int .i64)],[],[]⟩)],[],[]⟩ Tryz.func122 h
def KI.vc{a0:Sl}(h:
 ∃I0:Nat->Int->Int->Sl->World->Prop,
 (∃n1,I0 n1 a1 (0) ⟨none,0,0⟩ w)/\
 ∀(n1:Nat)(oB:Nat->Value)(x3 x4:Int)(s5:Sl)(w6:World),I0 n1 x3 x4 s5 w6->
 Br (x3>0)
 (Br (decide (x4>=((a0.n:Nat):Int)))
 (R (Value.tuple #[.slice none 0 0,(3:Int)]) w6)
 (cA a0.a x4 a0.n/\∃(x8:Int),ld w6 (ae a0.a ((x4:Int).toNat*1))=some (.int .u8 x8)/\
 ah 146 #[(ai x8)] w6 (λe w9=>∃(Xl:Bool),e=Xl/\
 Br (!Xl)
 (R (Value.tuple #[.slice none 0 0,(2:Int)]) w9)
 (Br (decide ((((s5.n:Nat):Int):Int)>0))
 (cA s5.a (if 0>(ai (((s5.n:Nat):Int)-1)) then 0 else (ai (((s5.n:Nat):Int)-1))) s5.n/\bk (eV (ae s5.a (((if 0>(ai (((s5.n:Nat):Int)-1)) then 0 else (ai (((s5.n:Nat):Int)-1))):Int).toNat*2))) (∃(bR:Int),ld w9 (ae (ae s5.a (((if 0>(ai (((s5.n:Nat):Int)-1)) then 0 else (ai (((s5.n:Nat):Int)-1))):Int).toNat*2)) 1)=some (.int .i64 bR)/\
 Br (bR==(ai x8))
 (R (Value.tuple #[.slice none 0 0,(2:Int)]) w9)
 ((0:Int)<=(ai (x4+1))/\(ai (x4+1))<=((a0.n:Nat):Int)/\ah 173 #[.slice (aA a0.a (((ai (x4+1)):Int).toNat) (a0.c) 1) (a0.n-((ai (x4+1)):Int).toNat) (a0.c-((ai (x4+1)):Int).toNat)] w9 (λe bS=>∃(cz bW bw:Int),e=Value.tuple #[cz,bW,bw]/\
 Br (bw !=0)
 (R (Value.tuple #[.slice none 0 0,bw]) bS)
 (Br (cz==0)
 (R (Value.tuple #[.slice none 0 0,(2:Int)]) bS)
 (Br (cz>x3)
 (R (Value.tuple #[.slice none 0 0,(2:Int)]) bS)
 (Aw bS #[cz,(ai x8)] 166 λcY=>
 aF 16 2 cY s5 1 [cz,(ai x8)]/\∀(gF:Sl)(dA:World),aE 166 2 cY s5 1 [cz,(ai x8)] gF dA->Kp bS cY dA/\
 ∃n7,n7<n1/\I0 n7 ((ai (x3-cz))) ((ai ((ai (x4+1))+bW))) gF dA)))))))
 ((0:Int)<=(ai (x4+1))/\(ai (x4+1))<=((a0.n:Nat):Int)/\ah 173 #[.slice (aA a0.a (((ai (x4+1)):Int).toNat) (a0.c) 1) (a0.n-((ai (x4+1)):Int).toNat) (a0.c-((ai (x4+1)):Int).toNat)] w9 (λe ft=>∃(du fT eK:Int),e=Value.tuple #[du,fT,eK]/\
 Br (eK !=0)
 (R (Value.tuple #[.slice none 0 0,eK]) ft)
 (Br (du==0)
 (R (Value.tuple #[.slice none 0 0,(2:Int)]) ft)
 (Br (du>x3)
 (R (Value.tuple #[.slice none 0 0,(2:Int)]) ft)
 (Aw ft #[du,(ai x8)] 166 λgp=>
 aF 16 2 gp s5 1 [du,(ai x8)]/\∀(kO:Sl)(eh:World),aE 166 2 gp s5 1 [du,(ai x8)] kO eh->Kp ft gp eh/\
 ∃n7,n7<n1/\I0 n7 ((ai (x3-du))) ((ai ((ai (x4+1))+fT))) kO eh)))))))))
 (Br (decide (x4<((a0.n:Nat):Int)))
 (R (Value.tuple #[.slice none 0 0,(2:Int)]) w6)
 (R (Value.tuple #[s5,af]) w6))):ah 126 #[a0,a1] w R:=
 cq ⟨[(3,⟨[(1,.int .i64),(7,.int .i64),(6,.slice)],[],[]⟩)],[],[]⟩ Tryz.func126 h
def Hf.vc(h:
 Aw w #[ao,ak] 89 λw0=>
 ∃I1:Nat->Int->Sl->World->Prop,
 (∃n2,aP [ao,ak]/\I1 n2 (0) ⟨none,0,0⟩ w0)/\
 ∀(n2:Nat)(Xf:Nat->Value)(x4:Int)(s5:Sl)(w6:World),I1 n2 x4 s5 w6->
 Br (x4<8192)
 (ah 174 #[.agg #[ao,ak],x4] w6 (λe w8=>∃(x9 bq bR:Int)(b12:Bool),e=Value.tuple #[.agg #[x9,bq,bR],b12]/\Kp w w6 w8/\
 Aw w8 #[af,af,af] 23 λcC=>
 Sw cC w8 #[x9,bq,bR] λbY=>
 ah 175 #[a0,.agg #[x9,bq,bR]] bY (Ri λcQ cU=>K2 w w8 bY cU (
 Aw cU #[cQ] 3 λcE=>
 aF 8 1 cE s5 1 [cQ]/\∀(Y0:Sl)(ft:World),aE 3 1 cE s5 1 [cQ] Y0 ft->K3 w w8 cU cE ft (
 ∃n7,n7<n2/\aP [ao,ak]/\I1 n7 ((ai (x4+1))) Y0 ft)))))
 (ah 176 #[s5] w6 (Rs λjk dY=>Kp w w6 dY/\
 R jk dY))):ah 127 #[a0,.agg #[ao,ak]] w R:=
 cq ⟨[(3,⟨[(6,.int .i64),(5,.slice)],[],[]⟩)],[],[]⟩ Tryz.func127 h
def Rm.vc(h:
 Br (a1<1)
 (R (0:Int) w)
 (bk (NW a1) (bk (NW a1) (Br (decide (((Int.tmod a0 a1):Int)<0))
 (R ((ai ((ai (Int.tdiv a0 a1))-1))) w)
 (R ((ai (Int.tdiv a0 a1))) w))))):ah 128 #[a0,a1] w R:=
 cq cc Tryz.func128 h
def tN.vc(h:
 Aw w #[aq,ar] 181 λw0=>
 Aw w0 #[ao,ak,aw] 23 λw1=>
 ah 104 #[.agg #[ao,ak,aw]] w1 (λe w2=>∃(x3:Int)(b4:Bool),e=Value.tuple #[x3,b4]/\K2 w w0 w1 w2 (
 Br b4
 (ah 85 #[.agg #[ao,ak,aw]] w2.drew (X7 λx6 x7 w5=>K2 w w0 w2.drew w5 (
 au w5 w 0 [aq,ar]/\R (Value.tuple #[x3,.bool ((x6==aq) &&(x7==ar))]) w5)))
 (R (Value.tuple #[x3,false]) w2.drew)))):ah 129 #[.agg #[aq,ar],.agg #[ao,ak,aw]] w R:=
 cq cc Tryz.func129 h
def Wk.vc{a0:Sl}(h:
 ∃I0:Nat->Int->Int->World->Prop,
 (∃n1,I0 n1 (0) a1 w)/\
 ∀(n1:Nat)(oB:Nat->Value)(x3 x4:Int)(w5:World),I0 n1 x3 x4 w5->
 Br (decide (x3<((a0.n:Nat):Int)))
 (cA a0.a x3 a0.n/\∃(x7 x8:Int),au w5 (ae a0.a ((x3:Int).toNat*2)) 0 [x7,x8]/\
 Aw w5 #[af,af] 166 λw9=>
 Sw w9 w5 #[x7,x8] λbL=>
 Br (x4>=0)
 (Br (x4<x7)
 (R x8 bL)
 (∃n6,n6<n1/\I0 n6 ((ai (x3+1))) ((ai (x4-x7))) bL))
 (∃n6,n6<n1/\I0 n6 ((ai (x3+1))) ((ai (x4-x7))) bL))
 (R (Value.int .i64 (-1)) w5)):ah 130 #[a0,a1] w R:=
 cq ⟨[(2,⟨[(9,.int .i64),(1,.int .i64)],[],[]⟩)],[],[]⟩ Tryz.func130 h
def Ou.vc(h:
 Br (a0>=8)
 (R (Value.bool (decide (a0<16))) w)
 (R false w)):ah 134 #[a0] w R:=
 cq cc Tryz.func134 h
def vy.vc{a0:Addr}(h:
 ∃(s0:Sl),ld w (ae (some a0) 3)=some (.slice s0.a s0.n s0.c)/\
 ∃I1:Nat->Int->Sl->World->Prop,
 (∃n2,I1 n2 (0) ⟨none,0,0⟩ w)/\
 ∀(n2:Nat)(Xf:Nat->Value)(x4:Int)(s5:Sl)(w6:World),I1 n2 x4 s5 w6->
 Br (decide (x4<((s0.n:Nat):Int)))
 (cA s0.a x4 s0.n/\∃(p8:Option Addr),ld w6 (ae s0.a ((x4:Int).toNat*1))=some (.pointer p8)/\
 bk (eV p8) (bk (eV p8) (∃(p9:Option Addr),ld w6 (ae p8 0)=some (.pointer p9)/\
 bk (eV p9) (bk (eV p9) (∃(bq bR:Int),au w6 (ae p9 0) 0 [bq,bR]/\
 ah 115 #[.agg #[bq,bR]] w6 (λe bS=>∃(cz bW:Int),e=Value.agg #[cz,bW]/\
 Aw bS #[cz,bW] 89 λcU=>
 aF 16 2 cU s5 1 [cz,bW]/\∀(kH:Sl)(cE:World),aE 89 2 cU s5 1 [cz,bW] kH cE->Kp bS cU cE/\
 ∃n7,n7<n2/\I1 n7 ((ai (x4+1))) kH cE))))))
 (R s5 w6)):ah 135 #[a0] w R:=
 cq ⟨[(3,⟨[(11,.int .i64),(3,.slice)],[],[]⟩)],[],[]⟩ Tryz.func135 h
def Gw.vc(h:
 Aw w #[aq,ar] 89 λw0=>
 Aw w0 #[af,af,af,af,af,af,af,af,af,af] 202 λw1=>
 Wt w1 ⟨w0,0,none⟩ 10/\Nb w0 w/\(∀w2,w2=bc w1 (bu w0) [aq,ar,(ai (aq-1)),ar,(ai (aq+1)),ar,aq,(ai (ar-1)),aq,(ai (ar+1))]->
 ∃(x3 x4 x5 x6 x7 x8 x9 bq bR bU:Int),au w2 (bu w0) 0 [x3,x4,x5,x6,x7,x8,x9,bq,bR,bU]/\
 R (Value.agg #[x3,x4,x5,x6,x7,x8,x9,bq,bR,bU]) w2)):ah 136 #[.agg #[aq,ar]] w R:=
 cq cc Tryz.func136 h
def qR.vc{a0:Sl}(h:
 Aw w #[ao,ak] 89 λw0=>
 ah 184 #[a0,.agg #[ao,ak]] w0 (Ri λx2 w1=>Kp w w0 w1/\
 R (Value.bool (decide (x2>=0))) w1)):ah 137 #[a0,.agg #[ao,ak]] w R:=
 cq cc Tryz.func137 h
def Hg.vc(h:
 ah 134 #[a0] w (λe w0=>∃(b1:Bool),e=b1/\
 Br (!b1)
 (R (Value.int .i64 (-1)) w0)
 (R ((ai (a0-8))) w0))):ah 140 #[a0] w R:=
 cq cc Tryz.func140 h
def N7.vc(h:
 bk (NW a1) (Br (decide (((ai ((ai (Int.tdiv a0 a1))*a1)):Int)>a0))
 (R ((ai ((ai (Int.tdiv a0 a1))-1))) w)
 (R ((ai (Int.tdiv a0 a1))) w))):ah 144 #[a0,a1] w R:=
 cq cc Tryz.func144 h
def GL.vc(h:
 Aw w #[aq,ar,av] 23 λw0=>
 Br (ar<0)
 (R (Value.tuple #[af,false]) w0)
 (Br (ar>31)
 (R (Value.tuple #[af,false]) w0)
 (ah 44 #[av,(16:Int)] w0.drew (Ri λx2 w1=>Kp w w0.drew w1/\
 au w1 w 0 [aq]/\au w1 (lX w 1) 0 [ar]/\ah 44 #[aq,(16:Int)] w1 (Ri λx4 w3=>Kp w w1 w3/\
 au w3 (lX w 1) 0 [ar]/\R (Value.tuple #[(ai ((ai ((ai (ar*256))+(ai (x2*16))))+x4)),true]) w3))))):ah 145 #[.agg #[aq,ar,av]] w R:=
 cq cc Tryz.func145 h
def Ov.vc(h:
 Br (a0>=0)
 (Br (a0<=15)
 (Br (a0 !=6)
 (R (Value.bool (a0 !=7)) w)
 (R false w))
 (R false w))
 (R false w)):ah 146 #[a0] w R:=
 cq cc Tryz.func146 h
def Ow.vc{av:Sl}(h:
 Aw w #[aq,ar,av] 108 λw0=>
 Aw w0 #[ao,ak,aw] 23 λw1=>
 Aw w1 #[af,af,.slice none 0 0] 108 λw2=>
 ah 97 #[.agg #[aq,ar,av],.agg #[ao,ak,aw]] w2 (Ri λx4 w3=>K3 w w0 w1 w2 w3 (
 Br (x4<0)
 (Sw w3 w1 #[aq,ar,av] λw5=>
 R (Value.tuple #[.agg #[aq,ar,av],(5:Int)]) w5)
 (ah 146 #[a2] w3 (Rb λb7 w6=>K3 w w0 w1 w3 w6 (
 Br (!b7)
 (Sw w6 w1 #[aq,ar,av] λw8=>
 R (Value.tuple #[.agg #[aq,ar,av],(1:Int)]) w8)
 (ah 189 #[av,x4,a2] w6 (Rs λcO w9=>K3 w w0 w1 w6 w9 (
 Sw w9 w #[aq,ar,cO] λcB=>
 Sw cB w1 #[aq,ar,cO] λbS=>
 R (Value.tuple #[.agg #[aq,ar,cO],(0:Int)]) bS))))))))):ah 147 #[.agg #[aq,ar,av],.agg #[ao,ak,aw],a2] w R:=
 cq cc Tryz.func147 h
def Ro.vc(h:
 Br (a1<1)
 (R (0:Int) w)
 (bk (NW a1) (Br (decide (((Int.tmod a0 a1):Int)<0))
 (R ((ai ((Int.tmod a0 a1)+a1))) w)
 (R (Value.int .i64 (Int.tmod a0 a1)) w)))):ah 148 #[a0,a1] w R:=
 cq cc Tryz.func148 h
def KJ.vc(h:
 Br (a0<0)
 (R (Value.string (ByteArray.mk #[])) w)
 (Br (a0>=16)
 (R (Value.string (ByteArray.mk #[])) w)
 (ah 190 #[] w (λe w0=>∃(t1 t2 t3 t4 t5 t6 t7 t8 t9 t10 t11 t12 t13 t14 t15 t16:ByteArray),e=Value.agg #[.string t1,.string t2,.string t3,.string t4,.string t5,.string t6,.string t7,.string t8,.string t9,.string t10,.string t11,.string t12,.string t13,.string t14,.string t15,.string t16]/\
 ((0:Int)<=a0/\a0<((16:Nat):Int))/\∃(t17:ByteArray),([.string t1,.string t2,.string t3,.string t4,.string t5,.string t6,.string t7,.string t8,.string t9,.string t10,.string t11,.string t12,.string t13,.string t14,.string t15,.string t16]:LV)[(a0:Int).toNat*1]? =some (.string t17)/\
 R (Value.string t17) w0)))):ah 149 #[a0] w R:=
 cq cc Tryz.func149 h
def R0.vc{a0:Sl}(h:
 Br (a1<0)
 (ah 162 #[a0] w (λe w0=>∃(s1:Sl),e=s1/\
 R s1 w0))
 (ah 191 #[a0] w (λe w2=>∃(x3:Int),e=x3/\
 Br (a1>=x3)
 (ah 162 #[a0] w2 (λe w4=>∃(s5:Sl),e=s5/\
 R s5 w4))
 (ah 192 #[a0,a1,(ai (a1+1)),a2] w2 (λe w6=>∃(s7:Sl),e=s7/\
 R s7 w6))))):ah 150 #[a0,a1,a2] w R:=
 cq cc Tryz.func150 h
def tO.vc{a0:Addr}(h:
 ∃(s0:Sl),ld w (ae (some a0) 2)=some (.slice s0.a s0.n s0.c)/\
 ah 196 #[s0] w (λe w1=>∃(s2:Sl)(x3:Int),e=Value.tuple #[s2,x3]/\
 R s2 w1)):ah 152 #[a0] w R:=
 cq cc Tryz.func152 h
def R1.vc(h:
 ∀w0,w0=w.alloc (.map #[] 0)->
 Aw w0 #[.int .i64 (if 1048576<(if 0>a0 then 0 else a0) then 1048576 else (if 0>a0 then 0 else a0)),af,af,.map (some w.heap.size),.slice none 0 0] 262 λw1=>
 R (Value.pointer (bu w0)) w1):ah 157 #[a0] w R:=
 cq cc Tryz.func157 h
def B4.vc{a0:Addr}(h:
 ah 202 #[a0] w (λe w0=>∃(m1:Option Nat),e=Value.map m1/\
 ∃(G2:Value->Prop)(kvs3:List (Value × Value)),gQ Tryz.prog 3 G2/\bN G2 w0 m1 kvs3/\G2 a1/\∃(s4:Sl),∃b5:Bool,B5 kvs3 a1 (.slice none 0 0) s4 b5/\
 ah 203 #[s4] w0 (λe w6=>∃(s7:Sl),e=s7/\
 R (Value.tuple #[s7,b5]) w6))):ah 158 #[a0,a1] w R:=
 cq cc Tryz.func158 h
def KK.vc{a0:Sl}(h:
 ah 204 #[a0] w (λe w0=>∃(s1:Sl)(x2:Int),e=Value.tuple #[s1,x2]/\
 Br (x2 !=0)
 (R (Value.tuple #[af,.slice none 0 0,x2]) w0)
 (Br (decide ((((s1.n:Nat):Int):Int)<7))
 (R (Value.tuple #[af,.slice none 0 0,(3:Int)]) w0)
 ((0:Int)<=4/\4<=((s1.c:Nat):Int)/\(0:Int)<=7/\7<=((s1.c:Nat):Int)/\(0:Int)<=4/\(4:Int)<=7/\(0:Int)<=7/\7<=((s1.n:Nat):Int)/\ah 205 #[.slice (aA s1.a (0) (s1.c) 1) ((4:Int).toNat-0) (s1.c-0)] w0.drew (λe w3=>∃(x4:Int),e=x4/\
 ah 205 #[.slice (aA s1.a ((4:Int).toNat) (s1.c) 1) ((7:Int).toNat-(4:Int).toNat) (s1.c-(4:Int).toNat)] w3 (λe w5=>∃(x6:Int),e=x6/\
 Br (x4<1)
 (R (Value.tuple #[af,.slice none 0 0,(2:Int)]) w5)
 (Br (x4>1073741824)
 (R (Value.tuple #[af,.slice none 0 0,(2:Int)]) w5)
 (Br (x6>65536)
 (R (Value.tuple #[af,.slice none 0 0,(2:Int)]) w5)
 (Br (x6 !=(((s1.n-(7:Int).toNat):Nat):Int))
 (R (Value.tuple #[af,.slice none 0 0,(2:Int)]) w5)
 (R (Value.tuple #[x4,.slice (aA s1.a ((7:Int).toNat) (s1.c) 1) (s1.n-(7:Int).toNat) (s1.c-(7:Int).toNat),af]) w5)))))))))):ah 159 #[a0] w R:=
 cq cc Tryz.func159 h
def Hh.vc{a0:Sl}(h:
 (0:Int)<=(if 3<((a0.n:Nat):Int) then 3 else ((a0.n:Nat):Int))/\(if 3<((a0.n:Nat):Int) then 3 else ((a0.n:Nat):Int))<=((a0.c:Nat):Int)/\∃I0:Nat->Int->Int->World->Prop,
 (∃n1,I0 n1 (0) (0) w)/\
 ∀(n1:Nat)(oB:Nat->Value)(x3 x4:Int)(w5:World),I0 n1 x3 x4 w5->
 Br (decide (x3<(((((if 3<((a0.n:Nat):Int) then 3 else ((a0.n:Nat):Int)):Int).toNat-0):Nat):Int)))
 (cA (aA a0.a (0) (a0.c) 1) x3 (((if 3<((a0.n:Nat):Int) then 3 else ((a0.n:Nat):Int)):Int).toNat-0)/\∃(x7:Int),ld w5 (ae (aA a0.a (0) (a0.c) 1) ((x3:Int).toNat*1))=some (.int .u8 x7)/\
 bk (Zp (ai (7*x3))) (Br (x7>=128)
 (∃n6,n6<n1/\I0 n6 ((ai (x3+1))) ((Gk .i64 x4 (ai ((ai (j5 .u8 x7 128))*2 ^(min ((ai (7*x3)):Int).toNat 64))))) w5)
 (Br (x7==0)
 (Br (x3>0)
 (R (Value.tuple #[af,af,(2:Int)]) w5)
 (Br (decide (((Gk .i64 x4 (ai ((ai (j5 .u8 x7 128))*2 ^(min ((ai (7*x3)):Int).toNat 64)))):Int)>1048576))
 (R (Value.tuple #[af,af,(2:Int)]) w5)
 (R (Value.tuple #[.int .i64 (Gk .i64 x4 (ai ((ai (j5 .u8 x7 128))*2 ^(min ((ai (7*x3)):Int).toNat 64)))),(ai (x3+1)),af]) w5)))
 (Br (decide (((Gk .i64 x4 (ai ((ai (j5 .u8 x7 128))*2 ^(min ((ai (7*x3)):Int).toNat 64)))):Int)>1048576))
 (R (Value.tuple #[af,af,(2:Int)]) w5)
 (R (Value.tuple #[.int .i64 (Gk .i64 x4 (ai ((ai (j5 .u8 x7 128))*2 ^(min ((ai (7*x3)):Int).toNat 64)))),(ai (x3+1)),af]) w5)))))
 (Br (decide ((((a0.n:Nat):Int):Int)<3))
 (R (Value.tuple #[af,af,(3:Int)]) w5)
 (R (Value.tuple #[af,af,(2:Int)]) w5))):ah 160 #[a0] w R:=
 cq ⟨[(3,⟨[(14,.int .i64),(5,.int .i64)],[],[]⟩)],[],[]⟩ Tryz.func160 h
def R2.vc{a0:Sl}(h:
 ∃I0:Nat->Int->Int->World->Prop,
 (∃n1,I0 n1 (0) a1 w)/\
 ∀(n1:Nat)(oB:Nat->Value)(x3 x4:Int)(w5:World),I0 n1 x3 x4 w5->
 Br (decide (x3<((a0.n:Nat):Int)))
 (cA a0.a x3 a0.n/\∃(x7 x8:Int),au w5 (ae a0.a ((x3:Int).toNat*2)) 0 [x7,x8]/\
 Aw w5 #[af,af] 166 λw9=>
 Sw w9 w5 #[x7,x8] λbL=>
 Br (x7<1)
 (R false bL.drew)
 (Br (x7>x4)
 (R false bL.drew)
 (ah 105 #[x8] bL.drew (Rb λb12 cB=>Kp w5 bL.drew cB/\
 au cB w5 0 [x7]/\au cB w5 0 [x7]/\Br (!b12)
 (R false cB)
 (Br (x3>0)
 (cA a0.a (ai (x3-1)) a0.n/\bk (eV (ae a0.a (((ai (x3-1)):Int).toNat*2))) (∃(cz:Int),ld cB (ae (ae a0.a (((ai (x3-1)):Int).toNat*2)) 1)=some (.int .i64 cz)/\
 Br (cz==x8)
 (R false cB)
 (∃n6,n6<n1/\I0 n6 ((ai (x3+1))) ((ai (x4-x7))) cB)))
 (∃n6,n6<n1/\I0 n6 ((ai (x3+1))) ((ai (x4-x7))) cB))))))
 (Br (a1>0)
 (R (Value.bool (x4==0)) w5)
 (R false w5))):ah 161 #[a0,a1] w R:=
 cq ⟨[(3,⟨[(11,.int .i64),(5,.int .i64)],[],[]⟩)],[],[]⟩ Tryz.func161 h
def vz.vc{a0:Sl}(h:
 Br (a0.a).isNone
 (R (Value.slice none 0 0) w)
 (Aw w #[] 166 λw0=>
 ∃l1:LV,Rd w0 a0.a l1/\aF 16 2 w0 ⟨(bu w),0,0⟩ a0.n l1/\∀(s2:Sl)(w3:World),aE 166 2 w0 ⟨(bu w),0,0⟩ a0.n l1 s2 w3->Kp w w0 w3/\
 R s2 w3)):ah 162 #[a0] w R:=
 cq cc Tryz.func162 h
def Ox.vc(h:
 Aw w #[a0] 3 λw0=>
 Aw w0 #[ao,ak] 89 λw1=>
 R (Value.func (.func 206) #[] #[.pointer (bu w0),w]) w1):ah 163 #[a0,.agg #[ao,ak]] w R:=
 cq cc Tryz.func163 h
def Wl.vc{a0:Sl}(h:
 ∃I0:Nat->Int->Sl->World->Prop,
 (∃n1,I0 n1 (0) ⟨none,0,0⟩ w)/\
 ∀(n1:Nat)(oB:Nat->Value)(x3:Int)(s4:Sl)(w5:World),I0 n1 x3 s4 w5->
 Br (decide (x3<((a0.n:Nat):Int)))
 (cA a0.a x3 a0.n/\∃(x7:Int),ld w5 (ae a0.a ((x3:Int).toNat*1))=some (.int .i64 x7)/\
 ah 210 #[s4,.agg #[(1:Int),x7]] w5 (λe w8=>∃(s9:Sl),e=s9/\
 ∃n6,n6<n1/\I0 n6 ((ai (x3+1))) s9 w8))
 (R s4 w5)):ah 164 #[a0] w R:=
 cq ⟨[(3,⟨[(8,.int .i64),(3,.slice)],[],[]⟩)],[],[]⟩ Tryz.func164 h
def xJ.vc{a0:Sl}(h:
 (0:Int)<=((a0.n:Nat):Int)/\((a0.n:Nat):Int)<=((a0.c:Nat):Int)/\(0:Int)<=((a0.n:Nat):Int)/\(((a0.n:Nat):Int):Int)<=((a0.n:Nat):Int)/\R (Value.slice (aA a0.a (0) ((((a0.n:Nat):Int):Int).toNat) 1) ((((a0.n:Nat):Int):Int).toNat-0) ((((a0.n:Nat):Int):Int).toNat-0)) w):ah 165 #[a0] w R:=
 cq cc Tryz.func165 h
def Oy.vc{a0:Sl}(h:
 ∃I0:Nat->Int->Int->World->Prop,
 (∃n1,I0 n1 (0) a1 w)/\
 ∀(n1:Nat)(oB:Nat->Value)(x3 x4:Int)(w5:World),I0 n1 x3 x4 w5->
 Br (decide (x3<((a0.n:Nat):Int)))
 (cA a0.a x3 a0.n/\bk (eV (ae a0.a ((x3:Int).toNat*2))) (∃(x7:Int),ld w5 (ae (ae a0.a ((x3:Int).toNat*2)) 1)=some (.int .i64 x7)/\
 ah 146 #[x7] w5 (λe w8=>∃(b9:Bool),e=b9/\
 Br (!b9)
 (R false w8)
 (cA a0.a x3 a0.n/\bk (eV (ae a0.a ((x3:Int).toNat*2))) (∃(bq:Int),ld w8 (ae (ae a0.a ((x3:Int).toNat*2)) 0)=some (.int .i64 bq)/\
 Br (bq<1)
 (R false w8)
 (cA a0.a x3 a0.n/\bk (eV (ae a0.a ((x3:Int).toNat*2))) (∃(bR:Int),ld w8 (ae (ae a0.a ((x3:Int).toNat*2)) 0)=some (.int .i64 bR)/\
 Br (bR>x4)
 (R false w8)
 (Br (x3>0)
 (cA a0.a x3 a0.n/\bk (eV (ae a0.a ((x3:Int).toNat*2))) (∃(bU:Int),ld w8.drew (ae (ae a0.a ((x3:Int).toNat*2)) 1)=some (.int .i64 bU)/\
 cA a0.a (ai (x3-1)) a0.n/\bk (eV (ae a0.a (((ai (x3-1)):Int).toNat*2))) (∃(cz:Int),ld w8.drew (ae (ae a0.a (((ai (x3-1)):Int).toNat*2)) 1)=some (.int .i64 cz)/\
 Br (bU==cz)
 (R false w8.drew)
 (cA a0.a x3 a0.n/\bk (eV (ae a0.a ((x3:Int).toNat*2))) (∃(bW:Int),ld w8.drew (ae (ae a0.a ((x3:Int).toNat*2)) 0)=some (.int .i64 bW)/\
 ∃n6,n6<n1/\I0 n6 ((ai (x3+1))) ((ai (x4-bW))) w8.drew)))))
 (cA a0.a x3 a0.n/\bk (eV (ae a0.a ((x3:Int).toNat*2))) (∃(bw:Int),ld w8.drew (ae (ae a0.a ((x3:Int).toNat*2)) 0)=some (.int .i64 bw)/\
 ∃n6,n6<n1/\I0 n6 ((ai (x3+1))) ((ai (x4-bw))) w8.drew))))))))))
 (Br (x4==0)
 (R (Value.bool (decide (a1>0))) w5)
 (R false w5))):ah 166 #[a0,a1] w R:=
 cq ⟨[(3,⟨[(6,.int .i64),(5,.int .i64)],[],[]⟩)],[],[]⟩ Tryz.func166 h
def Eu.vc(h:
 Br (a0<0)
 (R (Value.slice none 0 0) w)
 (Br (a0>1048576)
 (R (Value.slice none 0 0) w)
 (∃I0:Nat->Int->Int->Sl->World->Prop,
 (∃n1,I0 n1 (0) a0 ⟨none,0,0⟩ w)/\
 ∀(n1:Nat)(oB:Nat->Value)(x3 x4:Int)(s5:Sl)(w6:World),I0 n1 x3 x4 s5 w6->
 Br (x3<3)
 (Br (x4<128)
 (Aw w6 #[.int .u8 (mg x4)] 5 λw8=>
 aF 1 1 w8 s5 1 [.int .u8 (mg x4)]/\∀(s9:Sl)(bL:World),aE 5 1 w8 s5 1 [.int .u8 (mg x4)] s9 bL->Kp w6 w8 bL/\
 R s9 bL)
 (Aw w6 #[.int .u8 (mg (ai (128+(Int.tmod x4 128))))] 5 λcB=>
 aF 1 1 cB s5 1 [.int .u8 (mg (ai (128+(Int.tmod x4 128))))]/\∀(eM:Sl)(cC:World),aE 5 1 cB s5 1 [.int .u8 (mg (ai (128+(Int.tmod x4 128))))] eM cC->Kp w6 cB cC/\
 ∃n7,n7<n1/\I0 n7 ((ai (x3+1))) ((ai (Int.tdiv x4 128))) eM cC))
 (R s5 w6)))):ah 167 #[a0] w R:=
 cq ⟨[(5,⟨[(4,.int .i64),(0,.int .i64),(3,.slice)],[],[]⟩)],[],[]⟩ Tryz.func167 h
def Ev.vc{a0:Sl}(h:
 ∃I0:Nat->Int->Int->Int->World->Prop,
 (∃n1,I0 n1 (0) (0) (1) w)/\
 ∀(n1:Nat)(oB:Nat->Value)(x3 x4 x5:Int)(w6:World),I0 n1 x3 x4 x5 w6->
 Br (x3<3)
 (Br (decide (x3>=((a0.n:Nat):Int)))
 (R (Value.tuple #[af,af,(3:Int)]) w6)
 (cA a0.a x3 a0.n/\∃(x8:Int),ld w6 (ae a0.a ((x3:Int).toNat*1))=some (.int .u8 x8)/\
 Br (decide (((ai x8):Int)>=128))
 (∃n7,n7<n1/\I0 n7 ((ai (x3+1))) ((ai (x4+(ai ((Int.tmod (ai x8) 128)*x5))))) ((ai (x5*128))) w6)
 (Br (((ai x8):Int)==0)
 (Br (x3>0)
 (R (Value.tuple #[af,af,(2:Int)]) w6)
 (Br (decide (((ai (x4+(ai ((Int.tmod (ai x8) 128)*x5)))):Int)>1048576))
 (R (Value.tuple #[af,af,(2:Int)]) w6)
 (R (Value.tuple #[(ai (x4+(ai ((Int.tmod (ai x8) 128)*x5)))),(ai (x3+1)),af]) w6)))
 (Br (decide (((ai (x4+(ai ((Int.tmod (ai x8) 128)*x5)))):Int)>1048576))
 (R (Value.tuple #[af,af,(2:Int)]) w6)
 (R (Value.tuple #[(ai (x4+(ai ((Int.tmod (ai x8) 128)*x5)))),(ai (x3+1)),af]) w6)))))
 (R (Value.tuple #[af,af,(2:Int)]) w6)):ah 173 #[a0] w R:=
 cq ⟨[(4,⟨[(7,.int .i64),(5,.int .i64),(6,.int .i64)],[],[]⟩)],[],[]⟩ Tryz.func173 h
def Kr.vc(h:
 Aw w #[aq,ar] 89 λw0=>
 Aw w0 #[af,af,af] 23 λw1=>
 Br (a1<0)
 (Sw w1 w0 #[af,af,af] λw2=>
 R (Value.tuple #[.agg #[af,af,af],false]) w2)
 (Br (a1>8191)
 (Sw w1 w0 #[af,af,af] λw3=>
 R (Value.tuple #[.agg #[af,af,af],false]) w3)
 (Sw w1 w0 #[(ai ((ai (aq*16))+(Int.tmod a1 16))),(ai (Int.tdiv a1 256)),(ai ((ai (ar*16))+(ai (Int.tdiv (Int.tmod a1 256) 16))))] λw4=>
 R (Value.tuple #[.agg #[(ai ((ai (aq*16))+(Int.tmod a1 16))),(ai (Int.tdiv a1 256)),(ai ((ai (ar*16))+(ai (Int.tdiv (Int.tmod a1 256) 16))))],true]) w4))):ah 174 #[.agg #[aq,ar],a1] w R:=
 cq cc Tryz.func174 h
def GY.vc(h:
 Aw w #[ao,ak,aw] 23 λw0=>
 ah 219 #[a0,ao,aw] w0 (Ri λx2 w1=>Kp w w0 w1/\
 Br (ak<0)
 (R (0:Int) w1)
 (Br (ak>31)
 (R (0:Int) w1)
 (Br (ak==0)
 (R (1:Int) w1)
 (Br (decide (ak<(ai (x2-3))))
 (R (1:Int) w1)
 (Br (decide (ak<(ai (x2-1))))
 (R (2:Int) w1)
 (Br (ak==(ai (x2-1)))
 (Br (x2<=9)
 (R (3:Int) w1)
 (R (2:Int) w1))
 (Br (ak<9)
 (R (8:Int) w1)
 (R (0:Int) w1))))))))):ah 175 #[a0,.agg #[ao,ak,aw]] w R:=
 cq cc Tryz.func175 h
def Ry.vc{a0:Sl}(h:
 ∃I0:Nat->Int->Sl->World->Prop,
 (∃n1,I0 n1 (0) ⟨none,0,0⟩ w)/\
 ∀(n1:Nat)(oB:Nat->Value)(x3:Int)(s4:Sl)(w5:World),I0 n1 x3 s4 w5->
 Br (decide (x3<((a0.n:Nat):Int)))
 (Br (x3>0)
 (cA a0.a (ai (x3-1)) a0.n/\∃(x7:Int),ld w5.drew (ae a0.a (((ai (x3-1)):Int).toNat*1))=some (.int .i64 x7)/\
 cA a0.a x3 a0.n/\∃(x8:Int),ld w5.drew (ae a0.a ((x3:Int).toNat*1))=some (.int .i64 x8)/\
 Br (x7==x8)
 (cA s4.a (ai (((s4.n:Nat):Int)-1)) s4.n/\bk (eV (ae s4.a (((ai (((s4.n:Nat):Int)-1)):Int).toNat*2))) (∃(x9:Int),ld w5.drew (ae (ae s4.a (((ai (((s4.n:Nat):Int)-1)):Int).toNat*2)) 0)=some (.int .i64 x9)/\
 cA s4.a (ai (((s4.n:Nat):Int)-1)) s4.n/\bk (eV (ae s4.a (((ai (((s4.n:Nat):Int)-1)):Int).toNat*2))) ((((ae (ae s4.a (((ai (((s4.n:Nat):Int)-1)):Int).toNat*2)) 0)).isSome=true/\Wr w5.drew (ae (ae s4.a (((ai (((s4.n:Nat):Int)-1)):Int).toNat*2)) 0) 1)/\(∀bL,bL=bc w5.drew (ae (ae s4.a (((ai (((s4.n:Nat):Int)-1)):Int).toNat*2)) 0) [(ai (x9+1))]->
 ∃n6,n6<n1/\I0 n6 ((ai (x3+1))) s4 bL))))
 (cA a0.a x3 a0.n/\∃(bR:Int),ld w5.drew (ae a0.a ((x3:Int).toNat*1))=some (.int .i64 bR)/\
 Aw w5.drew #[(1:Int),bR] 166 λbS=>
 aF 16 2 bS s4 1 [(1:Int),bR]/\∀(gl:Sl)(bY:World),aE 166 2 bS s4 1 [(1:Int),bR] gl bY->bY.heap[w5.drew.heap.size]? =bS.heap[w5.drew.heap.size]?/\
 ∃n6,n6<n1/\I0 n6 ((ai (x3+1))) gl bY))
 (cA a0.a x3 a0.n/\∃(bw:Int),ld w5.drew (ae a0.a ((x3:Int).toNat*1))=some (.int .i64 bw)/\
 Aw w5.drew #[(1:Int),bw] 166 λcY=>
 aF 16 2 cY s4 1 [(1:Int),bw]/\∀(gF:Sl)(dA:World),aE 166 2 cY s4 1 [(1:Int),bw] gF dA->dA.heap[w5.drew.heap.size]? =cY.heap[w5.drew.heap.size]?/\
 ∃n6,n6<n1/\I0 n6 ((ai (x3+1))) gF dA))
 (R s4 w5)):ah 176 #[a0] w R:=
 cq ⟨[(3,⟨[(4,.int .i64),(3,.slice)],[],[]⟩)],[],[]⟩ Tryz.func176 h
def vm.vc{a0:Sl}(h:
 Aw w #[ao,ak] 89 λw0=>
 ∃I1:Nat->Int->World->Prop,
 (∃n2,aP [ao,ak]/\I1 n2 (0) w0)/\
 ∀(n2:Nat)(Xf:Nat->Value)(x4:Int)(w5:World),I1 n2 x4 w5->
 Br (decide (x4<((a0.n:Nat):Int)))
 (cA a0.a x4 a0.n/\∃(x7 x8:Int),au w5.drew (ae a0.a ((x4:Int).toNat*2)) 0 [x7,x8]/\
 Br ((ao==x7) &&(ak==x8))
 (R x4 w5.drew)
 (∃n6,n6<n2/\aP [ao,ak]/\I1 n6 ((ai (x4+1))) w5.drew))
 (R (Value.int .i64 (-1)) w5)):ah 184 #[a0,.agg #[ao,ak]] w R:=
 cq ⟨[(2,⟨[(8,.int .i64)],[],[]⟩)],[],[]⟩ Tryz.func184 h
def Ew.vc(h:
 Br (a0==0)
 (R true w)
 (ah 134 #[a0] w (λe w0=>∃(b1:Bool),e=b1/\
 R b1 w0))):ah 185 #[a0] w R:=
 cq cc Tryz.func185 h
def Hi.vc(h:
 R ((ai (8+(if 7<(if 0>a0 then 0 else a0) then 7 else (if 0>a0 then 0 else a0))))) w):ah 187 #[a0] w R:=
 cq cc Tryz.func187 h
def Of.vc{a0:Sl}(h:
 ah 224 #[a0] w (λe w0=>∃(s1:Sl),e=s1/\
 ah 146 #[a2] w0 (λe w2=>∃(b3:Bool),e=b3/\
 Br b3
 (Br (a1>=0)
 (Br (decide (a1<((s1.n:Nat):Int)))
 (cA s1.a a1 s1.n/\(((ae s1.a ((a1:Int).toNat*1))).isSome=true/\Wr w2 (ae s1.a ((a1:Int).toNat*1)) 1)/\(∀w4,w4=bc w2 (ae s1.a ((a1:Int).toNat*1)) [a2]->
 ah 176 #[s1] w4 (λe w5=>∃(s6:Sl),e=s6/\
 R s6 w5)))
 (ah 176 #[s1] w2 (λe w7=>∃(s8:Sl),e=s8/\
 R s8 w7)))
 (ah 176 #[s1] w2 (λe w9=>∃(cO:Sl),e=cO/\
 R cO w9)))
 (ah 176 #[s1] w2 (λe cB=>∃(eM:Sl),e=eM/\
 R eM cB))))):ah 189 #[a0,a1,a2] w R:=
 cq cc Tryz.func189 h
def Hj.vc(h:
 ∀w0,w0=w.alloc (.cells #[.string (ByteArray.mk #[]),.string (ByteArray.mk #[]),.string (ByteArray.mk #[]),.string (ByteArray.mk #[]),.string (ByteArray.mk #[]),.string (ByteArray.mk #[]),.string (ByteArray.mk #[]),.string (ByteArray.mk #[]),.string (ByteArray.mk #[]),.string (ByteArray.mk #[]),.string (ByteArray.mk #[]),.string (ByteArray.mk #[]),.string (ByteArray.mk #[]),.string (ByteArray.mk #[]),.string (ByteArray.mk #[]),.string (ByteArray.mk #[])] 254)->
 ∀w1,w1=w0.alloc (.cells #[.string (ByteArray.mk #[]),.string (ByteArray.mk #[]),.string (ByteArray.mk #[]),.string (ByteArray.mk #[]),.string (ByteArray.mk #[]),.string (ByteArray.mk #[]),.string (ByteArray.mk #[]),.string (ByteArray.mk #[]),.string (ByteArray.mk #[]),.string (ByteArray.mk #[]),.string (ByteArray.mk #[]),.string (ByteArray.mk #[]),.string (ByteArray.mk #[]),.string (ByteArray.mk #[]),.string (ByteArray.mk #[]),.string (ByteArray.mk #[])] 254)->
 Wt w1 ⟨w0,0,none⟩ 16/\(∀w2,w2=bc w1 (bu w0) [.string (ByteArray.mk #[97,105,114]),.string (ByteArray.mk #[115,116,111,110,101]),.string (ByteArray.mk #[100,105,114,116]),.string (ByteArray.mk #[115,97,110,100]),.string (ByteArray.mk #[108,97,100,100,101,114]),.string (ByteArray.mk #[103,108,97,115,115]),.string (ByteArray.mk #[]),.string (ByteArray.mk #[]),.string (ByteArray.mk #[]),.string (ByteArray.mk #[]),.string (ByteArray.mk #[]),.string (ByteArray.mk #[]),.string (ByteArray.mk #[]),.string (ByteArray.mk #[]),.string (ByteArray.mk #[]),.string (ByteArray.mk #[])]->
 ∃I3:Nat->Int->World->Prop,
 (∃n4,I3 n4 (0) w2)/\
 ∀(n4:Nat)(us5:Nat->Value)(x6:Int)(w7:World),I3 n4 x6 w7->
 Br (x6<8)
 (ah 225 #[x6] w7 (λe w9=>∃(t10:ByteArray),e=Value.string t10/\
 ((((ByteArray.mk #[119,97,116,101,114])).size+(t10).size:Nat):Int)<=IntKind.i64.max/\(0:Int)<=(ai (8+x6))/\((ai (8+x6)):Int)<((16:Nat):Int)/\(true=true/\Wr w9 (ae (bu w0) (((ai (8+x6)):Int).toNat*1)) 1)/\(∀cB,cB=bc w9 (ae (bu w0) (((ai (8+x6)):Int).toNat*1)) [.string ((ByteArray.mk #[119,97,116,101,114])++t10)]->
 ∃n8,n8<n4/\I3 n8 ((ai (x6+1))) cB)))
 (∃(t12 t13 t14 t15 t16 t17 t18 t19 t20 t21 t22 t23 t24 t25 t26 t27:ByteArray),au w7 (bu w0) 0 [.string t12,.string t13,.string t14,.string t15,.string t16,.string t17,.string t18,.string t19,.string t20,.string t21,.string t22,.string t23,.string t24,.string t25,.string t26,.string t27]/\
 Wt w7 ⟨w,0,none⟩ 16/\(∀eN,eN=bc w7 w [.string t12,.string t13,.string t14,.string t15,.string t16,.string t17,.string t18,.string t19,.string t20,.string t21,.string t22,.string t23,.string t24,.string t25,.string t26,.string t27]->
 ∃(t29 t30 t31 t32 t33 t34 t35 t36 t37 t38 t39 t40 t41 t42 t43 t44:ByteArray),au eN w 0 [.string t29,.string t30,.string t31,.string t32,.string t33,.string t34,.string t35,.string t36,.string t37,.string t38,.string t39,.string t40,.string t41,.string t42,.string t43,.string t44]/\
 R (Value.agg #[.string t29,.string t30,.string t31,.string t32,.string t33,.string t34,.string t35,.string t36,.string t37,.string t38,.string t39,.string t40,.string t41,.string t42,.string t43,.string t44]) eN)))):ah 190 #[] w R:=
 cq ⟨[(3,⟨[(4,.int .i64)],[],[]⟩)],[],[]⟩ Tryz.func190 h
def R3.vc{a0:Sl}(h:
 ∃I0:Nat->Int->Int->World->Prop,
 (∃n1,I0 n1 (0) (0) w)/\
 ∀(n1:Nat)(oB:Nat->Value)(x3 x4:Int)(w5:World),I0 n1 x3 x4 w5->
 Br (decide (x3<((a0.n:Nat):Int)))
 (cA a0.a x3 a0.n/\∃(x7 x8:Int),au w5 (ae a0.a ((x3:Int).toNat*2)) 0 [x7,x8]/\
 Aw w5 #[af,af] 166 λw9=>
 Sw w9 w5 #[x7,x8] λbL=>
 ∃n6,n6<n1/\I0 n6 ((ai (x3+1))) ((ai (x4+x7))) bL)
 (R x4 w5)):ah 191 #[a0] w R:=
 cq ⟨[(3,⟨[(8,.int .i64),(3,.int .i64)],[],[]⟩)],[],[]⟩ Tryz.func191 h
def Oz.vc{a0:Sl}(h:
 ah 191 #[a0] w (λe w0=>∃(x1:Int),e=x1/\
 ah 105 #[a3] w0 (λe w2=>∃(b3:Bool),e=b3/\
 Br (!b3)
 (ah 162 #[a0] w2 (λe w4=>∃(s5:Sl),e=s5/\
 R s5 w4))
 (Br (decide (((if x1<(if 0>a1 then 0 else a1) then x1 else (if 0>a1 then 0 else a1)):Int)>=(if x1<(if 0>a2 then 0 else a2) then x1 else (if 0>a2 then 0 else a2))))
 (ah 162 #[a0] w2 (λe w6=>∃(s7:Sl),e=s7/\
 R s7 w6))
 (ah 227 #[a0,af,.int .i64 (if x1<(if 0>a1 then 0 else a1) then x1 else (if 0>a1 then 0 else a1))] w2 (λe w8=>∃(s9:Sl),e=s9/\
 ah 228 #[(ai ((if x1<(if 0>a2 then 0 else a2) then x1 else (if 0>a2 then 0 else a2))-(if x1<(if 0>a1 then 0 else a1) then x1 else (if 0>a1 then 0 else a1)))),a3] w8 (λe bL=>∃(eO:Sl),e=eO/\
 ah 227 #[a0,.int .i64 (if x1<(if 0>a2 then 0 else a2) then x1 else (if 0>a2 then 0 else a2)),x1] bL (λe bS=>∃(gl:Sl),e=gl/\
 Aw bS #[s9,eO,gl] 106 λbY=>
 ah 226 #[.slice (bu bS) 3 3] bY (λe cU=>∃(kH:Sl),e=kH/\
 R kH cU))))))))):ah 192 #[a0,a1,a2,a3] w R:=
 cq cc Tryz.func192 h
def KL.vc{a0:Sl}(h:
 ∃I0:Nat->Int->Int->World->Prop,
 (∃n1,I0 n1 (0) (1048576) w)/\
 ∀(n1:Nat)(oB:Nat->Value)(x3 x4:Int)(w5:World),I0 n1 x3 x4 w5->
 Br (decide (x3<((a0.n:Nat):Int)))
 (cA a0.a x3 a0.n/\∃(x7 x8:Int),au w5 (ae a0.a ((x3:Int).toNat*2)) 0 [x7,x8]/\
 Aw w5 #[af,af] 166 λw9=>
 Sw w9 w5 #[x7,x8] λbL=>
 Br (x7<1)
 (R (Value.tuple #[.slice none 0 0,(1:Int)]) bL)
 (Br (decide (((ai (x4-x7)):Int)<0))
 (R (Value.tuple #[.slice none 0 0,(1:Int)]) bL)
 (∃n6,n6<n1/\I0 n6 ((ai (x3+1))) ((ai (x4-x7))) bL)))
 (ah 191 #[a0] w5 (λe cB=>∃(bU:Int),e=bU/\
 ah 161 #[a0,bU] cB (λe cC=>∃(b14:Bool),e=b14/\
 Br (!b14)
 (R (Value.tuple #[.slice none 0 0,(1:Int)]) cC)
 (∃I15:Nat->Int->Sl->World->Prop,
 (∃VB,I15 VB (0) ⟨none,0,0⟩ cC)/\
 ∀(VB:Nat)(apm:Nat->Value)(cf:Int)(pg:Sl)(dY:World),I15 VB cf pg dY->
 Br (decide (cf<((a0.n:Nat):Int)))
 (cA a0.a cf a0.n/\∃(eK dc:Int),au dY (ae a0.a ((cf:Int).toNat*2)) 0 [eK,dc]/\
 Aw dY #[af,af] 166 λfy=>
 Sw fy dY #[eK,dc] λeh=>
 Aw eh.drew #[.int .u8 (mg dc)] 5 λhZ=>
 aF 1 1 hZ pg 1 [.int .u8 (mg dc)]/\∀(lW:Sl)(eN:World),aE 5 1 hZ pg 1 [.int .u8 (mg dc)] lW eN->eN.heap[dY.heap.size]? =hZ.heap[dY.heap.size]?/\eN.heap[eh.drew.heap.size]? =hZ.heap[eh.drew.heap.size]?/\
 au eN dY 0 [eK]/\au eN (lX dY 1) 0 [dc]/\ah 234 #[eK] eN (Rs λg7 fP=>fP.heap[dY.heap.size]? =eN.heap[dY.heap.size]?/\fP.heap[eh.drew.heap.size]? =eN.heap[eh.drew.heap.size]?/\
 au fP (lX dY 1) 0 [dc]/\∃l31:LV,Rd fP g7.a l31/\aF 1 1 fP lW g7.n l31/\∀(iW:Sl)(lz:World),aE 5 1 fP lW g7.n l31 iW lz->lz.heap[dY.heap.size]? =fP.heap[dY.heap.size]?/\lz.heap[eh.drew.heap.size]? =fP.heap[eh.drew.heap.size]?/\
 au lz (lX dY 1) 0 [dc]/\∃Bp,Bp<VB/\I15 Bp ((ai (cf+1))) iW lz))
 (R (Value.tuple #[pg,af]) dY)))))):ah 196 #[a0] w R:=
 cq ⟨[(13,⟨[(35,.int .i64),(7,.slice)],[],[]⟩),(3,⟨[(12,.int .i64),(4,.int .i64)],[],[]⟩)],[],[]⟩ Tryz.func196 h
def Ex.vc(h:
 Br (a0<0)
 (bk (NW a1) (R (Value.int .i64 (Int.tmod (ai (0-(ai (a0+1)))) a1)) w))
 (bk (NW a1) (R (Value.int .i64 (Int.tmod a0 a1)) w))):ah 19 #[a0,a1] w R:=
 cq cc Tryz.func19 h
def B6.vc{a0:Addr}(h:
 ∃(m0:Option Nat),ld w (ae (some a0) 3)=some (.map m0)/\
 ah 236 #[.map m0] w (λe w1=>∃(m2:Option Nat),e=Value.map m2/\
 ∃(s3:Sl),ld w1 (ae (some a0) 4)=some (.slice s3.a s3.n s3.c)/\
 ∃I4:Nat->Int->World->Prop,
 (∃n5,I4 n5 (0) w1)/\
 ∀(n5:Nat)(us6:Nat->Value)(x7:Int)(w8:World),I4 n5 x7 w8->
 Br (decide (x7<((s3.n:Nat):Int)))
 (cA s3.a x7 s3.n/\∃(bq:Int)(eO:Sl),au w8 (ae s3.a ((x7:Int).toNat*2)) 0 [bq,eO]/\
 Aw w8 #[af,.slice none 0 0] 289 λbS=>
 Sw bS w8 #[bq,eO] λcC=>
 ∃(G14:Value->Prop)(kvs15:List (Value × Value)),gQ Tryz.prog 3 G14/\(m2:Option Nat).isSome=true/\bN G14 cC m2 kvs15/\G14 bq/\∀cY:World,Rec ((m2:Option Nat).getD 0) cC cY->bN G14 cY m2 (rX kvs15 bq eO)->
 ∃n9,n9<n5/\I4 n9 ((ai (x7+1))) cY)
 (R (Value.map m2) w8))):ah 202 #[a0] w R:=
 cq ⟨[(3,⟨[(16,.int .i64)],[],[]⟩)],[],[]⟩ Tryz.func202 h
def tp.vc{a0:Sl}(h:
 Br (a0.a).isNone
 (R (Value.slice none 0 0) w)
 (Aw w #[] 5 λw0=>
 ∃l1:LV,Rd w0 a0.a l1/\aF 1 1 w0 ⟨(bu w),0,0⟩ a0.n l1/\∀(s2:Sl)(w3:World),aE 5 1 w0 ⟨(bu w),0,0⟩ a0.n l1 s2 w3->Kp w w0 w3/\
 R s2 w3)):ah 203 #[a0] w R:=
 cq cc Tryz.func203 h
def Rh.vc{a0:Sl}(h:
 Br (decide ((((a0.n:Nat):Int):Int)<2))
 (R (Value.tuple #[.slice none 0 0,(3:Int)]) w)
 (ah 237 #[a0] w (λe w0=>∃(b1:Bool),e=b1/\
 Br (!b1)
 (R (Value.tuple #[.slice none 0 0,(4:Int)]) w0)
 ((0:Int)<=(ai (((a0.n:Nat):Int)-2))/\(ai (((a0.n:Nat):Int)-2))<=((a0.c:Nat):Int)/\ah 203 #[.slice (aA a0.a (0) (a0.c) 1) (((ai (((a0.n:Nat):Int)-2)):Int).toNat-0) (a0.c-0)] w0 (λe w2=>∃(s3:Sl),e=s3/\
 R (Value.tuple #[s3,af]) w2))))):ah 204 #[a0] w R:=
 cq cc Tryz.func204 h
def Hk.vc{a0:Value}{c0:Addr}{c1:Addr}(h:
 Aw w #[.int .i64 0,.int .i64 0,.int .i64 0,.int .i64 0,.int .i64 0,.int .i64 0,.int .i64 0,.int .i64 0,.int .i64 0,.int .i64 0,.int .i64 0,.int .i64 0,.int .i64 0,.int .i64 0,.int .i64 0,.int .i64 0,.int .i64 0,.int .i64 0,.int .i64 0,.int .i64 0,.int .i64 0,.int .i64 0,.int .i64 0,.int .i64 0,.int .i64 0,.int .i64 0,.int .i64 0,.int .i64 0,.int .i64 0,.int .i64 0,.int .i64 0,.int .i64 0,.int .i64 0,.int .i64 0,.int .i64 0,.int .i64 0,.int .i64 0,.int .i64 0,.int .i64 0,.int .i64 0,.int .i64 0,.int .i64 0,.int .i64 0,.int .i64 0,.int .i64 0,.int .i64 0,.int .i64 0,.int .i64 0,.int .i64 0,.int .i64 0,.int .i64 0,.int .i64 0,.int .i64 0,.int .i64 0,.int .i64 0,.int .i64 0,.int .i64 0,.int .i64 0,.int .i64 0,.int .i64 0,.int .i64 0,.int .i64 0,.int .i64 0,.int .i64 0,.int .i64 0,.int .i64 0,.int .i64 0,.int .i64 0,.int .i64 0,.int .i64 0,.int .i64 0,.int .i64 0,.int .i64 0,.int .i64 0,.int .i64 0,.int .i64 0,.int .i64 0,.int .i64 0,.int .i64 0,.int .i64 0,.int .i64 0,.int .i64 0,.int .i64 0,.int .i64 0,.int .i64 0,.int .i64 0,.int .i64 0,.int .i64 0,.int .i64 0,.int .i64 0,.int .i64 0,.int .i64 0,.int .i64 0,.int .i64 0,.int .i64 0,.int .i64 0,.int .i64 0,.int .i64 0,.int .i64 0,.int .i64 0,.int .i64 0,.int .i64 0,.int .i64 0,.int .i64 0,.int .i64 0,.int .i64 0,.int .i64 0,.int .i64 0,.int .i64 0,.int .i64 0,.int .i64 0,.int .i64 0,.int .i64 0,.int .i64 0,.int .i64 0,.int .i64 0,.int .i64 0,.int .i64 0,.int .i64 0,.int .i64 0,.int .i64 0,.int .i64 0,.int .i64 0,.int .i64 0,.int .i64 0,.int .i64 0,.int .i64 0,.int .i64 0,.int .i64 0,.int .i64 0,.int .i64 0,.int .i64 0,.int .i64 0,.int .i64 0,.int .i64 0,.int .i64 0,.int .i64 0,.int .i64 0,.int .i64 0,.int .i64 0,.int .i64 0,.int .i64 0,.int .i64 0,.int .i64 0,.int .i64 0,.int .i64 0,.int .i64 0,.int .i64 0,.int .i64 0,.int .i64 0,.int .i64 0,.int .i64 0,.int .i64 0,.int .i64 0,.int .i64 0,.int .i64 0,.int .i64 0,.int .i64 0,.int .i64 0,.int .i64 0,.int .i64 0,.int .i64 0,.int .i64 0,.int .i64 0,.int .i64 0,.int .i64 0,.int .i64 0,.int .i64 0,.int .i64 0,.int .i64 0,.int .i64 0,.int .i64 0,.int .i64 0,.int .i64 0,.int .i64 0,.int .i64 0,.int .i64 0,.int .i64 0,.int .i64 0,.int .i64 0,.int .i64 0,.int .i64 0,.int .i64 0,.int .i64 0,.int .i64 0,.int .i64 0,.int .i64 0,.int .i64 0,.int .i64 0,.int .i64 0,.int .i64 0,.int .i64 0,.int .i64 0,.int .i64 0,.int .i64 0,.int .i64 0,.int .i64 0,.int .i64 0,.int .i64 0,.int .i64 0,.int .i64 0,.int .i64 0,.int .i64 0,.int .i64 0,.int .i64 0,.int .i64 0,.int .i64 0,.int .i64 0,.int .i64 0,.int .i64 0,.int .i64 0,.int .i64 0,.int .i64 0,.int .i64 0,.int .i64 0,.int .i64 0,.int .i64 0,.int .i64 0,.int .i64 0,.int .i64 0,.int .i64 0,.int .i64 0,.int .i64 0,.int .i64 0,.int .i64 0,.int .i64 0,.int .i64 0,.int .i64 0,.int .i64 0,.int .i64 0,.int .i64 0,.int .i64 0,.int .i64 0,.int .i64 0,.int .i64 0,.int .i64 0,.int .i64 0,.int .i64 0,.int .i64 0,.int .i64 0,.int .i64 0,.int .i64 0,.int .i64 0,.int .i64 0,.int .i64 0,.int .i64 0,.int .i64 0,.int .i64 0,.int .i64 0,.int .i64 0,.int .i64 0,.int .i64 0,.int .i64 0,.int .i64 0,.int .i64 0,.int .i64 0] 267 λw0=>
 ∃I1:Nat->Int->World->Prop,
 (∃n2,I1 n2 (0) w0)/\
 ∀(n2:Nat)(Xf:Nat->Value)(x4:Int)(w5:World),I1 n2 x4 w5->
 Br (x4<256)
 (∃(x7 x8:Int),au w5 (some c0) 0 [x7,x8]/\
 ah 207 #[.agg #[x7,x8],x4] w5 (λe w9=>∃(bq bR bU:Int)(b13:Bool),e=Value.tuple #[.agg #[bq,bR,bU],b13]/\
 Aw w9 #[af,af,af] 23 λbY=>
 Sw bY w9 #[bq,bR,bU] λcU=>
 ∃(cQ:Int),ld cU (some c1)=some (.int .i64 cQ)/\
 ah 208 #[cQ,bq,bU] cU (Ri λcf cE=>Kp w9 cU cE/\
 (0:Int)<=x4/\x4<((256:Nat):Int)/\(true=true/\Wr cE (ae (bu w) ((x4:Int).toNat*1)) 1)/\cS (ae (bu w) ((x4:Int).toNat*1))≠some w9.heap.size/\(∀ft,ft=bc cE (ae (bu w) ((x4:Int).toNat*1)) [cf]->
 ∃n6,n6<n2/\I1 n6 ((ai (x4+1))) ft))))
 (∃NK:Nat->Int->World->Prop,
 (∃Bp,NK Bp (0) w5)/\
 ∀(Bp:Nat)(aeg:Nat->Value)(dc:Int)(fy:World),NK Bp dc fy->
 Br (dc<8192)
 ((0:Int)<=(Int.tmod dc 256)/\((Int.tmod dc 256):Int)<((256:Nat):Int)/\∃(dZ:Int),ld fy (ae (bu w) (((Int.tmod dc 256):Int).toNat*1))=some (.int .i64 dZ)/\
 ah 209 #[(ai (Int.tdiv dc 256)),dZ] fy (λe jf=>∃(eS:Int),e=eS/\
 dJ Tryz.prog a0 [eS] jf (λe fP=>∃(b30:Bool),e=b30/\
 Br (!b30)
 (R FX fP)
 (∃n25,n25<Bp/\NK n25 ((ai (dc+1))) fP))))
 (R FX fy))):ah 206 #[a0,c0,c1] w R:=
 cq ⟨[(8,⟨[(27,.int .i64)],[],[]⟩),(2,⟨[(9,.int .i64)],[],[]⟩)],[],[]⟩ Tryz.func206 h
def N9.vc(h:
 Aw w #[aq,ar] 89 λw0=>
 Aw w0 #[af,af,af] 23 λw1=>
 Br (a1<0)
 (Sw w1 w0 #[af,af,af] λw2=>
 R (Value.tuple #[.agg #[af,af,af],false]) w2)
 (Br (a1>=8192)
 (Sw w1 w0 #[af,af,af] λw3=>
 R (Value.tuple #[.agg #[af,af,af],false]) w3)
 (Sw w1 w0 #[(ai ((ai (aq*16))+(Int.tmod a1 16))),(ai (Int.tdiv a1 256)),(ai ((ai (ar*16))+(Int.tmod (ai (Int.tdiv a1 16)) 16)))] λw4=>
 R (Value.tuple #[.agg #[(ai ((ai (aq*16))+(Int.tmod a1 16))),(ai (Int.tdiv a1 256)),(ai ((ai (ar*16))+(Int.tmod (ai (Int.tdiv a1 16)) 16)))],true]) w4))):ah 207 #[.agg #[aq,ar],a1] w R:=
 cq cc Tryz.func207 h
def KD.vc(h:
 Aw w #[a0] 3 λw0=>
 ah 128 #[a1,(8:Int)] w0 (Ri λx2 w1=>Kp w w0 w1/\
 ah 128 #[a2,(8:Int)] w1 (Ri λx4 w3=>Kp w w1 w3/\
 ah 148 #[a1,(8:Int)] w3 (Ri λx6 w5=>Kp w w3 w5/\
 ah 148 #[a2,(8:Int)] w5 (Ri λx8 w7=>Kp w w5 w7/\
 ah 238 #[x2,x4,(ai ((ai (8-x6))*(ai (8-x8)))),w] w7 (λe w9=>∃(bq:Int),e=bq/\
 ah 238 #[(ai (x2+1)),x4,(ai (x6*(ai (8-x8)))),w] w9 (λe cB=>∃(bU:Int),e=bU/\
 ah 238 #[x2,(ai (x4+1)),(ai ((ai (8-x6))*x8)),w] cB (λe cC=>∃(bW:Int),e=bW/\
 ah 238 #[(ai (x2+1)),(ai (x4+1)),(ai (x6*x8)),w] cC (λe cU=>∃(cQ:Int),e=cQ/\
 R ((ai (6+(ai (Int.tdiv (ai ((ai ((ai (bq+bU))+bW))+cQ)) 64))))) cU))))))))):ah 208 #[a0,a1,a2] w R:=
 cq cc Tryz.func208 h
def ZU.vc(h:
 Br (a0<0)
 (R (0:Int) w)
 (Br (a0>=32)
 (R (0:Int) w)
 (Br (a0==0)
 (R (1:Int) w)
 (Br (decide (a0<(ai (a1-3))))
 (R (1:Int) w)
 (Br (decide (a0<(ai (a1-1))))
 (R (2:Int) w)
 (Br (a0==(ai (a1-1)))
 (Br (a1>9)
 (R (2:Int) w)
 (Br (a0==(ai (a1-1)))
 (R (3:Int) w)
 (Br (a0<9)
 (R (8:Int) w)
 (R (0:Int) w))))
 (Br (a0==(ai (a1-1)))
 (R (3:Int) w)
 (Br (a0<9)
 (R (8:Int) w)
 (R (0:Int) w))))))))):ah 209 #[a0,a1] w R:=
 cq cc Tryz.func209 h
def OA.vc{a0:Sl}(h:
 Aw w #[ao,ak] 166 λw0=>
 Br (ao<1)
 (R a0 w0)
 (Br (decide (((ai (((a0.n:Nat):Int)-1)):Int)>=0))
 (cA a0.a (ai (((a0.n:Nat):Int)-1)) a0.n/\bk (eV (ae a0.a (((ai (((a0.n:Nat):Int)-1)):Int).toNat*2))) (∃(x1:Int),ld w0.drew (ae (ae a0.a (((ai (((a0.n:Nat):Int)-1)):Int).toNat*2)) 1)=some (.int .i64 x1)/\
 Br (x1==ak)
 (cA a0.a (ai (((a0.n:Nat):Int)-1)) a0.n/\bk (eV (ae a0.a (((ai (((a0.n:Nat):Int)-1)):Int).toNat*2))) (∃(x2:Int),ld w0.drew.drew (ae (ae a0.a (((ai (((a0.n:Nat):Int)-1)):Int).toNat*2)) 0)=some (.int .i64 x2)/\
 cA a0.a (ai (((a0.n:Nat):Int)-1)) a0.n/\bk (eV (ae a0.a (((ai (((a0.n:Nat):Int)-1)):Int).toNat*2))) ((((ae (ae a0.a (((ai (((a0.n:Nat):Int)-1)):Int).toNat*2)) 0)).isSome=true/\Wr w0.drew.drew (ae (ae a0.a (((ai (((a0.n:Nat):Int)-1)):Int).toNat*2)) 0) 1)/\cS (ae (ae a0.a (((ai (((a0.n:Nat):Int)-1)):Int).toNat*2)) 0)≠some w.heap.size/\(∀w3,w3=bc w0.drew.drew (ae (ae a0.a (((ai (((a0.n:Nat):Int)-1)):Int).toNat*2)) 0) [(ai (x2+ao))]->
 R a0 w3))))
 (Aw w0.drew #[ao,ak] 166 λw4=>
 aF 16 2 w4 a0 1 [ao,ak]/\∀(s5:Sl)(w6:World),aE 166 2 w4 a0 1 [ao,ak] s5 w6->Kp w w4 w6/\w6.heap[w0.drew.heap.size]? =w4.heap[w0.drew.heap.size]?/\
 R s5 w6)))
 (Aw w0.drew #[ao,ak] 166 λw7=>
 aF 16 2 w7 a0 1 [ao,ak]/\∀(s8:Sl)(w9:World),aE 166 2 w7 a0 1 [ao,ak] s8 w9->Kp w w7 w9/\w9.heap[w0.drew.heap.size]? =w7.heap[w0.drew.heap.size]?/\
 R s8 w9))):ah 210 #[a0,.agg #[ao,ak]] w R:=
 cq cc Tryz.func210 h
def Eo.vc(h:
 ∃I0:Nat->Int->Int->World->Prop,
 (∃n1,I0 n1 (0) (0) w)/\
 ∀(n1:Nat)(oB:Nat->Value)(x3 x4:Int)(w5:World),I0 n1 x3 x4 w5->
 Br (x3<2)
 (∃I7:Nat->Int->Int->World->Prop,
 (∃n8,I7 n8 (0) x4 w5)/\
 ∀(n8:Nat)(us9:Nat->Value)(bq bR:Int)(bS:World),I7 n8 bq bR bS->
 Br (bq<2)
 (ah 44 #[a1,(8:Int)] bS (λe bY=>∃(bw:Int),e=bw/\
 ah 44 #[a2,(8:Int)] bY (λe cY=>∃(cR:Int),e=cR/\
 Br (x3==0)
 (Br (bq==0)
 (ah 96 #[a1,(8:Int)] cY (λe dA=>∃(cK:Int),e=cK/\
 ah 96 #[a2,(8:Int)] dA (λe dY=>∃(fT:Int),e=fT/\
 ah 241 #[a0,(ai (cK+x3)),(ai (fT+bq))] dY (λe ct=>∃(dc:Int),e=Value.int .u64 dc/\
 ∃ve,ve<n8/\I7 ve ((ai (bq+1))) ((ai (bR+(ai ((ai ((ai (8-bw))*(ai (8-cR))))*(ai (Int.tmod dc 9))))))) ct))))
 (ah 96 #[a1,(8:Int)] cY (λe fy=>∃(da:Int),e=da/\
 ah 96 #[a2,(8:Int)] fy (λe hZ=>∃(dp:Int),e=dp/\
 ah 241 #[a0,(ai (da+x3)),(ai (dp+bq))] hZ (λe eN=>∃(iO:Int),e=Value.int .u64 iO/\
 ∃ve,ve<n8/\I7 ve ((ai (bq+1))) ((ai (bR+(ai ((ai ((ai (8-bw))*cR))*(ai (Int.tmod iO 9))))))) eN)))))
 (Br (bq==0)
 (ah 96 #[a1,(8:Int)] cY (λe ia=>∃(iN:Int),e=iN/\
 ah 96 #[a2,(8:Int)] ia (λe y8=>∃(gx:Int),e=gx/\
 ah 241 #[a0,(ai (iN+x3)),(ai (gx+bq))] y8 (λe ly=>∃(jy:Int),e=Value.int .u64 jy/\
 ∃ve,ve<n8/\I7 ve ((ai (bq+1))) ((ai (bR+(ai ((ai (bw*(ai (8-cR))))*(ai (Int.tmod jy 9))))))) ly))))
 (ah 96 #[a1,(8:Int)] cY (λe nC=>∃(gk:Int),e=gk/\
 ah 96 #[a2,(8:Int)] nC (λe qP=>∃(kB:Int),e=kB/\
 ah 241 #[a0,(ai (gk+x3)),(ai (kB+bq))] qP (λe iV=>∃(jC:Int),e=Value.int .u64 jC/\
 ∃ve,ve<n8/\I7 ve ((ai (bq+1))) ((ai (bR+(ai ((ai (bw*cR))*(ai (Int.tmod jC 9))))))) iV))))))))
 (∃n6,n6<n1/\I0 n6 ((ai (x3+1))) bR bS))
 (R ((ai (6+(ai (Int.tdiv x4 64))))) w5)):ah 219 #[a0,a1,a2] w R:=
 cq ⟨[(6,⟨[(9,.int .i64),(7,.int .i64)],[],[]⟩),(3,⟨[(8,.int .i64),(7,.int .i64)],[],[]⟩)],[],[]⟩ Tryz.func219 h
def GU.vc{a0:Sl}(h:
 ∃I0:Nat->Int->Sl->World->Prop,
 (∃n1,I0 n1 (0) ⟨none,0,0⟩ w)/\
 ∀(n1:Nat)(oB:Nat->Value)(x3:Int)(s4:Sl)(w5:World),I0 n1 x3 s4 w5->
 Br (decide (x3<((a0.n:Nat):Int)))
 (∃I7:Nat->Int->Sl->World->Prop,
 (∃n8,I7 n8 (0) s4 w5)/\
 ∀(n8:Nat)(us9:Nat->Value)(bq:Int)(eO:Sl)(bS:World),I7 n8 bq eO bS->
 cA a0.a x3 a0.n/\bk (eV (ae a0.a ((x3:Int).toNat*2))) (∃(bW:Int),ld bS (ae (ae a0.a ((x3:Int).toNat*2)) 0)=some (.int .i64 bW)/\
 Br (bq<bW)
 (cA a0.a x3 a0.n/\bk (eV (ae a0.a ((x3:Int).toNat*2))) (∃(bw:Int),ld bS (ae (ae a0.a ((x3:Int).toNat*2)) 1)=some (.int .i64 bw)/\
 Aw bS #[bw] 3 λcY=>
 aF 8 1 cY eO 1 [bw]/\∀(gF:Sl)(dA:World),aE 3 1 cY eO 1 [bw] gF dA->Kp bS cY dA/\
 ∃ve,ve<n8/\I7 ve ((ai (bq+1))) gF dA))
 (∃n6,n6<n1/\I0 n6 ((ai (x3+1))) eO bS)))
 (R s4 w5)):ah 224 #[a0] w R:=
 cq ⟨[(6,⟨[(5,.int .i64),(3,.slice)],[],[]⟩),(3,⟨[(4,.int .i64),(3,.slice)],[],[]⟩)],[],[]⟩ Tryz.func224 h
def Ey.vc(h:
 ah 243 #[a0] w (λe w0=>∃(t1:ByteArray),e=Value.string t1/\
 R (Value.string t1) w0)):ah 225 #[a0] w R:=
 cq cc Tryz.func225 h
def OB.vc{a0:Sl}(h:
 ∃I0:Nat->Int->Sl->World->Prop,
 (∃n1,I0 n1 (0) ⟨none,0,0⟩ w)/\
 ∀(n1:Nat)(oB:Nat->Value)(x3:Int)(s4:Sl)(w5:World),I0 n1 x3 s4 w5->
 Br (decide (x3<((a0.n:Nat):Int)))
 (cA a0.a x3 a0.n/\∃(s7:Sl),ld w5 (ae a0.a ((x3:Int).toNat*1))=some (.slice s7.a s7.n s7.c)/\
 ∃I8:Nat->Int->Sl->World->Prop,
 (∃n9,I8 n9 (0) s4 w5)/\
 ∀(n9:Nat)(Xm:Nat->Value)(bR:Int)(eM:Sl)(cC:World),I8 n9 bR eM cC->
 Br (decide (bR<((s7.n:Nat):Int)))
 (cA s7.a bR s7.n/\∃(bw cQ:Int),au cC (ae s7.a ((bR:Int).toNat*2)) 0 [bw,cQ]/\
 Aw cC #[af,af] 166 λcE=>
 Sw cE cC #[bw,cQ] λdA=>
 ah 210 #[eM,.agg #[bw,cQ]] dA (Rs λsM ft=>Kp cC dA ft/\
 ∃NL,NL<n9/\I8 NL ((ai (bR+1))) sM ft))
 (∃n6,n6<n1/\I0 n6 ((ai (x3+1))) eM cC))
 (R s4 w5)):ah 226 #[a0] w R:=
 cq ⟨[(6,⟨[(16,.int .i64),(3,.slice)],[],[]⟩),(3,⟨[(10,.int .i64),(3,.slice)],[],[]⟩)],[],[]⟩ Tryz.func226 h
def R4.vc{a0:Sl}(h:
 ∃I0:Nat->Int->Int->Sl->World->Prop,
 (∃n1,I0 n1 (0) (0) ⟨none,0,0⟩ w)/\
 ∀(n1:Nat)(oB:Nat->Value)(x3 x4:Int)(s5:Sl)(w6:World),I0 n1 x3 x4 s5 w6->
 Br (decide (x3<((a0.n:Nat):Int)))
 (cA a0.a x3 a0.n/\∃(x8 x9:Int),au w6 (ae a0.a ((x3:Int).toNat*2)) 0 [x8,x9]/\
 Aw w6 #[af,af] 166 λbL=>
 Sw bL w6 #[x8,x9] λcB=>
 Br (decide (((if (ai (x4+x8))<a2 then (ai (x4+x8)) else a2):Int)>(if x4>a1 then x4 else a1)))
 (ah 210 #[s5,.agg #[(ai ((if (ai (x4+x8))<a2 then (ai (x4+x8)) else a2)-(if x4>a1 then x4 else a1))),x9]] cB.drew (Rs λgl bS=>Kp w6 cB.drew bS/\
 ∃n7,n7<n1/\I0 n7 ((ai (x3+1))) ((ai (x4+x8))) gl bS))
 (∃n7,n7<n1/\I0 n7 ((ai (x3+1))) ((ai (x4+x8))) s5 cB.drew))
 (R s5 w6)):ah 227 #[a0,a1,a2] w R:=
 cq ⟨[(4,⟨[(15,.int .i64),(8,.int .i64),(7,.slice)],[],[]⟩)],[],[]⟩ Tryz.func227 h
def OC.vc(h:
 ah 210 #[.slice none 0 0,.agg #[a0,a1]] w (λe w0=>∃(s1:Sl),e=s1/\
 R s1 w0)):ah 228 #[a0,a1] w R:=
 cq cc Tryz.func228 h
def Hl.vc(h:
 Br (a0<0)
 (R (Value.slice none 0 0) w)
 (Br (a0>1048576)
 (R (Value.slice none 0 0) w)
 (∃I0:Nat->Int->Sl->World->Prop,
 (∃n1,I0 n1 a0 ⟨none,0,0⟩ w)/\
 ∀(n1:Nat)(oB:Nat->Value)(x3:Int)(s4:Sl)(w5:World),I0 n1 x3 s4 w5->
 Br (x3>=128)
 (Aw w5 #[.int .u8 (Gk .u8 (mg x3) 128)] 5 λw7=>
 aF 1 1 w7 s4 1 [.int .u8 (Gk .u8 (mg x3) 128)]/\∀(s8:Sl)(w9:World),aE 5 1 w7 s4 1 [.int .u8 (Gk .u8 (mg x3) 128)] s8 w9->Kp w5 w7 w9/\
 ∃n6,n6<n1/\I0 n6 (((x3:Int).fdiv (2 ^(min (7:Int).toNat 64)))) s8 w9)
 (Aw w5 #[.int .u8 (mg x3)] 5 λbL=>
 aF 1 1 bL s4 1 [.int .u8 (mg x3)]/\∀(eO:Sl)(bS:World),aE 5 1 bL s4 1 [.int .u8 (mg x3)] eO bS->Kp w5 bL bS/\
 R eO bS)))):ah 234 #[a0] w R:=
 cq ⟨[(4,⟨[(0,.int .i64),(3,.slice)],[],[]⟩)],[],[]⟩ Tryz.func234 h
def R5.vc{aq:Sl}(h:
 Aw w #[aq,ar] 214 λw0=>
 Aw w0 #[ao,ak,aw] 23 λw1=>
 Br (ak<0)
 (R (1:Int) w1)
 (Br (ao>=0)
 (Br (ao<6)
 (Br (ak<6)
 (Br (aw>=0)
 (Br (aw<6)
 (Br (decide (((ai ((ai ((ai ((ai (ak*6))+aw))*6))+ao)):Int)<((aq.n:Nat):Int)))
 (cA aq.a (ai ((ai ((ai ((ai (ak*6))+aw))*6))+ao)) aq.n/\∃(x2:Int),ld w1 (ae aq.a (((ai ((ai ((ai ((ai (ak*6))+aw))*6))+ao)):Int).toNat*1))=some (.int .i64 x2)/\
 R x2 w1)
 (R (0:Int) w1))
 (R ar w1))
 (R ar w1))
 (R ar w1))
 (R ar w1))
 (R ar w1))):ah 235 #[.agg #[aq,ar],.agg #[ao,ak,aw]] w R:=
 cq cc Tryz.func235 h
def xO.vc{a0:Option Nat}(h:
 Br (a0).isNone
 (R (Value.map none) w)
 (R6 Tryz.prog 247 [.iface 259 (.map a0)] w (λe w0=>∃(v1:Value),e=v1/\
 ∃(m2:Option Nat),(v1:Value)=.iface 259 (.map m2)/\
 R (Value.map m2) w0))):ah 236 #[.map a0] w R:=
 cq cc Tryz.func236 h
def Ek.vc{c0:Addr}(h:
 ∃(x0:Int),ld w (some c0)=some (.int .i64 x0)/\
 ah 239 #[x0,a0,a1] w (λe w1=>∃(x2:Int),e=Value.int .u64 x2/\
 R ((ai ((ai (Int.tmod x2 9))*a2))) w1)):ah 238 #[a0,a1,a2,c0] w R:=
 cq cc Tryz.func238 h
def Rz.vc(h:
 R (Value.int .u64 (gI .u64 (bD ((gI .u64 (bD ((bD ((bD ((bD a0)*11400714819323198485))+(bD ((bD a1)*14029467366897019727))))+(bD ((bD a2)*1609587929392839161)))) (((bD ((bD ((bD ((bD a0)*11400714819323198485))+(bD ((bD a1)*14029467366897019727))))+(bD ((bD a2)*1609587929392839161)))):Int).fdiv (2 ^(min (29:Int).toNat 64))))*13787848793156543929)) (((bD ((gI .u64 (bD ((bD ((bD ((bD a0)*11400714819323198485))+(bD ((bD a1)*14029467366897019727))))+(bD ((bD a2)*1609587929392839161)))) (((bD ((bD ((bD ((bD a0)*11400714819323198485))+(bD ((bD a1)*14029467366897019727))))+(bD ((bD a2)*1609587929392839161)))):Int).fdiv (2 ^(min (29:Int).toNat 64))))*13787848793156543929)):Int).fdiv (2 ^(min (32:Int).toNat 64))))) w):ah 239 #[a0,a1,a2] w R:=
 cq cc Tryz.func239 h
def KC.vc(h:
 R (Value.int .u64 (gI .u64 (bD ((gI .u64 (bD ((bD ((bD ((bD a0)*11400714819323198485))+(bD ((bD a1)*14029467366897019727))))+(bD ((bD a2)*1609587929392839161)))) (bD (Int.tdiv (bD ((bD ((bD ((bD a0)*11400714819323198485))+(bD ((bD a1)*14029467366897019727))))+(bD ((bD a2)*1609587929392839161)))) 536870912)))*13787848793156543929)) (bD (Int.tdiv (bD ((gI .u64 (bD ((bD ((bD ((bD a0)*11400714819323198485))+(bD ((bD a1)*14029467366897019727))))+(bD ((bD a2)*1609587929392839161)))) (bD (Int.tdiv (bD ((bD ((bD ((bD a0)*11400714819323198485))+(bD ((bD a1)*14029467366897019727))))+(bD ((bD a2)*1609587929392839161)))) 536870912)))*13787848793156543929)) 4294967296)))) w):ah 241 #[a0,a1,a2] w R:=
 cq cc Tryz.func241 h
def pa.vc(h:
 ah 250 #[a0,(10:Int)] w (λe w0=>∃(t1:ByteArray),e=Value.string t1/\
 R (Value.string t1) w0)):ah 243 #[a0] w R:=
 cq cc Tryz.func243 h
def vA.vc{a0:Addr}(h:
 ∃(s0:Sl),ld w (ae (some a0) 1)=some (.slice s0.a s0.n s0.c)/\
 (true=true/\Wr w (ae (some a0) 1) 1)/\(∀w1,w1=bc w (ae (some a0) 1) [.slice none 0 0]->
 R s0 w1)):ah 24 #[a0] w R:=
 cq cc Tryz.func24 h
def nU.vc(h:
 Br (a0<10)
 ((0:Int)<=(ai (a0+1))/\(ai (a0+1))<=((((ByteArray.mk #[48,49,50,51,52,53,54,55,56,57,97,98,99,100,101,102,103,104,105,106,107,108,109,110,111,112,113,114,115,116,117,118,119,120,121,122])).size:Nat):Int)/\(0:Int)<=a0/\a0<=(ai (a0+1))/\R (Value.string (((ByteArray.mk #[48,49,50,51,52,53,54,55,56,57,97,98,99,100,101,102,103,104,105,106,107,108,109,110,111,112,113,114,115,116,117,118,119,120,121,122])).extract ((a0:Int).toNat) (((ai (a0+1)):Int).toNat))) w)
 ((0:Int)<=(ai ((ai (a0*2))+2))/\(ai ((ai (a0*2))+2))<=((((ByteArray.mk #[48,48,48,49,48,50,48,51,48,52,48,53,48,54,48,55,48,56,48,57,49,48,49,49,49,50,49,51,49,52,49,53,49,54,49,55,49,56,49,57,50,48,50,49,50,50,50,51,50,52,50,53,50,54,50,55,50,56,50,57,51,48,51,49,51,50,51,51,51,52,51,53,51,54,51,55,51,56,51,57,52,48,52,49,52,50,52,51,52,52,52,53,52,54,52,55,52,56,52,57,53,48,53,49,53,50,53,51,53,52,53,53,53,54,53,55,53,56,53,57,54,48,54,49,54,50,54,51,54,52,54,53,54,54,54,55,54,56,54,57,55,48,55,49,55,50,55,51,55,52,55,53,55,54,55,55,55,56,55,57,56,48,56,49,56,50,56,51,56,52,56,53,56,54,56,55,56,56,56,57,57,48,57,49,57,50,57,51,57,52,57,53,57,54,57,55,57,56,57,57])).size:Nat):Int)/\(0:Int)<=(ai (a0*2))/\((ai (a0*2)):Int)<=(ai ((ai (a0*2))+2))/\R (Value.string (((ByteArray.mk #[48,48,48,49,48,50,48,51,48,52,48,53,48,54,48,55,48,56,48,57,49,48,49,49,49,50,49,51,49,52,49,53,49,54,49,55,49,56,49,57,50,48,50,49,50,50,50,51,50,52,50,53,50,54,50,55,50,56,50,57,51,48,51,49,51,50,51,51,51,52,51,53,51,54,51,55,51,56,51,57,52,48,52,49,52,50,52,51,52,52,52,53,52,54,52,55,52,56,52,57,53,48,53,49,53,50,53,51,53,52,53,53,53,54,53,55,53,56,53,57,54,48,54,49,54,50,54,51,54,52,54,53,54,54,54,55,54,56,54,57,55,48,55,49,55,50,55,51,55,52,55,53,55,54,55,55,55,56,55,57,56,48,56,49,56,50,56,51,56,52,56,53,56,54,56,55,56,56,56,57,57,48,57,49,57,50,57,51,57,52,57,53,57,54,57,55,57,56,57,57])).extract (((ai (a0*2)):Int).toNat) (((ai ((ai (a0*2))+2)):Int).toNat))) w)):ah 253 #[a0] w R:=
 cq cc Tryz.func253 h
def xF.vc{a0:Addr}(h:
 Aw w #[ao,ak,aw] 23 λw0=>
 ∃(p1:Option Addr),ld w0.drew (ae (some a0) 0)=some (.pointer p1)/\
 ah 43 #[p1,.agg #[ao,ak,aw]] w0.drew (Ri λx3 w2=>Kp w w0.drew w2/\
 ∃(p4:Option Addr),ld w2.drew (ae (some a0) 0)=some (.pointer p4)/\
 ah 59 #[p4,.agg #[ao,ak,aw],a2] w2.drew (Ri λx6 w5=>Kp w w2.drew w5/\
 Br (x6==0)
 (Br (x3 !=a2)
 (∃(s7:Sl),ld w5.drew (ae (some a0) 1)=some (.slice s7.a s7.n s7.c)/\
 Aw w5.drew #[ao,ak,aw,a2] 71 λw8=>
 aF 32 4 w8 s7 1 [ao,ak,aw,a2]/\∀(s9:Sl)(bL:World),aE 71 4 w8 s7 1 [ao,ak,aw,a2] s9 bL->Kp w w8 bL/\bL.heap[w5.drew.heap.size]? =w8.heap[w5.drew.heap.size]?/\
 (true=true/\Wr bL (ae (some a0) 1) 1)/\cS (ae (some a0) 1)≠some w.heap.size/\cS (ae (some a0) 1)≠some w5.drew.heap.size/\(∀cB,cB=bc bL (ae (some a0) 1) [s9]->
 R x6 cB))
 (R x6 w5))
 (R x6 w5)))):ah 27 #[a0,.agg #[ao,ak,aw],a2] w R:=
 cq cc Tryz.func27 h
def N3.vc(h:
 ah 67 #[a0,a1,a2] w (λe w0=>∃(p1:Option Addr),e=p1/\
 Aw w0 #[p1,.slice none 0 0] 100 λw2=>
 R (Value.pointer (bu w0)) w2)):ah 35 #[a0,a1,a2] w R:=
 cq cc Tryz.func35 h
def tm.vc{a0:Addr}(h:
 ∃(p0:Option Addr),ld w (ae (some a0) 0)=some (.pointer p0)/\
 R p0 w):ah 37 #[a0] w R:=
 cq cc Tryz.func37 h
def vB.vc{a0:Addr}(h:
 Aw w #[ao,ak] 89 λw0=>
 ah 69 #[.agg #[ao,ak]] w0 (λe w1=>∃(x2:Int)(b3:Bool),e=Value.tuple #[x2,b3]/\Kp w w0 w1/\
 Br (!b3)
 (R (5:Int) w1)
 (ah 70 #[a0,.agg #[ao,ak]] w1 (Ri λx5 w4=>Kp w w1 w4/\
 Br (x5>=0)
 (ah 71 #[a0,x5] w4 (λe w6=>∃(p7:Option Addr),e=p7/\Kp w w4 w6/\
 R (0:Int) w6))
 (ah 72 #[a0] w4 (Ri λx9 w8=>Kp w w4 w8/\
 Br (x9 !=0)
 (R x9 w8)
 (∃(YY:Option Addr),ld w8 (ae (some a0) 0)=some (.pointer YY)/\
 ah 73 #[YY,x2] w8 (λe cB=>∃(eM:Sl)(cz:Int)(b14:Bool),e=Value.tuple #[eM,cz,b14]/\Kp w w8 cB/\
 ah 74 #[.agg #[ao,ak],eM] cB (λe cU=>∃(p16:Option Addr)(cR:Int),e=Value.tuple #[p16,cR]/\Kp w cB cU/\
 Br (cR !=0)
 (∃(cf:Int),ld cU.drew (ae (some a0) 1)=some (.int .i64 cf)/\
 ah 75 #[cf,.agg #[ao,ak]] cU.drew (λe ft=>∃(p20:Option Addr),e=p20/\Kp w cU.drew ft/\
 ∃(jk:Sl),ld ft (ae (some a0) 3)=some (.slice jk.a jk.n jk.c)/\
 Aw ft #[p20,false,af] 144 λct=>
 Aw ct #[.pointer (bu ft)] 129 λgp=>
 aF 8 1 gp jk 1 [.pointer (bu ft)]/\∀(kO:Sl)(eh:World),aE 129 1 gp jk 1 [.pointer (bu ft)] kO eh->K2 w ct gp eh (
 (true=true/\Wr eh (ae (some a0) 3) 1)/\cS (ae (some a0) 3)≠some w.heap.size/\cS (ae (some a0) 3)≠some ct.heap.size/\(∀hZ,hZ=bc eh (ae (some a0) 3) [kO]->
 R (0:Int) hZ))))
 (∃(lW:Sl),ld cU (ae (some a0) 3)=some (.slice lW.a lW.n lW.c)/\
 Aw cU #[p16,false,af] 144 λeN=>
 Aw eN #[.pointer (bu cU)] 129 λfP=>
 aF 8 1 fP lW 1 [.pointer (bu cU)]/\∀(g7:Sl)(ik:World),aE 129 1 fP lW 1 [.pointer (bu cU)] g7 ik->K2 w eN fP ik (
 (true=true/\Wr ik (ae (some a0) 3) 1)/\cS (ae (some a0) 3)≠some w.heap.size/\cS (ae (some a0) 3)≠some eN.heap.size/\(∀y8,y8=bc ik (ae (some a0) 3) [g7]->
 R (0:Int) y8)))))))))))):ah 38 #[a0,.agg #[ao,ak]] w R:=
 cq cc Tryz.func38 h
def zX.vc{a0:Addr}(h:
 Aw w #[ao,ak,aw] 23 λw0=>
 ah 85 #[.agg #[ao,ak,aw]] w0 (X7 λx2 x3 w1=>Kp w w0 w1/\
 ah 70 #[a0,.agg #[x2,x3]] w1 (Ri λx5 w4=>Kp w w1 w4/\
 Br (x5<0)
 (R (Value.int .i64 (-1)) w4)
 (Br (ak<0)
 (R (1:Int) w4)
 (∃(s6:Sl),ld w4.drew (ae (some a0) 3)=some (.slice s6.a s6.n s6.c)/\
 cA s6.a x5 s6.n/\∃(p7:Option Addr),ld w4.drew (ae s6.a ((x5:Int).toNat*1))=some (.pointer p7)/\
 bk (eV p7) (bk (eV p7) (∃(p8:Option Addr),ld w4.drew (ae p7 0)=some (.pointer p8)/\
 ah 86 #[p8,.agg #[ao,ak,aw]] w4.drew (λe w9=>∃(bq:Int)(F7:Bool),e=Value.tuple #[bq,F7]/\Kp w w4.drew w9/\
 au w9 (ae s6.a ((x5:Int).toNat*1)) 0 [.pointer p7]/\au w9 (ae (some a0) 3) 0 [s6]/\R bq w9)))))))):ah 43 #[a0,.agg #[ao,ak,aw]] w R:=
 cq cc Tryz.func43 h
def N6.vc(h:
 Br (a1<1)
 (R (0:Int) w)
 (bk (NW a1) (Br (decide (((Int.tmod a0 a1):Int)<0))
 (R ((ai ((Int.tmod a0 a1)+a1))) w)
 (R (Value.int .i64 (Int.tmod a0 a1)) w)))):ah 44 #[a0,a1] w R:=
 cq cc Tryz.func44 h
def GM.vc(h:
 Aw w #[aq,ar,av] 23 λw0=>
 Aw w0 #[af,af] 89 λw1=>
 ah 96 #[aq,(16:Int)] w1.drew (Ri λx3 w2=>K2 w w0 w1.drew w2 (
 au w2 (lX w 2) 0 [av]/\ah 96 #[av,(16:Int)] w2 (Ri λx5 w4=>K2 w w0 w2 w4 (
 Sw w4 w0 #[x3,x5] λw6=>
 R (Value.agg #[x3,x5]) w6))))):ah 50 #[.agg #[aq,ar,av]] w R:=
 cq cc Tryz.func50 h
def R7.vc{av:Sl}(h:
 Aw w #[aq,ar,av] 108 λw0=>
 Aw w0 #[ao,ak,aw] 23 λw1=>
 ah 97 #[.agg #[aq,ar,av],.agg #[ao,ak,aw]] w1 (Ri λx3 w2=>K2 w w0 w1 w2 (
 Br (x3<0)
 (R (Value.int .i64 (-1)) w2)
 (∃I4:Nat->Int->Int->World->Prop,
 (∃n5,aP [aq,ar,av]/\aP [ao,ak,aw]/\I4 n5 (0) (0) w2)/\
 ∀(n5:Nat)(us6:Nat->Value)(x7 x8:Int)(w9:World),I4 n5 x7 x8 w9->
 Br (decide (x7<((av.n:Nat):Int)))
 (cA av.a x7 av.n/\bk (eV (ae av.a ((x7:Int).toNat*2))) (∃(bR:Int),ld w9 (ae (ae av.a ((x7:Int).toNat*2)) 0)=some (.int .i64 bR)/\
 Br (decide (x3<(ai (x8+bR))))
 (cA av.a x7 av.n/\bk (eV (ae av.a ((x7:Int).toNat*2))) (∃(bU:Int),ld w9 (ae (ae av.a ((x7:Int).toNat*2)) 1)=some (.int .i64 bU)/\
 R bU w9))
 (∃n10,n10<n5/\aP [aq,ar,av]/\aP [ao,ak,aw]/\I4 n10 ((ai (x7+1))) ((ai (x8+bR))) w9)))
 (R (Value.int .i64 (-1)) w9))))):ah 51 #[.agg #[aq,ar,av],.agg #[ao,ak,aw]] w R:=
 cq ⟨[(6,⟨[(7,.int .i64),(6,.int .i64)],[],[]⟩)],[],[]⟩ Tryz.func51 h
def KM.vc(h:
 ah 19 #[a0,(14:Int)] w (λe w0=>∃(x1:Int),e=x1/\
 Br (x1>5)
 (R ((ai (x1+2))) w0)
 (R x1 w0))):ah 53 #[a0] w R:=
 cq cc Tryz.func53 h
def xP.vc{a0:Addr}(h:
 Aw w #[ao,ak,aw] 23 λw0=>
 ah 85 #[.agg #[ao,ak,aw]] w0 (X7 λx2 x3 w1=>Kp w w0 w1/\
 ah 70 #[a0,.agg #[x2,x3]] w1 (Ri λx5 w4=>Kp w w1 w4/\
 ah 104 #[.agg #[ao,ak,aw]] w4 (λe w6=>∃(x7:Int)(b8:Bool),e=Value.tuple #[x7,b8]/\Kp w w4 w6/\
 Br (x5<0)
 (R (11:Int) w6)
 (Br (!b8)
 (R (5:Int) w6)
 (ah 105 #[a2] w6 (Rb λXl w9=>Kp w w6 w9/\
 Br (!Xl)
 (R (1:Int) w9)
 (ah 71 #[a0,x5] w9 (λe cB=>∃(yG:Option Addr),e=yG/\Kp w w9 cB/\
 bk (eV yG) (bk (eV yG) (∃(p13:Option Addr),ld cB.drew (ae yG 0)=some (.pointer p13)/\
 ah 86 #[p13,.agg #[ao,ak,aw]] cB.drew (λe bY=>∃(bw:Int)(b16:Bool),e=Value.tuple #[bw,b16]/\Kp w cB.drew bY/\
 bk (eV yG) (bk (eV yG) (∃(b17:Bool),ld bY (ae yG 1)=some (.bool b17)/\
 Br b17
 (bk (eV yG) (bk (eV yG) ((((ae yG 1)).isSome=true/\Wr bY (ae yG 1) 1)/\cS (ae yG 1)≠some w.heap.size/\(∀dA,dA=bc bY (ae yG 1) [.bool true]->
 bk (eV yG) (bk (eV yG) (∃(p19:Option Addr),ld dA.drew (ae yG 0)=some (.pointer p19)/\
 ah 106 #[p19,.agg #[ao,ak,aw],a2] dA.drew (Ri λfT dY=>Kp w dA.drew dY/\
 R fT dY)))))))
 (bk (eV yG) (bk (eV yG) ((((ae yG 1)).isSome=true/\Wr bY (ae yG 1) 1)/\cS (ae yG 1)≠some w.heap.size/\(∀ct,ct=bc bY (ae yG 1) [.bool (bw !=a2)]->
 bk (eV yG) (bk (eV yG) (∃(p23:Option Addr),ld ct.drew (ae yG 0)=some (.pointer p23)/\
 ah 106 #[p23,.agg #[ao,ak,aw],a2] ct.drew (Ri λda fy=>Kp w ct.drew fy/\
 R da fy))))))))))))))))))))):ah 59 #[a0,.agg #[ao,ak,aw],a2] w R:=
 cq cc Tryz.func59 h
def KN.vc(h:
 Aw w #[aq,ar,av] 23 λw0=>
 Aw w0 #[af,af,af] 23 λw1=>
 ah 19 #[aq,(80:Int)] w1.drew (Ri λx3 w2=>K2 w w0 w1.drew w2 (
 au w2 (lX w 2) 0 [av]/\au w2 (lX w 1) 0 [ar]/\ah 19 #[ar,(34:Int)] w2 (Ri λx5 w4=>K2 w w0 w2 w4 (
 au w4 (lX w 2) 0 [av]/\ah 19 #[av,(80:Int)] w4 (Ri λx7 w6=>K2 w w0 w4 w6 (
 Sw w6 w0 #[(ai (x3-32)),(ai (x5-1)),(ai (x7-32))] λw8=>
 R (Value.agg #[(ai (x3-32)),(ai (x5-1)),(ai (x7-32))]) w8))))))):ah 62 #[.agg #[aq,ar,av]] w R:=
 cq cc Tryz.func62 h
def rY.vc{a0:Addr}(h:
 Aw w #[ao,ak] 89 λw0=>
 ah 70 #[a0,.agg #[ao,ak]] w0 (Ri λx2 w1=>Kp w w0 w1/\
 Br (x2<0)
 (R (6:Int) w1)
 (∃(s3:Sl),ld w1 (ae (some a0) 3)=some (.slice s3.a s3.n s3.c)/\
 cA s3.a x2 s3.n/\∃(p4:Option Addr),ld w1 (ae s3.a ((x2:Int).toNat*1))=some (.pointer p4)/\
 bk (eV p4) (bk (eV p4) (∃(x5:Int),ld w1 (ae p4 2)=some (.int .i64 x5)/\
 Br (x5>0)
 (R (10:Int) w1)
 (∃(s6:Sl),ld w1 (ae (some a0) 3)=some (.slice s6.a s6.n s6.c)/\
 cA s6.a x2 s6.n/\∃(p7:Option Addr),ld w1 (ae s6.a ((x2:Int).toNat*1))=some (.pointer p7)/\
 ah 107 #[a0,p7] w1 (Ri λx9 w8=>Kp w w1 w8/\
 Br (x9==0)
 (ah 108 #[a0,x2] w8 (λe bL=>∃(p11:Option Addr),e=p11/\Kp w w8 bL/\
 R x9 bL))
 (R x9 w8)))))))):ah 65 #[a0,.agg #[ao,ak]] w R:=
 cq cc Tryz.func65 h
def OD.vc(h:
 ah 111 #[a2] w (λe w0=>∃(p1:Option Addr),e=p1/\
 Aw w0 #[p1,a0,.int .i64 (if 16<(if 1>a1 then 1 else a1) then 16 else (if 1>a1 then 1 else a1)),.slice none 0 0] 137 λw2=>
 R (Value.pointer (bu w0)) w2)):ah 67 #[a0,a1,a2] w R:=
 cq cc Tryz.func67 h
def R8.vc(h:
 Aw w #[aq,ar] 89 λw0=>
 Br (aq<(-524288))
 (R (Value.tuple #[af,false]) w0)
 (Br (aq>=524288)
 (R (Value.tuple #[af,false]) w0)
 (Br (ar<(-524288))
 (R (Value.tuple #[af,false]) w0)
 (Br (ar>=524288)
 (R (Value.tuple #[af,false]) w0)
 (R (Value.tuple #[(ai ((ai ((ai ((ai ((ai ((ai (aq+524288))*2))*524288))+ar))+524288))+1)),true]) w0))))):ah 69 #[.agg #[aq,ar]] w R:=
 cq cc Tryz.func69 h
def vC.vc{a0:Addr}(h:
 Aw w #[ao,ak] 89 λw0=>
 ∃(s1:Sl),ld w0 (ae (some a0) 3)=some (.slice s1.a s1.n s1.c)/\
 ah 113 #[s1,.func (.func 114) #[] #[w]] w0 (λe w2=>∃(x3:Int),e=x3/\
 R x3 w2)):ah 70 #[a0,.agg #[ao,ak]] w R:=
 cq cc Tryz.func70 h
def tP.vc{a0:Addr}(h:
 ah 108 #[a0,a1] w (λe w0=>∃(p1:Option Addr),e=p1/\
 ∃(s2:Sl),ld w0 (ae (some a0) 3)=some (.slice s2.a s2.n s2.c)/\
 Aw w0 #[p1] 129 λw3=>
 aF 8 1 w3 s2 1 [.pointer p1]/\∀(s4:Sl)(w5:World),aE 129 1 w3 s2 1 [.pointer p1] s4 w5->Kp w0 w3 w5/\
 (true=true/\Wr w5 (ae (some a0) 3) 1)/\cS (ae (some a0) 3)≠some w0.heap.size/\(∀w6,w6=bc w5 (ae (some a0) 3) [s4]->
 R p1 w6))):ah 71 #[a0,a1] w R:=
 cq cc Tryz.func71 h
def vD.vc{a0:Addr}(h:
 ∃(s0:Sl),ld w.drew (ae (some a0) 3)=some (.slice s0.a s0.n s0.c)/\
 ∃(x1:Int),ld w.drew (ae (some a0) 2)=some (.int .i64 x1)/\
 Br (decide ((((s0.n:Nat):Int):Int)<x1))
 (R (0:Int) w.drew)
 (∃(s2:Sl),ld w.drew (ae (some a0) 3)=some (.slice s2.a s2.n s2.c)/\
 ah 113 #[s2,.func (.func 116) #[] #[]] w.drew (λe w3=>∃(x4:Int),e=x4/\
 Br (x4<0)
 (R (8:Int) w3)
 (∃(s5:Sl),ld w3 (ae (some a0) 3)=some (.slice s5.a s5.n s5.c)/\
 cA s5.a x4 s5.n/\∃(p6:Option Addr),ld w3 (ae s5.a ((x4:Int).toNat*1))=some (.pointer p6)/\
 ah 107 #[a0,p6] w3 (λe w7=>∃(x8:Int),e=x8/\
 Br (x8==0)
 (ah 108 #[a0,x4] w7 (λe w9=>∃(YY:Option Addr),e=YY/\
 R x8 w9))
 (R x8 w7)))))):ah 72 #[a0] w R:=
 cq cc Tryz.func72 h
def vE.vc{a0:Addr}(h:
 ah 117 #[a1] w (λe w0=>∃(b1:Bool),e=b1/\
 Br (!b1)
 (R (Value.tuple #[.slice none 0 0,af,false]) w0)
 (ah 118 #[a0,a1] w0 (λe w2=>∃(x3 x4:Int)(s5:Sl),e=Value.agg #[x3,x4,s5]/\
 Aw w2 #[af,af,.slice none 0 0] 186 λw6=>
 Sw w6 w2 #[x3,x4,s5] λw7=>
 R (Value.tuple #[s5,x4,.bool (decide (x4>0))]) w7.drew)))):ah 73 #[a0,a1] w R:=
 cq cc Tryz.func73 h
def KO.vc{a1:Sl}(h:
 Aw w #[aq,ar] 89 λw0=>
 ah 119 #[a1,(8192:Int)] w0 (λe w1=>∃(s2:Sl)(x3:Int),e=Value.tuple #[s2,x3]/\Kp w w0 w1/\
 Br (x3 !=0)
 (R (Value.tuple #[.pointer none,x3]) w1)
 (ah 120 #[.agg #[aq,ar],s2] w1 (λe w4=>∃(p5:Option Addr)(x6:Int),e=Value.tuple #[p5,x6]/\Kp w w1 w4/\
 R (Value.tuple #[p5,x6]) w4)))):ah 74 #[.agg #[aq,ar],a1] w R:=
 cq cc Tryz.func74 h
def KP.vc(h:
 Aw w #[ao,ak] 89 λw0=>
 (ah 121 #[a0,.agg #[ao,ak]] w0.drew (Rs λs2 w1=>Kp w w0.drew w1/\
 Aw w1 #[ao,ak,s2] 183 λw3=>
 R (Value.pointer (bu w1)) w3))/\(ah 121 #[a0,.agg #[ao,ak]] w0.drew (Rs λs5 w4=>Kp w w0.drew w4/\
 au w4 w 0 [ao,ak]/\Aw w4 #[ao,ak,s5] 183 λw6=>
 R (Value.pointer (bu w4)) w6))):ah 75 #[a0,.agg #[ao,ak]] w R:=
 cq cc Tryz.func75 h
def R9.vc(h:
 Aw w #[aq,ar] 89 λw0=>
 Br (aq<(-524288))
 (R (0:Int) w0)
 (Br (aq>524287)
 (R (0:Int) w0)
 (Br (ar<(-524288))
 (R (0:Int) w0)
 (Br (ar>524287)
 (R (0:Int) w0)
 (R ((ai ((ai ((ai ((ai (aq+524288))*1048576))+(ai (ar+524288))))+1))) w0))))):ah 76 #[.agg #[aq,ar]] w R:=
 cq cc Tryz.func76 h
def KQ.vc{a1:Sl}(h:
 Aw w #[aq,ar] 89 λw0=>
 Aw w0 #[af,af,.slice none 0 0] 108 λw1=>
 ah 126 #[a1,(8192:Int)] w1 (λe w2=>∃(s3:Sl)(x4:Int),e=Value.tuple #[s3,x4]/\K2 w w0 w1 w2 (
 Br (x4 !=0)
 (Sw w2 w0 #[af,af,.slice none 0 0] λw5=>
 R (Value.tuple #[.agg #[af,af,.slice none 0 0],x4]) w5)
 (Sw w2 w0 #[aq,ar,s3] λw6=>
 R (Value.tuple #[.agg #[aq,ar,s3],(0:Int)]) w6)))):ah 81 #[.agg #[aq,ar],a1] w R:=
 cq cc Tryz.func81 h
def KR.vc(h:
 Aw w #[ao,ak] 89 λw0=>
 Aw w0 #[af,af,.slice none 0 0] 108 λw1=>
 ah 127 #[a0,.agg #[ao,ak]] w1.drew (Rs λs3 w2=>K2 w w0 w1.drew w2 (
 au w2 w 0 [ao,ak]/\Sw w2 w0 #[ao,ak,s3] λw4=>
 R (Value.agg #[ao,ak,s3]) w4))):ah 82 #[a0,.agg #[ao,ak]] w R:=
 cq cc Tryz.func82 h
def Kn.vc(h:
 Aw w #[aq,ar,av] 23 λw0=>
 Aw w0 #[af,af] 89 λw1=>
 ah 128 #[aq,(16:Int)] w1.drew (Ri λx3 w2=>K2 w w0 w1.drew w2 (
 au w2 (lX w 2) 0 [av]/\ah 128 #[av,(16:Int)] w2 (Ri λx5 w4=>K2 w w0 w2 w4 (
 Sw w4 w0 #[x3,x5] λw6=>
 R (Value.agg #[x3,x5]) w6))))):ah 85 #[.agg #[aq,ar,av]] w R:=
 cq cc Tryz.func85 h
def zY.vc{a0:Addr}(h:
 Aw w #[ao,ak,aw] 23 λw0=>
 ∃(x1 x2:Int),au w0.drew (ae (some a0) 0) 0 [x1,x2]/\
 ah 129 #[.agg #[x1,x2],.agg #[ao,ak,aw]] w0.drew (λe w3=>∃(x4:Int)(b5:Bool),e=Value.tuple #[x4,b5]/\Kp w w0.drew w3/\
 Br (!b5)
 (R (Value.tuple #[af,false]) w3)
 (∃(s6:Sl),ld w3 (ae (some a0) 2)=some (.slice s6.a s6.n s6.c)/\
 ah 130 #[s6,x4] w3 (Ri λx8 w7=>Kp w w3 w7/\
 R (Value.tuple #[x8,true]) w7)))):ah 86 #[a0,.agg #[ao,ak,aw]] w R:=
 cq cc Tryz.func86 h
def tn.vc{a0:Addr}(h:
 Aw w #[ao,ak,aw] 23 λw0=>
 ∃(p1:Option Addr),ld w0 (ae (some a0) 0)=some (.pointer p1)/\
 ah 135 #[p1] w0 (Rs λs3 w2=>Kp w w0 w2/\
 ah 85 #[.agg #[ao,ak,aw]] w2 (X7 λx5 x6 w4=>Kp w w2 w4/\
 ah 136 #[.agg #[x5,x6]] w4 (λe w7=>∃(x8 x9 bq bR bU cz bW bw cQ cR:Int),e=Value.agg #[x8,x9,bq,bR,bU,cz,bW,bw,cQ,cR]/\Kp w w4 w7/\
 ∃I18:Nat->Int->World->Prop,
 (∃Xn,aP [ao,ak,aw]/\I18 Xn (0) w7)/\
 ∀(Xn:Nat)(aiL:Nat->Value)(fT:Int)(ct:World),I18 Xn fT ct->
 Br (fT<5)
 (((0:Int)<=fT/\fT<((5:Nat):Int))/\∃(de da:Int),(([x8,x9,bq,bR,bU,cz,bW,bw,cQ,cR]:LV).drop ((fT:Int).toNat*2)).take 2=[.int .i64 de,.int .i64 da]/\
 Aw ct #[af,af] 89 λhZ=>
 Sw hZ ct #[de,da] λjf=>
 ah 137 #[s3,.agg #[de,da]] jf (Rb λb29 eN=>K2 w ct jf eN (
 Br (!b29)
 (R false eN)
 (∃Qf,Qf<Xn/\aP [ao,ak,aw]/\I18 Qf ((ai (fT+1))) eN))))
 (R true ct))))):ah 91 #[a0,.agg #[ao,ak,aw]] w R:=
 cq ⟨[(3,⟨[(16,.int .i64)],[],[]⟩)],[],[]⟩ Tryz.func91 h
def Hm.vc(h:
 R (Value.bool (a0==3)) w):ah 94 #[a0] w R:=
 cq cc Tryz.func94 h
def N8.vc(h:
 Br (a1<1)
 (R (0:Int) w)
 (ah 144 #[a0,a1] w (λe w0=>∃(x1:Int),e=x1/\
 R x1 w0))):ah 96 #[a0,a1] w R:=
 cq cc Tryz.func96 h
def Hn.vc{av:Sl}(h:
 Aw w #[aq,ar,av] 108 λw0=>
 Aw w0 #[ao,ak,aw] 23 λw1=>
 ah 145 #[.agg #[ao,ak,aw]] w1 (λe w2=>∃(x3:Int)(b4:Bool),e=Value.tuple #[x3,b4]/\K2 w w0 w1 w2 (
 Br (!b4)
 (R (Value.int .i64 (-1)) w2.drew)
 (ah 50 #[.agg #[ao,ak,aw]] w2.drew (X7 λx6 x7 w5=>K2 w w0 w2.drew w5 (
 au w5 w 0 [aq,ar]/\Br (!((x6==aq) &&(x7==ar)))
 (R (Value.int .i64 (-1)) w5)
 (R x3 w5))))))):ah 97 #[.agg #[aq,ar,av],.agg #[ao,ak,aw]] w R:=
 cq cc Tryz.func97 h
end Go.Proofs.YtalpkjfpmdpbiaaGreatDoor
