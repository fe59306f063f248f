import Derived.Test.YtjcnjlaelhdjeaaGreatDoorG
import Derived.Test.YtjcnjlaelhdjeaaGreatDoorE
import Derived.Test.YtjcnjlaelhdjeaaGreatDoorD
set_option linter.all false
namespace Go.Proofs.YtjcnjlaelhdjeaaGreatDoor
open Go Go.Vc Go.RowKit Go.Proofs Tryz
set_option maxRecDepth 100000
set_option maxHeartbeats 8000000
variable {R:eWp} {w:World} {a0 a1:Int}
def Zj.vc(h:
 ae 60 #[.agg #[(1:Int),(9:Int),(200000:Int),(16:Int)]] w (tR λp1 w0=>Aw w0 #[p1] 98 λw2=>
 R (Value.pointer (aB w0)) w2)):ae 26 #[] w R:=
 cq bD func26 h
def Z2.vc{a0:ByteArray}(h:(λA=>
 ae 26 #[] w (tR λp1 w0=>Aw w0 #[pno,.slice none 0 0] 112 λw2=>
 ae 61 #[.string a0,.string A] w2 (Rs λs4 w3=>Kp w0 w2 w3/\
 uo (λI5 n6=>I5 n6 (0) w3) λI5 n6 us7 x8 w9=>(λAa=>
 Br (decide (x8<((s4.n:Nat):Int)))
 (gJ s4.a x8 s4.n/\Lxt w9 (ab s4.a ((x8:Int).toNat*1)) λt11=>
 Br (x8<100)
 (ae 31 #[.string t11] w9 (rZ λkO bO=>Br (decide ((((kO.n:Nat):Int):Int)>0))
 (ae 14 #[p1,.string t11] bO (oB λt15 cu=>(((t15).size+(A).size:Nat):Int)<=IntKind.i64.max/\ae 62 #[.pointer (aB w0),.string (t15++A)] cu (λe cp=>∃(dS:Int)(v18:Value),e=Value.tuple #[dS,v18]/\
 ∃n10,n10<n6/\I5 n10 Aa cp)))
 (∃n10,n10<n6/\I5 n10 Aa bO)))
 (∃n10,n10<n6/\I5 n10 Aa w9))
 (ae 63 #[.pointer (aB w0)] w9 (oB λt20 eQ=>R (Value.string t20) eQ))) ((aC (x8+1)))))) (ByteArray.mk #[10])):ae 29 #[.string a0] w R:=
 cq ⟨[(4,⟨[(11,.int .i64)],[],[0]⟩)],[],[]⟩ func29 h
def Q4.vc{a0:ByteArray}(h:
 ae 64 #[.string a0,.func (.func 65) #[] #[]] w (rZ λs1 w0=>R s1 w0)):ae 31 #[.string a0] w R:=
 cq bD func31 h
def M3.vc{a0:ByteArray}(h:(λA=>
 ae 66 #[.string a0,.string (ByteArray.mk #[45])] w (aqH λt1 b2 w0=>∀w3,w3=w0.alloc (.stringIter t1 0)->
 uo (λI4 n5=>I4 n5 (0) w3) λI4 n5 us6 x7 w8=>(λAa Ab=>
 ∃(r10:Nat)(Ju:ByteArray)(yE:Nat),((aB w0):Option Addr)=aB r10/\w8.heap[r10]? =some (.stringIter Ju yE)/\Br (yE<Ju.size)
 (∀bw:World,Rec r10 w8 bw->bw.heap[r10]? =some (.stringIter Ju (yE+(Utf8.decode Ju yE).2))->
 Br (decide (((((Utf8.decode Ju yE).1:Nat):Int):Int)<48))
 (R A bw)
 (Br (decide (((((Utf8.decode Ju yE).1:Nat):Int):Int)>57))
 (R A bw)
 (Br (decide (((aC (Ab+(aC (IntKind.wrap .i32 ((((Utf8.decode Ju yE).1:Nat):Int)-48))))):Int)>=1000000000000000))
 (R A bw)
 (∃n9,n9<n5/\I4 n9 ((aC (Ab+(aC (IntKind.wrap .i32 ((((Utf8.decode Ju yE).1:Nat):Int)-48)))))) bw))))
 (Br (ej t1 (ByteArray.mk #[]))
 Aa
 (Br (decide (((((t1).size:Nat):Int):Int)>15))
 Aa
 (Br b2
 (R (eV #[(aC (0-x7)),true]) w8)
 (R (eV #[x7,true]) w8))))) (R A w8) (aC (x7*10)))) (Value.tuple #[ai,false])):ae 32 #[.string a0] w R:=
 cq (Oy 4 6) func32 h
def Cb.vc{a0:Addr}(h:
 fu w (ab (some a0) 0) λp0=>
 aN (eI p0) (aN (eI p0) (fu w (ab p0 0) λp1=>
 ae 39 #[p1] w (tR λp3 w2=>ae 40 #[p3] w2 (tR λp5 w4=>(λAa=>∀w6,w6=w4.alloc (.map #[] 0)->
 DR 9 Aa w6 (.string (ByteArray.mk #[119,111,114,108,100])) (.func (.func 86) #[a0] #[]) λw9=>
 ae 87 #[a0,.func (.func 88) #[p5] #[]] w9 (II λv11 bc=>DR 9 Aa bc (.string (ByteArray.mk #[108,111,97,100])) (v11) λcu=>
 ae 87 #[a0,.func (.func 89) #[p5] #[]] cu (II λv16 dj=>DR 9 Aa dj (.string (ByteArray.mk #[117,110,108,111,97,100])) (v16) λeQ=>
 ae 87 #[a0,.func (.func 90) #[p5] #[]] eQ (II λv21 fw=>DR 9 Aa fw (.string (ByteArray.mk #[102,108,117,115,104])) (v21) λiH=>
 ae 87 #[a0,.func (.func 91) #[p5] #[]] iH (II λv26 dL=>DR 9 Aa dL (.string (ByteArray.mk #[112,105,110])) (v26) λgz=>
 ae 87 #[a0,.func (.func 92) #[p5] #[]] gz (II λv31 pN=>DR 9 Aa pN (.string (ByteArray.mk #[117,110,112,105,110])) (v31) λky=>
 DR 9 Aa ky (.string (ByteArray.mk #[102,108,117,115,104,97,108,108])) (.func (.func 93) #[a0] #[]) λjJ=>
 DR 9 Aa jJ (.string (ByteArray.mk #[102,97,105,108])) (.func (.func 94) #[a0] #[]) λnV=>
 DR 9 Aa nV (.string (ByteArray.mk #[99,114,97,115,104])) (.func (.func 95) #[a0] #[]) λiS=>
 DR 9 Aa iS (.string (ByteArray.mk #[115,97,118,101])) (.func (.func 96) #[a0] #[]) λIg=>
 DR 9 Aa Ig (.string (ByteArray.mk #[115,112,97,119,110])) (.func (.func 97) #[a0] #[]) λnH=>
 DR 9 Aa nH (.string (ByteArray.mk #[107,105,108,108])) (.func (.func 98) #[a0] #[]) λX7=>
 DR 9 Aa X7 (.string (ByteArray.mk #[116,101,108,108])) (.func (.func 99) #[a0] #[]) λyN=>
 DR 9 Aa yN (.string (ByteArray.mk #[112,108,97,99,101])) (.func (.func 100) #[a0] #[]) λCD=>
 DR 9 Aa CD (.string (ByteArray.mk #[101,100,105,116])) (.func (.func 101) #[a0] #[]) λvv=>
 DR 9 Aa vv (.string (ByteArray.mk #[98,114,101,97,107])) (.func (.func 102) #[a0] #[]) λJs=>
 DR 9 Aa Js (.string (ByteArray.mk #[108,111,111,107])) (.func (.func 103) #[a0] #[]) λpS=>
 DR 9 Aa pS (.string (ByteArray.mk #[97,116])) (.func (.func 104) #[a0] #[]) λyM=>
 DR 9 Aa yM (.string (ByteArray.mk #[116,111,112])) (.func (.func 105) #[a0] #[]) λJl=>
 DR 9 Aa Jl (.string (ByteArray.mk #[98,111,100,121])) (.func (.func 106) #[a0] #[]) λqM=>
 DR 9 Aa qM (.string (ByteArray.mk #[108,105,118,101])) (.func (.func 107) #[a0] #[]) λKV=>
 DR 9 Aa KV (.string (ByteArray.mk #[104,101,114,101])) (.func (.func 108) #[a0] #[]) λw82=>
 DR 9 Aa w82 (.string (ByteArray.mk #[116,105,99,107])) (.func (.func 109) #[a0] #[]) λw85=>
 R (Value.map Aa) w85)))))) (some w4.heap.size)))))):ae 52 #[a0] w R:=
 cq bD func52 h
def D8.vc{a0:Addr}(h:(λA=>
 lX w A λs0=>
 ae 54 #[.bool (decide ((((s0.n:Nat):Int):Int)>0))] w (Qp R (Rt λw1=>lX w1 A λs2=>
 gJ s2.a 0 s2.n/\Lxt w1 (ab s2.a ((0:Int).toNat*1)) λt3=>
 lX w1 A λs4=>
 (0:Int)<=1/\1<=((s4.n:Nat):Int)/\(Pv w1 A 1 [.slice (aE s4.a ((1:Int).toNat) (s4.c) 1) (s4.n-(1:Int).toNat) (s4.c-(1:Int).toNat)] λw5=>
 R (Value.string t3) w5)))) (ab (some a0) 0)):ae 53 #[a0] w R:=
 Gm bD func53 h
def Vj.vc{a0:Bool}(h:
 Br (!a0)
 (R (.panicked [{v:=.iface 85 (.string (ByteArray.mk #[98,97,100])),recovered:=false}]) w)
 (R pH w)):ae 54 #[a0] w R:=
 Gm bD func54 h
def qu.vc{a0:Addr}{a1:Addr}(h:
 ae 152 #[a1] w (Qp R (gk λx1 w0=>ae 152 #[a1] w0 (Qp R (gk λx3 w2=>ae 152 #[a1] w2 (Qp R (gk λx5 w4=>ae 153 #[a1] w4 (Qp R (Rt λw6=>ae 60 #[.agg #[x1,x3,(200000:Int),x5]] w6 (Qp R (tR λp8 w7=>(Pv w7 (ab (some a0) 0) 1 [.pointer p8] λw9=>
 Aw w9 #[.iface 168 (0:Int)] 20 λbc=>
 ae 154 #[.slice (aB w9) 1 1] bc (Qp R (oB λt12 bB=>R (Value.string t12) bB)))))))))))))):ae 86 #[a0,a1] w R:=
 Gm bD func86 h
def AF.vc{a0:Addr}{a1:Value}(h:
 aN (kr a1) (
 Aw w #[a1] 157 λw0=>
 R (Value.func (.func 155) #[] #[w]) w0)):ae 87 #[a0,a1] w R:=
 cq bD func87 h
def vf.vc{a0:Addr}{a1:Addr}(h:
 ae 153 #[a1] w (Qp R (Rt λw0=>fu w0 (ab (some a0) 0) λp1=>
 aN (eI p1) (aN (eI p1) (fu w0 (ab p1 0) λp2=>
 ae 39 #[p2] w0 (Qp R (tR λp4 w3=>ae 40 #[p4] w3 (Qp R (tR λp6 w5=>ae 120 #[p6] w5 (Qp R (ah9 λx8 x9 w7=>Aw w7 #[.iface 3 (x8),.iface 168 (x9)] 20 λbc=>
 ae 154 #[.slice (aB w7) 2 2] bc (Qp R (oB λt12 bB=>R (Value.string t12) bB))))))))))))):ae 93 #[a0,a1] w R:=
 Gm bD func93 h
def Cc.vc{a0:Addr}{a1:Addr}(h:
 ae 152 #[a1] w (Qp R (gk λx1 w0=>ae 153 #[a1] w0 (Qp R (Rt λw2=>fu w2 (ab (some a0) 0) λp3=>
 aN (eI p3) (aN (eI p3) (fu w2 (ab p3 0) λp4=>
 ae 39 #[p4] w2 (Qp R (tR λp6 w5=>ae 40 #[p6] w5 (Qp R (tR λp8 w7=>aN (eI p8) (aN (eI p8) (fu w7 (ab p8 0) λp9=>
 aN (eI p9) (aN (eI p9) (aN (eI (ab p9 0)) (fu w7 (ab (ab p9 0) 0) λJt=>
 ae 122 #[Jt,x1] w7 (Qp R (Rt λbB=>Aw bB #[.iface 168 (0:Int)] 20 λbO=>
 ae 154 #[.slice (aB bB) 1 1] bO (Qp R (oB λt14 bw=>R (Value.string t14) bw)))))))))))))))))))):ae 94 #[a0,a1] w R:=
 Gm bD func94 h
def AH.vc{a0:Addr}{a1:Addr}(h:
 ae 152 #[a1] w (Qp R (gk λx1 w0=>ae 153 #[a1] w0 (Qp R (Rt λw2=>fu w2 (ab (some a0) 0) λp3=>
 ae 123 #[p3,x1] w2 (Qp R (gk λx5 w4=>Aw w4 #[.iface 3 (x5)] 20 λw6=>
 ae 154 #[.slice (aB w4) 1 1] w6 (Qp R (oB λt8 w7=>R (Value.string t8) w7))))))))):ae 95 #[a0,a1] w R:=
 Gm bD func95 h
def Cd.vc{a0:Addr}{a1:Addr}(h:
 ae 153 #[a1] w (Qp R (Rt λw0=>fu w0 (ab (some a0) 0) λp1=>
 ae 121 #[p1] w0 (Qp R (gk λx3 w2=>Aw w2 #[.iface 168 (x3)] 20 λw4=>
 ae 154 #[.slice (aB w2) 1 1] w4 (Qp R (oB λt6 w5=>R (Value.string t6) w5))))))):ae 96 #[a0,a1] w R:=
 Gm bD func96 h
def zB.vc{a0:Addr}{a1:Addr}(h:
 ae 166 #[a1] w (Qp R (zJ λx1 x2 x3 w0=>Aw w0 #[ai,ai,ai] 73 λw4=>
 Sw w4 w0 #[x1,x2,x3] λw5=>
 ae 152 #[a1] w5 (Qp R (gk λx7 w6=>Kp w0 w5 w6/\
 ae 152 #[a1] w6 (Qp R (gk λx9 w8=>Kp w0 w6 w8/\
 ae 153 #[a1] w8 (Qp R (Rt λbc=>Kp w0 w8 bc/\
 fu bc.drew (ab (some a0) 0) λIk=>
 ae 132 #[Ik,.agg #[x1,x2,x3],x7,x9] bc.drew (Qp R (ah9 λcN cY bO=>Kp w0 bc.drew bO/\
 Aw bO #[.iface 3 (cN)] 20 λdj=>
 ae 167 #[cY,.slice (aB bO) 1 1] dj (Qp R (oB λt17 cp=>Kp w0 dj cp/\
 R (Value.string t17) cp))))))))))))):ae 97 #[a0,a1] w R:=
 Gm bD func97 h
def BE.vc{a0:Addr}{a1:Addr}(h:
 ae 152 #[a1] w (Qp R (gk λx1 w0=>ae 153 #[a1] w0 (Qp R (Rt λw2=>fu w2 (ab (some a0) 0) λp3=>
 ae 124 #[p3,x1] w2 (Qp R (gk λx5 w4=>Aw w4 #[.iface 168 (x5)] 20 λw6=>
 ae 154 #[.slice (aB w4) 1 1] w6 (Qp R (oB λt8 w7=>R (Value.string t8) w7))))))))):ae 98 #[a0,a1] w R:=
 Gm bD func98 h
def Cf.vc{a0:Addr}{a1:Addr}(h:(λA B=>
 ae 152 #[a1] w (Qp R (gk λx1 w0=>ae 152 #[a1] w0 (Qp R (gk λx3 w2=>Aw w2 #[ai,ai,false] 101 λw4=>
 Sw w4 w2 #[x3,ai,false] λw5=>
 ae 152 #[a1] w5 (Qp R (gk λx7 w6=>Kp w2 w5 w6/\
 Sw w6 w2 #[x3,x7,false] λw8=>
 ae 53 #[a1] w8 (Qp R (oB λt10 w9=>(λAa=>Kp w2 w8 w9/\
 Br (ej t10 (ByteArray.mk #[48]))
 (ae 54 #[true] w9 (Qp R (Rt λbB=>Kp w2 w9 bB/\
 ∀bO,bO=bB.setRow w2 Aa->
 ae 153 #[a1] bO (Qp R (Rt λbw=>Kp w2 bO bw/\
 fu bw.drew B λTw=>
 ae 133 #[Tw,x1,.agg Aa] bw.drew (Qp R (gk λdz dj=>Kp w2 bw.drew dj/\
 Aw dj #[.iface 168 (dz)] 20 λcM=>
 ae 154 #[.slice (aB dj) 1 1] cM (Qp R (oB λt19 dN=>Kp w2 cM dN/\
 R (Value.string t19) dN)))))))))
 (ae 54 #[.bool (ej t10 A)] w9 (Qp R (Rt λfw=>Kp w2 w9 fw/\
 ∀cX,cX=fw.setRow w2 Aa->
 ae 153 #[a1] cX (Qp R (Rt λdt=>Kp w2 cX dt/\
 fu dt.drew B λTu=>
 ae 133 #[Tu,x1,.agg Aa] dt.drew (Qp R (gk λgM iH=>Kp w2 dt.drew iH/\
 Aw iH #[.iface 168 (gM)] 20 λlQ=>
 ae 154 #[.slice (aB iH) 1 1] lQ (Qp R (oB λt28 gN=>Kp w2 lQ gN/\
 R (Value.string t28) gN)))))))))) #[x3,x7,.bool (ej t10 A)]))))))))) (ByteArray.mk #[49]) (ab (some a0) 0)):ae 99 #[a0,a1] w R:=
 Gm bD func99 h
def AI.vc{a0:Addr}{a1:Addr}(h:
 ae 152 #[a1] w (Qp R (gk λx1 w0=>ae 166 #[a1] w0 (Qp R (zJ λx3 x4 x5 w2=>Aw w2 #[ai,ai,ai] 73 λw6=>
 Sw w6 w2 #[x3,x4,x5] λw7=>
 ae 168 #[a1] w7 (Qp R (gk λx9 w8=>Kp w2 w7 w8/\
 ae 153 #[a1] w8 (Qp R (Rt λbc=>Kp w2 w8 bc/\
 fu bc.drew (ab (some a0) 0) λIk=>
 ae 127 #[Ik,x1,.agg #[x3,x4,x5],x9] bc.drew (Qp R (gk λcN bO=>Kp w2 bc.drew bO/\
 Aw bO #[.iface 168 (cN)] 20 λcu=>
 ae 154 #[.slice (aB bO) 1 1] cu (Qp R (oB λt16 dj=>Kp w2 cu dj/\
 R (Value.string t16) dj))))))))))))):ae 100 #[a0,a1] w R:=
 Gm bD func100 h
def Ch.vc{a0:Addr}{a1:Addr}(h:
 ae 169 #[a1] w (Qp R (zJ λx1 x2 x3 w0=>Aw w0 #[ai,ai,ai] 23 λw4=>
 Sw w4 w0 #[x1,x2,x3] λw5=>
 ae 168 #[a1] w5 (Qp R (gk λx7 w6=>Kp w0 w5 w6/\
 ae 153 #[a1] w6 (Qp R (Rt λw8=>Kp w0 w6 w8/\
 fu w8.drew (ab (some a0) 0) λp9=>
 ae 126 #[p9,.agg #[x1,x2,x3],x7] w8.drew (Qp R (gk λbR bc=>Kp w0 w8.drew bc/\
 Aw bc #[.iface 168 (bR)] 20 λbO=>
 ae 154 #[.slice (aB bc) 1 1] bO (Qp R (oB λt14 bw=>Kp w0 bO bw/\
 R (Value.string t14) bw))))))))))):ae 101 #[a0,a1] w R:=
 Gm bD func101 h
def xX.vc{a0:Addr}{a1:Addr}(h:
 ae 152 #[a1] w (Qp R (gk λx1 w0=>ae 166 #[a1] w0 (Qp R (zJ λx3 x4 x5 w2=>Aw w2 #[ai,ai,ai] 73 λw6=>
 Sw w6 w2 #[x3,x4,x5] λw7=>
 ae 153 #[a1] w7 (Qp R (Rt λw8=>Kp w2 w7 w8/\
 fu w8.drew (ab (some a0) 0) λp9=>
 ae 129 #[p9,x1,.agg #[x3,x4,x5]] w8.drew (Qp R (ah9 λbR cw bc=>Kp w2 w8.drew bc/\
 ae 170 #[bR] bc (Qp R (oB λt14 bw=>Kp w2 bc bw/\
 Aw bw #[.iface 9 (.string t14)] 20 λdj=>
 ae 167 #[cw,.slice (aB bw) 1 1] dj (Qp R (oB λt17 cp=>Kp w2 dj cp/\
 R (Value.string t17) cp))))))))))))):ae 102 #[a0,a1] w R:=
 Gm bD func102 h
def G9.vc{a0:Addr}{a1:Addr}(h:(λA=>
 ae 169 #[a1] w (Qp R (zJ λx1 x2 x3 w0=>Aw w0 #[ai,ai,ai] 23 λw4=>
 Sw w4 w0 #[x1,x2,x3] λw5=>
 ae 153 #[a1] w5 (Qp R (Rt λw6=>Kp w0 w5 w6/\
 fu w6.drew A λp7=>(λAa=>
 aN (eI p7) (aN (eI p7) (fu w6.drew (ab p7 0) λp8=>
 ae 39 #[p8] w6.drew (Qp R (tR λJt w9=>Kp w0 w6.drew w9/\
 ah w9 (aB w0) 0 [x1,x2,x3]/\ah w9 A 0 Aa/\ae 58 #[Jt] w9 (Qp R (II λv12 bB=>Kp w0 w9 bB/\
 ah bB (aB w0) 0 [x1,x2,x3]/\ah bB A 0 Aa/\bu Tryz.prog v12 [.agg #[x1,x2,x3]] bB (Qp R (gk λcY bw=>Kp w0 bB bw/\
 ah bw A 0 Aa/\Br (cY==(-1))
 (Aw bw #[.iface 9 (.string (ByteArray.mk #[97,119,97,121]))] 20 λdj=>
 ae 154 #[.slice (aB bw) 1 1] dj (Qp R (oB λt17 cp=>Kp w0 dj cp/\
 R (Value.string t17) cp)))
 (ae 170 #[cY] bw (Qp R (oB λt19 dN=>Kp w0 bw dN/\
 Aw dN #[.iface 9 (.string t19)] 20 λfw=>
 ae 154 #[.slice (aB dN) 1 1] fw (Qp R (oB λt22 cX=>Kp w0 fw cX/\
 R (Value.string t22) cX)))))))))))))) [.pointer p7]))))) (ab (some a0) 0)):ae 104 #[a0,a1] w R:=
 Gm bD func104 h
def DP.vc{a0:Addr}{a1:Addr}(h:(λA=>
 ae 156 #[a1] w (Qp R (Rx2 λx1 x2 w0=>Aw w0 #[ai,ai] 139 λw3=>
 Sw w3 w0 #[x1,x2] λw4=>
 ae 153 #[a1] w4 (Qp R (Rt λw5=>Kp w0 w4 w5/\
 fu w5.drew A λp6=>(λAa=>
 aN (eI p6) (aN (eI p6) (fu w5.drew (ab p6 0) λp7=>
 ae 39 #[p7] w5.drew (Qp R (tR λp9 w8=>Kp w0 w5.drew w8/\
 ah w8 (jS w0 1) 0 [x2]/\ah w8 (aB w0) 0 [x1]/\ah w8 A 0 Aa/\ae 134 #[p9,x1,x2] w8 (Qp R (gk λbR bc=>Kp w0 w8 bc/\
 ah bc A 0 Aa/\Aw bc #[.iface 3 (bR)] 20 λbO=>
 ae 154 #[.slice (aB bc) 1 1] bO (Qp R (oB λt14 bw=>Kp w0 bO bw/\
 ah bw A 0 Aa/\R (Value.string t14) bw))))))))) [.pointer p6]))))) (ab (some a0) 0)):ae 105 #[a0,a1] w R:=
 Gm bD func105 h
def BI.vc{a0:Addr}{a1:Addr}(h:
 ae 152 #[a1] w (Qp R (gk λx1 w0=>ae 153 #[a1] w0 (Qp R (Rt λw2=>fu w2 (ab (some a0) 0) λp3=>
 ae 47 #[p3,x1] w2 (Qp R (λe w4=>∃(x5 x6 x7 x8 x9 bM bR cw:Int)(KO V5:Bool),e=Value.tuple #[.agg #[x5,x6,x7,x8,x9,bM,bR,cw,KO],V5]/\
 Aw w4 #[ai,ai,ai,ai,ai,ai,ai,ai,false] 75 λdj=>
 Sw dj w4 #[x5,x6,x7,x8,x9,bM,bR,cw,KO] λcp=>
 Br (!V5)
 (Aw cp #[.iface 9 (.string (ByteArray.mk #[110,111,110,101]))] 20 λcM=>
 ae 154 #[.slice (aB cp) 1 1] cM (Qp R (oB λt19 dN=>Kp w4 cM dN/\
 R (Value.string t19) dN)))
 (Aw cp #[.iface 73 (.agg #[x5,x6,x7]),.iface 73 (.agg #[x8,x9,bM]),.iface 4 (.bool KO)] 20 λfw=>
 ae 154 #[.slice (aB cp) 3 3] fw (Qp R (oB λt22 cX=>Kp w4 fw cX/\
 R (Value.string t22) cX)))))))))):ae 106 #[a0,a1] w R:=
 Gm bD func106 h
def q9.vc{a0:Addr}{a1:Addr}(h:
 ae 153 #[a1] w (Qp R (Rt λw0=>fu w0 (ab (some a0) 0) λp1=>
 ae 41 #[p1] w0 (Qp R (rZ λs3 w2=>po (λI4 n5=>I4 n5 (0) ⟨none,0,0⟩ w2) λI4 n5 us6 x7 s8 w9=>
 Br (decide (x7<((s3.n:Nat):Int)))
 (gJ s3.a x7 s3.n/\jV w9 (ab s3.a ((x7:Int).toNat*1)) λbR=>
 Aw w9 #[.iface 3 (bR)] 20 λbO=>
 aY 16 1 bO s8 1 [.iface 3 (bR)]/\∀(kO:Sl)(cu:World),aT 20 1 bO s8 1 [.iface 3 (bR)] kO cu->Kp w9 bO cu/\
 ∃n10,n10<n5/\I4 n10 ((aC (x7+1))) kO cu)
 (ae 154 #[s8] w9 (Qp R (oB λt16 dj=>R (Value.string t16) dj)))))))):ae 107 #[a0,a1] w R:=
 lg (an:=(anS 4 16 5)) (args:=[.pointer (some a0),.pointer (some a1)]) Tryz.Y6 Tryz.mixed func107 h (by kernel_rfl)
def re.vc{a0:Addr}{a1:Addr}(h:
 ae 153 #[a1] w (Qp R (Rt λw0=>fu w0 (ab (some a0) 0) λp1=>
 aN (eI p1) (aN (eI p1) (fu w0 (ab p1 0) λp2=>
 ae 39 #[p2] w0 (Qp R (tR λp4 w3=>ae 40 #[p4] w3 (Qp R (tR λp6 w5=>ae 42 #[p6] w5 (Qp R (rZ λs8 w7=>po (λI9 n10=>I9 n10 (0) ⟨none,0,0⟩ w7) λI9 n10 azq cw kO cu=>
 Br (decide (cw<((s8.n:Nat):Int)))
 (gJ s8.a cw s8.n/\lY cu (ab s8.a ((cw:Int).toNat*2)) λdz dS=>(λAa=>
 Aw cu #[ai,ai] 139 λdN=>
 Sw dN cu #[dz,dS] λeQ=>
 Aw eQ #[.iface 3 (dz),.iface 3 (dS)] 20 λfw=>
 aY 16 1 fw kO 2 Aa/\∀(Tt:Sl)(dt:World),aT 20 1 fw kO 2 Aa Tt dt->K2 cu eQ fw dt (
 ∃n15,n15<n10/\I9 n15 ((aC (cw+1))) Tt dt)) [.iface 3 (dz),.iface 3 (dS)])
 (ae 154 #[kO] cu (Qp R (oB λt24 je=>R (Value.string t24) je)))))))))))))):ae 108 #[a0,a1] w R:=
 lg (an:=(anS 4 21 5)) (args:=[.pointer (some a0),.pointer (some a1)]) Tryz.Y6 Tryz.mixed func108 h (by kernel_rfl)
def Ci.vc{a0:Addr}{a1:Addr}(h:(λA=>
 ae 152 #[a1] w (Qp R (gk λx1 w0=>ae 153 #[a1] w0 (Qp R (Rt λw2=>Br (x1>=1)
 (ae 54 #[.bool (decide (x1<=100))] w2 (Qp R (Rt λw3=>qH (λI4 n5=>I4 n5 (0) (0) w3) λI4 n5 us6 x7 x8 w9=>
 Br (x7<x1)
 (fu w9 A λIk=>
 ae 50 #[Ik] w9 (Qp R (gk λcN bO=>∃n10,n10<n5/\I4 n10 ((aC (x7+1))) ((aC (x8+cN))) bO)))
 (fu w9 A λTw=>
 aN (eI Tw) (aN (eI Tw) (fu w9 (ab Tw 0) λp15=>
 ae 45 #[p15] w9 (Qp R (gk λdS cp=>Aw cp #[.iface 3 (x8),.iface 3 (dS)] 20 λdN=>
 ae 154 #[.slice (aB cp) 2 2] dN (Qp R (oB λt20 eQ=>R (Value.string t20) eQ))))))))))
 (ae 54 #[false] w2 (Qp R (Rt λcX=>qH (λI22 n23=>I22 n23 (0) (0) cX) λI22 n23 aGz gM nY gN=>
 Br (gM<x1)
 (fu gN A λp29=>
 ae 50 #[p29] gN (Qp R (gk λoU pN=>∃n28,n28<n23/\I22 n28 ((aC (gM+1))) ((aC (nY+oU))) pN)))
 (fu gN A λp32=>
 aN (eI p32) (aN (eI p32) (fu gN (ab p32 0) λBm=>
 ae 45 #[Bm] gN (Qp R (gk λpG ky=>Aw ky #[.iface 3 (nY),.iface 3 (pG)] 20 λox=>
 ae 154 #[.slice (aB ky) 2 2] ox (Qp R (oB λt38 jJ=>R (Value.string t38) jJ))))))))))))))) (ab (some a0) 0)):ae 109 #[a0,a1] w R:=
 lg (an:=⟨[(6,⟨[(19,.int .i64),(6,.int .i64)],[],[]⟩),(6,⟨[(19,.int .i64),(6,.int .i64)],[],[]⟩)],[],[]⟩) (args:=[.pointer (some a0),.pointer (some a1)]) Tryz.Y6 Tryz.mixed func109 h (by kernel_rfl)
def Ha.vc{a0:Addr}(h:
 ae 53 #[a0] w (Qp R (oB λt1 w0=>ae 32 #[.string t1] w0 (Qp R (W8 λx3 b4 w2=>ae 54 #[b4] w2 (Qp R (Rt λw5=>R x3 w5))))))):ae 152 #[a0] w R:=
 Gm bD func152 h
def Hb.vc{a0:Addr}(h:
 lX w (ab (some a0) 0) λs0=>
 ae 54 #[.bool ((((s0.n:Nat):Int):Int)==0)] w (Qp R (Rt λw1=>R pH w1))):ae 153 #[a0] w R:=
 Gm bD func153 h
def Uj.vc{a0:Sl}(h:(λA=>
 po (λI0 n1=>I0 n1 (0) ⟨none,0,0⟩ w) λI0 n1 wZ x3 s4 w5=>(λAa Ab=>
 Br (decide (x3<((a0.n:Nat):Int)))
 (gJ a0.a x3 a0.n/\∃(v7:Value),ld w5 (ab a0.a ((x3:Int).toNat*1))=some (v7)/\
 ∃(t8:TypeId)(v9:Value),(v7:Value)=.iface t8 v9/\Br (t8=3)
 (∃(bM:Int),v9=.int .i64 bM/\
 ae 224 #[bM] w5 (oB λt12 bB=>Aw bB #[.string t12] 9 λbw=>
 aY 16 1 bw s4 1 [.string t12]/\∀(s14:Sl)(dj:World),aT 9 1 bw s4 1 [.string t12] s14 dj->Kp bB bw dj/\
 ∃n6,n6<n1/\I0 n6 Aa s14 dj))
 (∃(t16:TypeId)(v17:Value),(v7:Value)=.iface t16 v17/\Br (t16=9)
 (∃(t18:ByteArray),v17=.string t18/\
 Aw w5 #[.string t18] 9 λeQ=>
 aY 16 1 eQ s4 1 [.string t18]/\∀(xg:Sl)(cX:World),aT 9 1 eQ s4 1 [.string t18] xg cX->Kp w5 eQ cX/\
 ∃n6,n6<n1/\I0 n6 Aa xg cX)
 (∃(t22:TypeId)(v23:Value),(v7:Value)=.iface t22 v23/\Br (t22=168)
 (∃(jR:Int),v23=.int .i64 jR/\
 Br (jR==0)
 (Aw w5 #[.string A] 9 λdL=>
 aY 16 1 dL s4 1 [.string A]/\∀(s26:Sl)(gN:World),aT 9 1 dL s4 1 [.string A] s26 gN->Kp w5 dL gN/\
 ∃n6,n6<n1/\I0 n6 Aa s26 gN)
 (ae 225 #[jR] w5 (oB λt29 jI=>Aw jI #[.string t29] 9 λpN=>
 aY 16 1 pN s4 1 [.string t29]/\∀(s31:Sl)(uu:World),aT 9 1 pN s4 1 [.string t29] s31 uu->Kp jI pN uu/\
 ∃n6,n6<n1/\I0 n6 Aa s31 uu)))
 (∃(t33:TypeId)(v34:Value),(v7:Value)=.iface t33 v34/\Br (t33=73)
 (∃(pG pP mQ:Int),v34=.agg #[pG,pP,mQ]/\
 Aw w5 #[ai,ai,ai] 73 λtN=>
 Sw tN w5 #[pG,pP,mQ] λlN=>
 Aw lN #[.iface 3 (pG),.iface 3 (pP),.iface 3 (mQ)] 20 λnV=>
 ae 154 #[.slice (aB lN) 3 3] nV (oB λt42 kN=>Kp w5 nV kN/\
 Aw kN #[.string t42] 9 λiS=>
 aY 16 1 iS s4 1 [.string t42]/\∀(s44:Sl)(yI:World),aT 9 1 iS s4 1 [.string t42] s44 yI->K2 w5 kN iS yI (
 ∃n6,n6<n1/\I0 n6 Aa s44 yI)))
 (∃(t46:TypeId)(v47:Value),(v7:Value)=.iface t46 v47/\Br (t46=4)
 (∃(b48:Bool),v47=.bool b48/\
 ∀nH,nH=w5.alloc (.map #[] 0)->
 DR 4 Ab nH (.bool true) (1:Int) λX7=>
 ∃(G53:Value->Prop)(kvs54:List (Value × Value)),gR Tryz.prog 4 G53/\bH G53 X7 Ab kvs54/\G53 (.bool b48)/\∃(vR:Int),∃b56:Bool,Gn kvs54 (.bool b48) (0:Int) vR b56/\
 Aw X7 #[.iface 3 (vR)] 20 λpI=>
 ae 154 #[.slice (aB X7) 1 1] pI (oB λt59 CD=>Aw CD #[.string t59] 9 λnX=>
 aY 16 1 nX s4 1 [.string t59]/\∀(s61:Sl)(kz:World),aT 9 1 nX s4 1 [.string t59] s61 kz->Kp CD nX kz/\
 ∃n6,n6<n1/\I0 n6 Aa s61 kz))
 (∃n6,n6<n1/\I0 n6 Aa s4 w5))))))
 (ae 226 #[s4,.string (ByteArray.mk #[32])] w5 (oB λt64 Og=>R (Value.string t64) Og))) ((aC (x3+1))) (some w5.heap.size)) (ByteArray.mk #[111,107])):ae 154 #[a0] w R:=
 cq (anS 3 13 3) func154 h
def wh.vc{a0:Addr}{c0:Addr}(h:
 ae 156 #[a0] w (Qp R (Rx2 λx1 x2 w0=>Aw w0 #[ai,ai] 139 λw3=>
 Sw w3 w0 #[x1,x2] λw4=>
 ae 153 #[a0] w4 (Qp R (Rt λw5=>Kp w0 w4 w5/\
 ∃(v6:Value),ld w5 (some c0)=some (v6)/\
 bu Tryz.prog v6 [.agg #[x1,x2]] w5 (Qp R (gk λx8 w7=>Kp w0 w5 w7/\
 Aw w7 #[.iface 168 (x8)] 20 λw9=>
 ae 154 #[.slice (aB w7) 1 1] w9 (Qp R (oB λt11 bc=>Kp w0 w9 bc/\
 R (Value.string t11) bc))))))))):ae 155 #[a0,c0] w R:=
 Gm bD func155 h
def Hc.vc{a0:Addr}(h:
 Aw w #[ai,ai] 139 λw0=>
 ae 152 #[a0] w0 (Qp R (gk λx2 w1=>Kp w w0 w1/\
 ae 152 #[a0] w1 (Qp R (gk λx4 w3=>Kp w w1 w3/\
 Sw w3 w #[x2,x4] λw5=>
 R (tZ #[x2,x4]) w5))))):ae 156 #[a0] w R:=
 Gm bD func156 h
def He.vc{a0:Addr}(h:
 Aw w #[ai,ai,ai] 73 λw0=>
 ae 152 #[a0] w0 (Qp R (gk λx2 w1=>Kp w w0 w1/\
 ae 152 #[a0] w1 (Qp R (gk λx4 w3=>Kp w w1 w3/\
 ae 152 #[a0] w3 (Qp R (gk λx6 w5=>Kp w w3 w5/\
 Sw w5 w #[x2,x4,x6] λw7=>
 R (tZ #[x2,x4,x6]) w7))))))):ae 166 #[a0] w R:=
 Gm bD func166 h
def acU.vc{a1:Sl}(h:
 Br (a0 !=0)
 (Aw w #[.iface 168 (a0)] 20 λw0=>
 ae 154 #[.slice (aB w) 1 1] w0 (oB λt2 w1=>R (Value.string t2) w1))
 (ae 154 #[a1] w (oB λt4 w3=>R (Value.string t4) w3))):ae 167 #[a0,a1] w R:=
 cq bD func167 h
def Cj.vc{a0:Addr}(h:
 ae 53 #[a0] w (Qp R (oB λt1 w0=>ae 237 #[.string t1] w0 (Qp R (W8 λx3 b4 w2=>ae 54 #[b4] w2 (Qp R (Rt λw5=>R x3 w5))))))):ae 168 #[a0] w R:=
 Gm bD func168 h
def D9.vc{a0:Addr}(h:
 Aw w #[ai,ai,ai] 23 λw0=>
 ae 166 #[a0] w0 (Qp R (zJ λx2 x3 x4 w1=>Kp w w0 w1/\
 Aw w1 #[ai,ai,ai] 73 λw5=>
 Sw w5 w1 #[x2,x3,x4] λw6=>
 Sw w6 w #[x2,x3,x4] λw7=>
 R (tZ #[x2,x3,x4]) w7))):ae 169 #[a0] w R:=
 Gm bD func169 h
def Q5.vc{a0:ByteArray}(h:
 ae 238 #[] w (Rx8 λt1 t2 t3 t4 t5 t6 t7 t8 t9 t10 t11 t12 t13 t14 t15 t16 w0=>uo (λI17 n18=>I17 n18 (0) w0) λI17 n18 azt fk cX=>
 Br (fk<16)
 (((0:Int)<=fk/\fk<((16:Nat):Int))/\∃(t23:ByteArray),([.string t1,.string t2,.string t3,.string t4,.string t5,.string t6,.string t7,.string t8,.string t9,.string t10,.string t11,.string t12,.string t13,.string t14,.string t15,.string t16]:LV)[(fk:Int).toNat*1]? =some (.string t23)/\
 Br (ej t23 a0)
 (Br (!ej a0 (ByteArray.mk #[]))
 (R (eV #[fk,true]) cX)
 (∃n22,n22<n18/\I17 n22 ((aC (fk+1))) cX))
 (∃n22,n22<n18/\I17 n22 ((aC (fk+1))) cX))
 (R (eV #[ai,false]) cX))):ae 237 #[.string a0] w R:=
 cq (Oy 2 7) func237 h
def IW.vc(h:
 R (Ix (a0==32)) w):ae 65 #[.int .i32 a0] w R:=
 cq bD func65 h
def AJ.vc{a0:ByteArray}{a1:ByteArray}(h:
 ae 118 #[.string a0,.string a1] w (aqH λt1 b2 w0=>R (eV #[.string t1,b2]) w0)):ae 66 #[.string a0,.string a1] w R:=
 cq bD func66 h
def mA.vc{a0:ByteArray}{a1:ByteArray}(h:(λA=>
 ae 181 #[.string a0,.string a1] w (CP λb1 w0=>Br (!b1)
 (R (eV #[.string a0,false]) w0)
 ((0:Int)<=A/\A<=(((a0).size:Nat):Int)/\R (eV #[.string ((a0).extract ((A:Int).toNat) ((a0).size)),true]) w0))) (((a1).size:Nat):Int)):ae 118 #[.string a0,.string a1] w R:=
 cq bD func118 h
def mB.vc{a0:ByteArray}{a1:ByteArray}(h:(λA B=>
 Br (decide ((B:Int)>=A))
 ((0:Int)<=A/\A<=B/\R (Ix (ej ((a0).extract (0) ((A:Int).toNat)) a1)) w)
 (R false w)) (((a1).size:Nat):Int) (((a0).size:Nat):Int)):ae 181 #[.string a0,.string a1] w R:=
 cq bD func181 h
def Z3.vc{a0:ByteArray}(h:(λA=>
 Br (decide ((A:Int)>a1))
 ((0:Int)<=a1/\a1<=A/\R (Value.string ((a0).extract (0) ((a1:Int).toNat))) w)
 (R (Value.string a0) w)) (((a0).size:Nat):Int)):ae 20 #[.string a0,a1] w R:=
 cq bD func20 h
def Pe.vc{a0:ByteArray}(h:(λA B=>
 ∃I0:Nat->Int->ByteArray->Sl->wPp,
 (∃n1,I0 n1 (0) (A) ⟨none,0,0⟩ w)/\
 ∀(n1:Nat)(wZ:Nat->Value)(x3:Int)(t4:ByteArray)(s5:Sl)(w6:World),I0 n1 x3 t4 s5 w6->
 Br (decide (x3<B))
 ((0:Int)<=x3/\x3<B/\Br (((((a0).data.toList.getD (x3:Int).toNat 0).toNat:Nat):Int) !=32)
 ((0:Int)<=(aC (x3+1))/\(aC (x3+1))<=B/\(0:Int)<=x3/\x3<=(aC (x3+1))/\(((t4).size+(((a0).extract ((x3:Int).toNat) (((aC (x3+1)):Int).toNat))).size:Nat):Int)<=IntKind.i64.max/\∃n7,n7<n1/\I0 n7 ((aC (x3+1))) ((t4++((a0).extract ((x3:Int).toNat) (((aC (x3+1)):Int).toNat)))) s5 w6)
 (Br (!ej t4 A)
 (Aw w6 #[.string t4] 9 λw8=>
 aY 16 1 w8 s5 1 [.string t4]/\∀(s9:Sl)(bc:World),aT 9 1 w8 s5 1 [.string t4] s9 bc->Kp w6 w8 bc/\
 ∃n7,n7<n1/\I0 n7 ((aC (x3+1))) (A) s9 bc)
 (∃n7,n7<n1/\I0 n7 ((aC (x3+1))) (A) s5 w6)))
 (Br (!ej t4 A)
 (Aw w6 #[.string t4] 9 λbB=>
 aY 16 1 bB s5 1 [.string t4]/\∀(nC:Sl)(bw:World),aT 9 1 bB s5 1 [.string t4] nC bw->Kp w6 bB bw/\
 R nC bw)
 (R s5 w6))) (ByteArray.mk #[]) (((a0).size:Nat):Int)):ae 28 #[.string a0] w R:=
 cq ⟨[(4,⟨[(5,.int .i64),(4,.str),(3,.slice)],[],[]⟩)],[],[]⟩ func28 h
def QG.vc(h:
 ae 29 #[.string (ByteArray.mk #[108,111,97,100,32,48,32,48,10,97,116,32,48,32,48,32,48])] w (oB λt1 w0=>R (Ix (ej t1 (ByteArray.mk #[111,107,10,115,116,111,110,101,10]))) w0)):ae 30 #[] w R:=
 cq bD func30 h
open Go.nK
abbrev sv(t:ByteArray):LV:=[.string t]
def Ua(t:ByteArray):One (sv t):=by intro v hv;simp [sv] at hv;subst hv;rfl
def uC{x y:ByteArray}(h:bl x=bl y):x=y:=by obtain ⟨⟨x⟩⟩:=x;obtain ⟨⟨y⟩⟩:=y;have h:x=y:=h;rw [h]
def qC(s:ByteArray)(i j:Nat):bl (s.extract i j)=((bl s).drop i).take (j-i):=by simp [bl,ByteArray.data_extract,List.extract_eq_take_drop]
def Xj(l:List UInt8):bl ⟨l.toArray⟩=l:=rfl
def aiL{n:Int}(h: -2147483648<=n/\n<=2147483647):IntKind.wrap .i32 n=n:=by unfold IntKind.wrap;simp only [IntKind.bits,IntKind.signed];simp only [oZ];split<;>simp_all<;>omega
def ZD(s:ByteArray)(m:Nat):ByteArray:=if m<s.size then s.extract 0 m else s
def adR(s:ByteArray)(m:Nat):(ZD s m).size<=m:=by
 unfold ZD;split
 ·simp;omega
 ·omega
def adQ(s:ByteArray)(m:Nat)(w:World):kT 20 #[.string s,.int .i64 (m:Nat)] w (Value.string (ZD s m)):=by
 apply Z3.vc;apply Br.mk<;>intro h<;>simp at h
 ·refine ⟨aa,aa,?_,rfl⟩;unfold ZD;rw [if_pos (by omega)];simp
 ·refine ⟨?_,rfl⟩;unfold ZD;rw [if_neg (by omega)]
def Ja(s:ByteArray)(w:World):kT 181 #[.string s,.string (ByteArray.mk #[45])] w (Value.bool (decide ((bl s).head? =some 45))):=by
 apply mB.vc;have hl:=eM s;apply Br.mk<;>intro h
 ·have h:1<=s.size:=by have:=of_decide_eq_true h;have e:(ByteArray.mk #[45]).size=1:=rfl;omega
  refine ⟨aw,by show ((1:Nat):Int)<=_;omega,?_,rfl⟩;congr 2;rw [Bool.eq_iff_iff,eY,decide_eq_true_iff]
  cases hb:bl s with
  |nil=>rw [hb] at hl;simp at hl;omega
  |cons b l=>
   have e1:bl (s.extract 0 1)=[b]:=by rw [qC,hb];rfl
   constructor
   ·intro he;have he:s.extract 0 1=ByteArray.mk #[45]:=he;rw [he] at e1;have e1:[(45:UInt8)]=[b]:=e1;simp at e1;simp [<-e1]
   ·intro he;simp at he;apply uC;show bl (s.extract 0 1)=[45];rw [e1,he]
 ·have h:s.size=0:=by have:=of_decide_eq_false h;have e:(ByteArray.mk #[45]).size=1:=rfl;omega
  refine ⟨?_,rfl⟩;have:bl s=[]:=by apply tj.1;omega
  rw [this];rfl
def Jb(s:ByteArray)(w:World):ae 66 #[.string s,.string (ByteArray.mk #[45])] w λe w'=>∃d,e=Value.tuple #[.string d,.bool (decide ((bl s).head? =some 45))]/\bl d=Oz (bl s)/\w'=w:=by
 have hl:=eM s;apply AJ.vc;have key:ae 118 #[.string s,.string (ByteArray.mk #[45])] w λe w'=>∃d,e=Value.tuple #[.string d,.bool (decide ((bl s).head? =some 45))]/\bl d=Oz (bl s)/\w'=w:=by
  apply mA.vc;refine (Ja s w).gK ?_;refine ⟨_,rfl,Br.mk (λh=> ?_) (λh=> ?_)⟩
  ·simp only [Bool.not_eq_true',fm] at h;refine ⟨s,?_,?_,rfl⟩
   ·rw [decide_eq_false h]
   ·unfold Oz;rw [if_neg h]
  ·simp only [Bool.not_eq_false',cL] at h;have h1:1<=s.size:=by
    cases hb:bl s with
    |nil=>rw [hb] at h;cases h
    |cons b l=>rw [hb] at hl;simp at hl;omega
   refine ⟨aw,by show ((1:Nat):Int)<=_;omega,s.extract 1 s.size,?_,?_,rfl⟩
   ·rw [decide_eq_true h];rfl
   ·rw [qC];unfold Oz;rw [if_pos h];apply dI;simp [hl]
 refine key.mono ?_;rintro _ _ ⟨d,rfl,hd,rfl⟩;exact ⟨_,_,rfl,d,rfl,hd,rfl⟩
def Gi{l:List UInt8}{p:Nat}(hp:p<l.length):l.take (p+1)=l.take p++ [l.getD p 0]:=by rw [dq,dn,cO hp];rfl
def aiM{l:List UInt8}{p:Nat}(hp:p<l.length)(h:¬(48<=(l.getD p 0).toNat/\(l.getD p 0).toNat<=57)):uV l=none:=by
 have h1:uV (l.take (p+1))=none:=by
  rw [Gi hp,Cy];unfold KD
  cases uV (l.take p) with
  |none=>rfl
  |some n=>rw [Option.bind_some,if_neg h]
 have:=Jc h1 (l.drop (p+1));rwa [tn] at this
def Xo{s:ByteArray}(h:uV (Oz (bl s))=none):zT s=(0,false):=by
 unfold zT aiN;split
 ·rfl
 ·rw [h]
def zU{s:ByteArray}(h:(Oz (bl s)).length<1\/15<(Oz (bl s)).length):zT s=(0,false):=by unfold zT aiN;rw [if_pos h]
def adz{s:ByteArray}{n:Int}(h:¬((Oz (bl s)).length<1\/15<(Oz (bl s)).length))(hn:uV (Oz (bl s))=some n):zT s=(if (bl s).head? =some 45 then -n else n,true):=by unfold zT aiN;rw [if_neg h,hn]
def R5(s:ByteArray)(w:World):eU 32 #[.string s] w (Value.tuple #[.int .i64 (zT s).1,.bool (zT s).2]):=by
 apply M3.vc;refine (Jb s w).mono ?_;rintro _ w0 ⟨d,rfl,hd,rfl⟩;refine ⟨d,_,rfl,?_⟩;intro w3 e3;have nE:=eM d;refine ⟨λn x v=>∃p:Nat,p+n=d.size/\v.heap[w0.heap.size]? =some (.stringIter d p)/\uV ((bl d).take p)=some x/\x<1000000000000000/\Ext w0 v,⟨d.size,0,by omega,by rw [e3];show (w0.heap.push _)[w0.heap.size]? =_;simp,rfl,by decide,by rw [e3];exact Ext.al _ _⟩,?_⟩;rintro n5 us6 x7 w8 ⟨p,hp,hit,hx,hxl,x8⟩;have hx0:=(EV _ rfl hx).1;refine ⟨w0.heap.size,d,p,rfl,hit,Br.mk (λh=> ?_) (λh=> ?_)⟩
 ·have h:=of_decide_eq_true h;obtain ⟨-,-,⟨d3,d4⟩,-⟩:=aeS d p h;have hb:=akg d p;intro bw fQ apj;have cN:Ext w0 bw:=Below.trans x8 (fQ.below (ak _));have bad:¬(48<=((bl d).getD p 0).toNat/\((bl d).getD p 0).toNat<=57)->(Ending.returned (.tuple #[ai,false])=Value.tuple #[.int .i64 (zT s).1,.bool (zT s).2]/\Ext w0 bw):=by intro hc;rw [Xo (by rw [<-hd];exact aiM aa hc)];exact ⟨rfl,cN⟩
  refine Br.mk (λh1=> ?_) (λh1=>Br.mk (λh2=> ?_) (λh2=> ?_))
  ·have h1:=of_decide_eq_true h1;apply bad;by_cases c:By d p<128
   ·rw [d3 c] at h1;simp only at h1;omega
   ·have:=d4 aa;omega
  ·have h2:=of_decide_eq_true h2;apply bad;by_cases c:By d p<128
   ·rw [d3 c] at h2;simp only at h2;omega
   ·omega
  ·have h1:=of_decide_eq_false h1;have h2:=of_decide_eq_false h2;have c:By d p<128:=by
    by_cases c:By d p<128
    ·exact c
    ·have:=d4 aa;omega
   rw [d3 c] at h1 h2 apj ⊢;simp only at h1 h2 apj ⊢;have e1:uV ((bl d).take (p+1))=some (x7*10+((By d p:Nat):Int)-48):=by rw [Gi aa,Cy,hx];unfold KD;rw [Option.bind_some,if_pos aa,<-hb]
   have e2:aC ((aC (x7*10))+(aC (IntKind.wrap .i32 (((By d p:Nat):Int)-48))))=x7*10+((By d p:Nat):Int)-48:=by rw [aiL aa,aK (n:=x7*10) (by unfold cT;omega),aK (n:=((By d p:Nat):Int)-48) (by unfold cT;omega),wI];omega
   rw [e2];apply Br.mk<;>intro h3
   ·have h3:=of_decide_eq_true h3;have db:((bl d).take (p+1)).length=p+1:=by rw [cK];omega
    have yJ:=(EV _ db e1).2;have:15<p+1:=by
     apply C2;intro hle;have:(10:Int) ^(p+1)<=10 ^ 15:=by have:=Nat.pow_le_pow_right (n:=10) aw hle;exact_mod_cast this
     omega
    rw [zU (by rw [<-hd];right;omega)];exact ⟨rfl,cN⟩
   ·have h3:=of_decide_eq_false h3;exact ⟨n5-1,by omega,p+1,by omega,apj,e1,by omega,cN⟩
 ·have h:=of_decide_eq_false h;have hpe:p=d.size:=by omega
  rw [hpe,dI aa] at hx;refine Br.mk (λh1=> ?_) (λh1=>Br.mk (λh2=> ?_) (λh2=> ?_))
  ·rw [eY] at h1;rw [zU (by rw [<-hd,h1];left;decide)];exact ⟨rfl,x8⟩
  ·have h2:=of_decide_eq_true h2;rw [zU (by rw [<-hd];right;omega)];exact ⟨rfl,x8⟩
  ·have h2:=of_decide_eq_false h2;have fA:d≠ByteArray.mk #[]:=λh=>by rw [(eY _ _).2 h] at h1;cases h1
   have hd1:1<=d.size:=by apply C2;intro h0;apply fA;apply uC;show bl d=[];apply tj.1;omega
   rw [adz (n:=x7) (by rw [<-hd];omega) (by rw [<-hd];exact hx)];apply Br.mk<;>intro h3
   ·have h3:=of_decide_eq_true h3;rw [if_pos h3,wI];exact ⟨by rw [Int.zero_sub],x8⟩
   ·have h3:=of_decide_eq_false h3;rw [if_neg h3];exact ⟨rfl,x8⟩
open Go.Code
def ahw(s:ByteArray){a p:Nat}(h:a<=p):s.extract a p++s.extract p (p+1)=s.extract a (p+1):=by apply uC;rw [Bw,qC,qC,qC,show p+1-a=(p-a)+1 by omega,List.take_add,List.drop_drop,show a+(p-a)=p by omega,show p+1-p=1 by omega]
def ahx(x:ByteArray):ByteArray.empty++x=x:=by apply uC;rw [Bw];rfl
def EM{s:ByteArray}{p:Nat}(hp:p<=s.size):dX s p=ByteArray.mk #[] ↔(uD s p).1=none:=by
 unfold dX
 cases h:(uD s p).1 with
 |none=>exact ⟨λ_=>rfl,λ_=>rfl⟩
 |some a=>
  have:=T9 s p h;refine ⟨λe=> ?_,λe=>by cases e⟩;have e:bl (s.extract a p)=[]:=congrArg bl e;rw [qC] at e;have e:=congrArg List.length e;rw [cK,qe,eM] at e;simp only [kX] at e;omega
def WL{s:ByteArray}{p:Nat}(h:By s p≠32):dX s (p+1)=dX s p++s.extract p (p+1)/\nL s (p+1)=nL s p:=by
 have e:uD s (p+1)=(some ((uD s p).1.getD p),(uD s p).2):=by show tk s p (uD s p)=_;unfold tk;rw [if_neg h]
 refine ⟨?_,by unfold nL;rw [e]⟩;unfold dX;rw [e];simp only
 cases q:(uD s p).1 with
 |none=>exact (ahx _).symm
 |some a=>exact (ahw s (Nat.le_of_lt (T9 s p q))).symm
def WM{s:ByteArray}{p:Nat}(h:By s p=32):dX s (p+1)=ByteArray.mk #[]/\nL s (p+1)=nL s p++(match (uD s p).1 with|some a=> [s.extract a p]|none=> []):=by
 have e:uD s (p+1)=tk s p (uD s p):=rfl;unfold tk at e;rw [if_pos h] at e;unfold dX nL;rw [e]
 cases q:(uD s p).1 with
 |none=>simp;rfl
 |some a=>simp;rfl
def WN(s:ByteArray):∀p,(nL s p).length<=p
 |0=>ak _
 |p+1=>by
  have ih:=WN s p
  by_cases h:By s p=32
  ·rw [(WM h).2,bY]
   split<;>simp<;>omega
  ·rw [(WL h).2];omega
def acy(s:ByteArray):cc s=nL s s.size++(match (uD s s.size).1 with|some a=> [s.extract a s.size]|none=> []):=acz s
def Pd(s:ByteArray)(w:World)(hs:s.size<=4294967296):ae 28 #[.string s] w λe w'=>∃sl:Sl,e=Value.slice sl.a sl.n sl.c/\ar w 9 1 w' sl ((cc s).map sv)/\Ext w w':=by
 apply Pe.vc;have own_sz:∀p,p<=s.size->(dX s p).size<=s.size:=by
  intro p hp;unfold dX;split
  ·rw [<-eM,qC,cK,qe,eM];omega
  ·exact dU _
 refine ⟨λn x t sl v=>∃p:Nat,x=(p:Int)/\p+n=s.size/\t=dX s p/\ar w 9 1 v sl ((nL s p).map sv)/\Ext w v,⟨s.size,0,rfl,aa,rfl,ar.nil,Ext.bU _⟩,?_⟩;rintro n1 wZ x3 t4 s5 w6 ⟨p,rfl,hp,rfl,ho,x6⟩;have hn:s5.n=(nL s p).length:=by rw [(ar.rd ho aw).n,aJ]
 have hol:=WN s p;have push:∀t:ByteArray,∀v:World,v=w6.alloc (.cells #[.string t] 9)->
   aY 16 1 v ⟨s5.a,s5.n,s5.c⟩ 1 [.string t]/\∀(s9:Sl)(bc:World),aT 9 1 v ⟨s5.a,s5.n,s5.c⟩ 1 [.string t] s9 bc->
    bc.heap[w6.heap.size]? =v.heap[w6.heap.size]?/\ar w 9 1 bc s9 ((nL s p++ [t]).map sv)/\Ext w bc:=by
  rintro t v rfl;obtain ⟨a1,a2⟩:=ho.kU (bytes:=16) (news:=sv t) (.cells #[.string t] 9) x6.size rfl (Ua t) aa aa;refine ⟨a1,λs9 bc hr=> ?_⟩;obtain ⟨b1,b2,b3,b4,-⟩:=a2 s9 bc hr;exact ⟨b1,by rw [bS];exact b2,Below.trans x6 b4⟩
 apply Br.mk<;>intro h
 ·have h:=of_decide_eq_true h;have hb:((s.data.toList.getD p 0).toNat)=By s p:=(akg s p).symm;refine ⟨aa,h,?_⟩;simp only [gZ];rw [hb,aK (n:=(p:Int)+1) inO];apply Br.mk<;>intro c
  ·have c:By s p≠32:=λhc=>by rw [hc] at c;cases c
   obtain ⟨g1,g2⟩:=WL c;refine ⟨aa,aa,aa,aa,?_,n1-1,aa,p+1,aa,aa,?_,by rw [g2];exact ho,x6⟩
   ·have e3:IntKind.i64.max=9223372036854775807:=by decide
    have:=own_sz p aa;have:(s.extract p ((p:Int)+1).toNat).size<=s.size:=by rw [<-eM,qC,cK,qe,eM];omega
    rw [e3];omega
   ·rw [g1,show ((p:Int)+1).toNat=p+1 by omega]
  ·have c:By s p=32:=by
    apply Classical.byContradiction;intro hc;have:(((By s p:Nat):Int) !=32)=true:=by simpa using (by omega:¬((By s p:Nat):Int)=32)
    rw [this] at c
    cases c
   obtain ⟨g1,g2⟩:=WM c;apply Br.mk<;>intro d
   ·have d:¬(uD s p).1=none:=λhd=>by rw [(eY _ _).2 ((EM aa).2 hd)] at d;cases d
    obtain ⟨a,ha⟩:∃a,(uD s p).1=some a:=Option.ne_none_iff_exists'.1 d;rw [ha] at g2
    try simp only at g2
    have eo:dX s p=s.extract a p:=by unfold dX;rw [ha]
    intro w8 e8;obtain ⟨k1,k2⟩:=push (dX s p) w8 e8;refine ⟨k1,λs9 bc hr=> ?_⟩;obtain ⟨k3,k4,k5⟩:=k2 s9 bc hr;exact ⟨k3,n1-1,aa,p+1,aa,aa,g1.symm,by rw [g2,<-eo];exact k4,k5⟩
   ·have d:(uD s p).1=none:=(EM aa).1 ((eY _ _).1 (by simpa using d));rw [d,mX] at g2;exact ⟨n1-1,aa,p+1,aa,aa,g1.symm,by rw [g2];exact ho,x6⟩
 ·have h:=of_decide_eq_false h;obtain rfl:p=s.size:=by omega
  have e:=acy s;apply Br.mk<;>intro d
  ·have d:¬(uD s s.size).1=none:=λhd=>by rw [(eY _ _).2 ((EM (ak _)).2 hd)] at d;cases d
   obtain ⟨a,ha⟩:∃a,(uD s s.size).1=some a:=Option.ne_none_iff_exists'.1 d;rw [ha] at e
   try simp only at e
   have eo:dX s s.size=s.extract a s.size:=by unfold dX;rw [ha]
   intro w8 e8;obtain ⟨k1,k2⟩:=push (dX s s.size) w8 e8;refine ⟨k1,λs9 bc hr=> ?_⟩;obtain ⟨k3,k4,k5⟩:=k2 s9 bc hr;exact ⟨k3,s9,rfl,by rw [e,<-eo];exact k4,k5⟩
  ·have d:(uD s s.size).1=none:=(EM (ak _)).1 ((eY _ _).1 (by simpa using d));rw [d,mX] at e;exact ⟨s5,rfl,by rw [e];exact ho,x6⟩
end Go.Proofs.YtjcnjlaelhdjeaaGreatDoor
