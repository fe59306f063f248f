import Derived.Test.YtkkkfkopcfdmaaaGreatDoorD
import Derived.Test.YtkkkfkopcfdmaaaGreatDoorC
set_option linter.all false
namespace Go.Proofs.YtkkkfkopcfdmaaaGreatDoor
open Go Go.Vc Go.RowKit Go.Proofs Go.dJ Go.bj
abbrev tn:TypeId:=277
abbrev Aj:TypeId:=217
abbrev Ak:TypeId:=143
abbrev cC:TypeId:=150
abbrev Yc:TypeId:=137
theorem Be{a:Addr}{K:Prop}(h:K):aP (dv (some a)) K:=h
theorem RS(p:Po)(w:World):ah 72 #[pv p] w λe w'=>e=Value.tuple #[(BL p),.bool (decide (sM p))]/\Ext w w':=by
 apply X4.vc;intro w0 e0;have x0:=aL e0;have no:¬sM p->Ending.returned (.tuple #[aa,false])=Ending.returned (.tuple #[(BL p),.bool (decide (sM p))])/\Ext w w0:=λh=>⟨by rw [ace h,decide_eq_false h],x0⟩
 refine Br.mk (λh=>no ?_) (λh=>Br.mk (λh2=>no ?_) (λh2=>Br.mk (λh3=>no ?_) (λh3=>Br.mk (λh4=>no ?_) (λh4=> ?_))))<;>simp only [cQ,fa] at*
 ·unfold sM;omega
 ·unfold sM;omega
 ·unfold sM;omega
 ·unfold sM;omega
 ·have oq:sM p:=by unfold sM;omega
  refine ⟨?_,x0⟩;rw [decide_eq_true oq,aK (n:=p.1+524288) (by unfold inI;omega),aK (n:=(p.1+524288)*2) (by unfold inI;omega),aK (n:=(p.1+524288)*2*524288) (by unfold inI;omega),aK (n:=(p.1+524288)*2*524288+p.2) (by unfold inI;omega),aK (n:=(p.1+524288)*2*524288+p.2+524288) (by unfold inI;omega),aK (n:=(p.1+524288)*2*524288+p.2+524288+1) (by unfold inI;omega)];unfold BL;rw [if_pos oq,show (p.1+524288)*2*524288+p.2+524288+1=(p.1+524288)*1048576+(p.2+524288)+1 by omega]
def xk(p:Po):Po:=(cH p.1 5-2,cH p.2 5-2)
theorem Tj(p:Po)(hp:inI p.1/\inI p.2)(w:World):ah 51 #[pv p] w λe w'=>e=(pv (xk p))/\Ext w w':=by apply Uj.vc;have h1:=c9 p.1 5 aF;have h2:=c9 p.2 5 aF;intro w0 e0 w1 e1;have z0:=eG e0;have x1:Ext w w1.drew:=((aL e0).bn e1).drew;have hb:Row w1.drew w [p.1,p.2] WS:=((by rw [e0];exact Row.new w [_,_] _:Row w0 w [p.1,p.2] WS).ext (aL e1)).ext (Ext.dr _);refine (gD p.1 5 w1.drew hp.1 aF (by unfold inI;omega)).mono ?_;rintro e w2 ⟨rfl,rfl⟩;refine ⟨_,rfl,rfl,rfl,hb.bZ (λj hj=>by simp at hj;subst hj;rfl),(gD p.2 5 w1.drew hp.2 aF (by unfold inI;omega)).mono ?_⟩;rintro e w2 ⟨rfl,rfl⟩;refine ⟨_,rfl,rfl,rfl,λw6 e6=>⟨?_,x1.ae e6 ab⟩⟩;have q1:aj (cH p.1 5-2)=cH p.1 5-2:=wI;have q2:aj (cH p.2 5-2)=cH p.2 5-2:=wI;rw [q1,q2];rfl
def GI(v:Value):Prop:=∃n:Int,v=.int .i64 n
theorem Jg:iF Tryz.prog IN GI:=by
 refine ⟨?_,?_,?_⟩
 ·rintro x y ⟨a,rfl⟩ ⟨b,rfl⟩;refine ⟨a==b,by kernel_rfl,?_⟩;simp
 ·rintro x ⟨a,rfl⟩ b w;kernel_rfl
 ·rintro x ⟨a,rfl⟩;simp [Instr.sameBits]
theorem Vi{P:Program}{w:World}{r:Nat}{es:Array MapEntry}{clock:Nat}(t:TypeId)(hb:w.heap[r]? =some (.map es clock)):
  (Extern.MapsClone.clone #[.iface t (.map (some r))]).run P w=.ok (.iface t (.map (some w.heap.size))) (w.alloc (.map es clock)):=by
 have e:Extern.MapsClone.clone #[.iface t (.map (some r))]=(getObj r>>=λo=>match o with
   | .map entries clock=>(newObj (.map entries clock)>>=λn=>pure (.iface t (.map (some n))))
   |_=>stuck "maps.clone: a map expected"):=rfl
 rw [e];simp [oh hb,jM,Result.andThen,Sem.run_bind]
theorem Ee{w:World}{r:Nat}{kvs:List (Value × Value)}(hm:cl GI w (some r) kvs):ah 272 #[.map (some r)] w λe w'=>e=Value.map (some w.heap.size)/\cl GI w' (some w.heap.size) kvs/\Ext w w':=by apply B0.vc;refine Br.mk (λh=>by cases h) (λ_=> ?_);obtain ⟨es,clock,hb,h2⟩:=hm;refine ⟨Extern.MapsClone.clone,⟨_,Tryz.func298,by kernel_rfl,by kernel_rfl,by kernel_rfl⟩,_,_,Vi _ hb,_,rfl,_,rfl,rfl,⟨es,clock,World.alloc_heap_new w _,h2⟩,Ext.al w _⟩
set_option maxRecDepth 100000
set_option maxHeartbeats 8000000
set_option linter.unusedVariables false
variable {R:Ending->World->Prop} {w:World} {a0 a1 a2 a3 a4 a5 a6 a7 a8 a9 aA aq au aS aT aW bM bG bH Cr ak ao aw bz bT bR eW eX eD Cs bq bA bo wL wM uS uT wN wO wP Ct Cu Cv Cw Cx Cy Cz CA CB CC:Int}
theorem Ai.vc{a0:Addr}(h:
 ∃(x0:Int),ld w (af (some a0) 2)=some (.int .i64 x0)/\
 Br (x0>0)
 (∃(x1:Int),ld w (af (some a0) 2)=some (.int .i64 x1)/\
 (true=true/\Wr w (af (some a0) 2) 1)/\(∀w2,w2=aH w (af (some a0) 2) [(aj (x1-1))]->
 R false w2))
 (∃(x3:Int),ld w (af (some a0) 1)=some (.int .i64 x3)/\
 Br (x3>0)
 (∃(x4:Int),ld w (af (some a0) 1)=some (.int .i64 x4)/\
 (true=true/\Wr w (af (some a0) 1) 1)/\(∀w5,w5=aH w (af (some a0) 1) [(aj (x4-1))]->
 R (Value.bool (decide (x3>0))) w5))
 (R (Value.bool (decide (x3>0))) w))):ah 227 #[a0] w R:=
 cq bV Tryz.func227 h
theorem Gq.vc{a0:Addr}{a2:Sl}(h:
 ah 227 #[a0] w (λe w0=>∃(b1:Bool),e=b1/\
 Br b1
 (R (9:Int) w0)
 (ah 228 #[a0] w0 (λe w2=>∃(m3:Option Nat),e=Value.map m3/\
 ∃(x4:Int),ld w2.drew (af (some a0) 0)=some (.int .i64 x4)/\
 (ah 229 #[.map m3] w2.drew (λe w5=>∃(x6:Int),e=x6/\
 ag w5 (af (some a0) 0) 0 [x4]/\∃(G7:Value->Prop)(kvs8:List (Value × Value)),iF Tryz.prog 3 G7/\cl G7 w5 m3 kvs8/\G7 a1/\∃(s9:Sl),∃b10:Bool,Gi kvs8 a1 (.slice none 0 0) s9 b10/\
 ag w5 (af (some a0) 0) 0 [x4]/\Br (decide (((aj (x6-((s9.n:Nat):Int))):Int)>(aj (x4-((a2.n:Nat):Int)))))
 (R (8:Int) w5)
 (∃(AP:Sl),ld w5.drew (af (some a0) 4)=some (.slice AP.a AP.n AP.c)/\
 ah 230 #[a2] w5.drew (λe cR=>∃(wS:Sl),e=wS/\
 ag cR (af (some a0) 4) 0 [AP]/\Aw cR #[a1,wS] 279 λbP=>
 ba 32 2 bP AP 1 [a1,wS]/\∀(lj:Sl)(cJ:World),aV 279 2 bP AP 1 [a1,wS] lj cJ->Kp cR bP cJ/\
 (true=true/\Wr cJ (af (some a0) 4) 1)/\bD (af (some a0) 4)≠some cR.heap.size/\(∀cL,cL=aH cJ (af (some a0) 4) [lj]->
 R (0:Int) cL)))))/\(∃(G18:Value->Prop)(kvs19:List (Value × Value)),iF Tryz.prog 3 G18/\cl G18 w2.drew m3 kvs19/\G18 a1/\∃(uB:Sl),∃Kc:Bool,Gi kvs19 a1 (.slice none 0 0) uB Kc/\
 ag w2.drew (af (some a0) 0) 0 [x4]/\ah 229 #[.map m3] w2.drew (λe dT=>∃(dz:Int),e=dz/\
 ag dT (af (some a0) 0) 0 [x4]/\Br (decide (((aj (dz-((uB.n:Nat):Int))):Int)>(aj (x4-((a2.n:Nat):Int)))))
 (R (8:Int) dT)
 (∃(rN:Sl),ld dT.drew (af (some a0) 4)=some (.slice rN.a rN.n rN.c)/\
 ah 230 #[a2] dT.drew (λe cU=>∃(Oi:Sl),e=Oi/\
 ag cU (af (some a0) 4) 0 [rN]/\Aw cU #[a1,Oi] 279 λeH=>
 ba 32 2 eH rN 1 [a1,Oi]/\∀(N9:Sl)(dR:World),aV 279 2 eH rN 1 [a1,Oi] N9 dR->Kp cU eH dR/\
 (true=true/\Wr dR (af (some a0) 4) 1)/\bD (af (some a0) 4)≠some cU.heap.size/\(∀fu,fu=aH dR (af (some a0) 4) [N9]->
 R (0:Int) fu))))))))):ah 164 #[a0,a1,a2] w R:=
 cq bV Tryz.func164 h
theorem Ex.vc{a0:Addr}(h:
 ah 227 #[a0] w (λe w0=>∃(b1:Bool),e=b1/\
 Br b1
 (R (9:Int) w0)
 (ah 228 #[a0] w0 (λe w2=>∃(m3:Option Nat),e=Value.map m3/\
 (true=true/\Wr w2 (af (some a0) 3) 1)/\(∀w4,w4=aH w2 (af (some a0) 3) [.map m3]->
 (true=true/\Wr w4 (af (some a0) 4) 1)/\(∀w5,w5=aH w4 (af (some a0) 4) [.slice none 0 0]->
 R (0:Int) w5)))))):ah 165 #[a0] w R:=
 cq bV Tryz.func165 h
theorem US.vc{a0:Sl}(h:
 ∃I0:Nat->Int->Sl->World->Prop,
 (∃n1,I0 n1 ((aj (a2-1))) a0 w)/\
 ∀(n1:Nat)(wX:Nat->Value)(x3:Int)(s4:Sl)(w5:World),I0 n1 x3 s4 w5->
 Br (x3>=0)
 (aP (ngC (aj (8*x3))) (Aw w5 #[.int .u8 (eY ((a1:Int).fdiv (2 ^(min ((aj (8*x3)):Int).toNat 64))))] 5 λw7=>
 ba 1 1 w7 s4 1 [.int .u8 (eY ((a1:Int).fdiv (2 ^(min ((aj (8*x3)):Int).toNat 64))))]/\∀(s8:Sl)(w9:World),aV 5 1 w7 s4 1 [.int .u8 (eY ((a1:Int).fdiv (2 ^(min ((aj (8*x3)):Int).toNat 64))))] s8 w9->Kp w5 w7 w9/\
 ∃n6,n6<n1/\I0 n6 ((aj (x3-1))) s8 w9))
 (R s4 w5)):ah 224 #[a0,a1,a2] w R:=
 cq ⟨[(2,⟨[(7,.int .i64),(0,.slice)],[],[]⟩)],[],[]⟩ Tryz.func224 h
theorem Qc.vc{a0:Sl}(h:
 ∃I0:Nat->Int->Int->World->Prop,
 (∃n1,I0 n1 (0) (0) w)/\
 ∀(n1:Nat)(wX:Nat->Value)(x3 x4:Int)(w5:World),I0 n1 x3 x4 w5->
 Br (decide (x3<((a0.n:Nat):Int)))
 (eo a0.a x3 a0.n/\∃(x7:Int),ld w5 (af a0.a ((x3:Int).toNat*1))=some (.int .u8 x7)/\
 ∃n6,n6<n1/\I0 n6 ((aj (x3+1))) ((Kr .i64 (aj (x4*2 ^(min (8:Int).toNat 64))) (aj x7))) w5)
 (R x4 w5)):ah 247 #[a0] w R:=
 cq ⟨[(3,⟨[(8,.int .i64),(3,.int .i64)],[],[]⟩)],[],[]⟩ Tryz.func247 h
theorem LS.vc{a1:Sl}(h:
 Br (a0<1)
 (R (Value.tuple #[.slice none 0 0,(1:Int)]) w)
 (Br (a0>1073741824)
 (R (Value.tuple #[.slice none 0 0,(1:Int)]) w)
 (Br (decide ((((a1.n:Nat):Int):Int)>65536))
 (R (Value.tuple #[.slice none 0 0,(1:Int)]) w)
 (ah 224 #[.slice none 0 0,a0,(4:Int)] w (λe w0=>∃(s1:Sl),e=s1/\
 ah 224 #[s1,((a1.n:Nat):Int),(3:Int)] w0 (λe w2=>∃(s3:Sl),e=s3/\
 Aw w2 #[s3,a1] 62 λw4=>
 ah 226 #[.slice (some ⟨w2,0,none⟩) 2 2] w4 (λe w5=>∃(s6:Sl),e=s6/\
 ah 225 #[s6] w5 (λe w7=>∃(s8:Sl),e=s8/\
 R (Value.tuple #[s8,aa]) w7)))))))):ah 163 #[a0,a1] w R:=
 cq bV Tryz.func163 h
theorem Av.vc{a0:Addr}{a2:Sl}(h:
 ah 132 #[a1] w (λe w0=>∃(b1:Bool),e=b1/\
 Br (!b1)
 (R (1:Int) w0)
 (ah 133 #[a0,a1] w0 (λe w2=>∃(x3 x4:Int)(s5:Sl),e=Value.agg #[x3,x4,s5]/\
 Aw w2 #[aa,aa,.slice none 0 0] 202 λw6=>
 Sw w6 w2 #[x3,x4,s5] λw7=>
 ah 163 #[(aj (x4+1)),a2] w7 (λe w8=>∃(s9:Sl)(bh:Int),e=Value.tuple #[s9,bh]/\Kp w2 w7 w8/\
 Br (bh !=0)
 (R bh w8)
 (∃(WB:Option Addr),ld w8.drew (af (af (some a0) 0) 0)=some (.pointer WB)/\
 ah 164 #[WB,(ky .i64 x3 1),s9] w8.drew (Ri λcm cR=>Kp w2 w8.drew cR/\
 ag cR (some ⟨w2,0,none⟩) 0 [x3]/\Br (cm !=0)
 (R cm cR)
 (∃(p14:Option Addr),ld cR (af (af (some a0) 0) 0)=some (.pointer p14)/\
 ah 165 #[p14] cR (Ri λcD eA=>Kp w2 cR eA/\
 R cD eA))))))))):ah 115 #[a0,a1,a2] w R:=
 cq bV Tryz.func115 h
theorem Ca.vc{a0:Addr}(h:
 Aw w #[aa,aa,.slice none 0 0] 202 λw0=>
 Aw w0 #[aa,aa,.slice none 0 0] 202 λw1=>
 Sw w1 w0 #[(aj ((aj (2*a1))+1)),aa,.slice none 0 0] λw2=>
 ∃I3:Nat->Int->Int->Int->Sl->World->Prop,
 (∃n4,aO [aa,aa,.slice none 0 0]/\I3 n4 (0) ((aj ((aj (2*a1))+1))) (0) ⟨none,0,0⟩ w2)/\
 ∀(n4:Nat)(us5:Nat->Value)(x6 x7 x8:Int)(s9:Sl)(bO:World),I3 n4 x6 x7 x8 s9 bO->
 Br (x6<2)
 (((0:Int)<=x6/\x6<((2:Nat):Int))/\∃(bN:Int),([(aj (2*a1)),(aj ((aj (2*a1))+1))]:LV)[(x6:Int).toNat*1]? =some (.int .i64 bN)/\
 ∃(Nx:Option Addr),ld bO (af (af (some a0) 0) 0)=some (.pointer Nx)/\
 ah 182 #[Nx,bN] bO (λe bP=>∃(lj:Sl)(b16:Bool),e=Value.tuple #[lj,b16]/\K2 w w0 bO bP (
 ah 183 #[lj] bP (λe cL=>∃(cp:Int)(Wa:Sl)(cW:Int),e=Value.tuple #[cp,Wa,cW]/\K2 w w0 bP cL (
 Br (cW==0)
 (Br (cp>x8)
 (Sw cL w0 #[bN,cp,Wa] λeK=>
 ∃sb,sb<n4/\aO [aa,aa,.slice none 0 0]/\I3 sb ((aj (x6+1))) bN cp Wa eK)
 (∃sb,sb<n4/\aO [aa,aa,.slice none 0 0]/\I3 sb ((aj (x6+1))) x7 x8 s9 cL))
 (∃sb,sb<n4/\aO [aa,aa,.slice none 0 0]/\I3 sb ((aj (x6+1))) x7 x8 s9 cL))))))
 (Sw bO w #[x7,x8,s9] λdT=>
 R (Value.agg #[x7,x8,s9]) dT)):ah 133 #[a0,a1] w R:=
 cq ⟨[(3,⟨[(23,.int .i64)],[(1,[.int .i64,.int .i64,.slice])],[]⟩)],[],[]⟩ Tryz.func133 h
theorem aca.vc{a0:Sl}(h:
 ah 269 #[a0] w (λe w0=>∃(x1:Int),e=Value.int .u16 x1/\
 ah 270 #[.int .u16 x1] w0 (λe w2=>∃(x3 x4:Int),e=Value.agg #[.int .u8 x3,.int .u8 x4]/\
 Aw w2 #[.int .u8 0,.int .u8 0] 321 λw5=>
 Wt w5 ⟨w2,0,none⟩ 2/\(∀w6,w6=aH w5 (some ⟨w2,0,none⟩) [.int .u8 x3,.int .u8 x4]->
 Aw w6 #[a0,.slice (aJ (some ⟨w2,0,none⟩) (0) (2) 1) (2-0) (2-0)] 62 λw7=>
 ah 226 #[.slice (some ⟨w6,0,none⟩) 2 2] w7 (λe w8=>∃(s9:Sl),e=s9/\
 R s9 w8))))):ah 225 #[a0] w R:=
 cq bV Tryz.func225 h
theorem YN.vc{a0:Sl}(h:
 Br (decide ((((a0.n:Nat):Int):Int)>=2))
 (ah 269 #[a0] w (λe w0=>∃(x1:Int),e=Value.int .u16 x1/\
 R (Value.bool (x1==0)) w0))
 (R false w)):ah 281 #[a0] w R:=
 cq bV Tryz.func281 h
theorem agp.vc{a0:Sl}(h:
 ah 296 #[] w (λe w0=>∃(x1:Int),e=Value.int .u16 x1/\
 ah 297 #[.int .u16 x1,a0] w0 (λe w2=>∃(x3:Int),e=Value.int .u16 x3/\
 R (Value.int .u16 x3) w2))):ah 269 #[a0] w R:=
 cq bV Tryz.func269 h
theorem Cb.vc(h:
 Aw w #[.int .u8 0,.int .u8 0] 321 λw0=>
 Wt w0 ⟨w,0,none⟩ 2/\(∀w1,w1=aH w0 w [.int .u8 (eY ((a0:Int).fdiv (2 ^(min (8:Int).toNat 16)))),.int .u8 (eY a0)]->
 ∃(x2 x3:Int),ag w1 w 0 [.int .u8 x2,.int .u8 x3]/\
 R (Value.agg #[.int .u8 x2,.int .u8 x3]) w1)):ah 270 #[.int .u16 a0] w R:=
 cq bV Tryz.func270 h
theorem UT.vc(h:
 R (Value.int .u16 65535) w):ah 296 #[] w R:=
 cq bV Tryz.func296 h
theorem Ey.vc{a1:Sl}(h:
 ah 310 #[] w (λe w0=>∃(x1 x2 x3 x4 x5 x6 x7 x8 x9 bh bC bN cm bX cA cD:Int),e=Value.agg #[.int .u16 x1,.int .u16 x2,.int .u16 x3,.int .u16 x4,.int .u16 x5,.int .u16 x6,.int .u16 x7,.int .u16 x8,.int .u16 x9,.int .u16 bh,.int .u16 bC,.int .u16 bN,.int .u16 cm,.int .u16 bX,.int .u16 cA,.int .u16 cD]/\
 Aw w0 #[.int .u16 0,.int .u16 0,.int .u16 0,.int .u16 0,.int .u16 0,.int .u16 0,.int .u16 0,.int .u16 0,.int .u16 0,.int .u16 0,.int .u16 0,.int .u16 0,.int .u16 0,.int .u16 0,.int .u16 0,.int .u16 0] 358 λcL=>
 Wt cL ⟨w0,0,none⟩ 16/\(∀dG,dG=aH cL (some ⟨w0,0,none⟩) [.int .u16 x1,.int .u16 x2,.int .u16 x3,.int .u16 x4,.int .u16 x5,.int .u16 x6,.int .u16 x7,.int .u16 x8,.int .u16 x9,.int .u16 bh,.int .u16 bC,.int .u16 bN,.int .u16 cm,.int .u16 bX,.int .u16 cA,.int .u16 cD]->
 ∃I19:Nat->Int->Int->World->Prop,
 (∃Q3,I19 Q3 (0) a0 dG)/\
 ∀(Q3:Nat)(arE:Nat->Value)(dN dz:Int)(fZ:World),I19 Q3 dN dz fZ->
 Br (decide (dN<((a1.n:Nat):Int)))
 (eo a1.a dN a1.n/\∃(fy:Int),ld fZ (af a1.a ((dN:Int).toNat*1))=some (.int .u8 fy)/\
 (0:Int)<=(ky .u16 ((dz:Int).fdiv (2 ^(min (12:Int).toNat 16))) (mw ((fy:Int).fdiv (2 ^(min (4:Int).toNat 8)))))/\((ky .u16 ((dz:Int).fdiv (2 ^(min (12:Int).toNat 16))) (mw ((fy:Int).fdiv (2 ^(min (4:Int).toNat 8))))):Int)<((16:Nat):Int)/\∃(fE:Int),ld fZ (af (some ⟨w0,0,none⟩) (((ky .u16 ((dz:Int).fdiv (2 ^(min (12:Int).toNat 16))) (mw ((fy:Int).fdiv (2 ^(min (4:Int).toNat 8))))):Int).toNat*1))=some (.int .u16 fE)/\
 (0:Int)<=(ky .u16 (((ky .u16 (mw (dz*2 ^(min (4:Int).toNat 16))) fE):Int).fdiv (2 ^(min (12:Int).toNat 16))) (mw (nL .u8 fy 15)))/\((ky .u16 (((ky .u16 (mw (dz*2 ^(min (4:Int).toNat 16))) fE):Int).fdiv (2 ^(min (12:Int).toNat 16))) (mw (nL .u8 fy 15))):Int)<((16:Nat):Int)/\∃(g7:Int),ld fZ (af (some ⟨w0,0,none⟩) (((ky .u16 (((ky .u16 (mw (dz*2 ^(min (4:Int).toNat 16))) fE):Int).fdiv (2 ^(min (12:Int).toNat 16))) (mw (nL .u8 fy 15))):Int).toNat*1))=some (.int .u16 g7)/\
 ∃n25,n25<Q3/\I19 n25 ((aj (dN+1))) ((ky .u16 (mw ((ky .u16 (mw (dz*2 ^(min (4:Int).toNat 16))) fE)*2 ^(min (4:Int).toNat 16))) g7)) fZ)
 (R (Value.int .u16 dz) fZ)))):ah 297 #[.int .u16 a0,a1] w R:=
 cq ⟨[(3,⟨[(11,.int .i64),(0,.int .u16)],[],[]⟩)],[],[]⟩ Tryz.func297 h
theorem UU.vc(h:
 Aw w #[.int .u16 0,.int .u16 0,.int .u16 0,.int .u16 0,.int .u16 0,.int .u16 0,.int .u16 0,.int .u16 0,.int .u16 0,.int .u16 0,.int .u16 0,.int .u16 0,.int .u16 0,.int .u16 0,.int .u16 0,.int .u16 0] 358 λw0=>
 Aw w0 #[.int .u16 0,.int .u16 0,.int .u16 0,.int .u16 0,.int .u16 0,.int .u16 0,.int .u16 0,.int .u16 0,.int .u16 0,.int .u16 0,.int .u16 0,.int .u16 0,.int .u16 0,.int .u16 0,.int .u16 0,.int .u16 0] 358 λw1=>
 ∃I2:Nat->Int->World->Prop,
 (∃n3,I2 n3 (0) w1)/\
 ∀(n3:Nat)(us4:Nat->Value)(x5:Int)(w6:World),I2 n3 x5 w6->
 Br (x5<16)
 (∃I8:Nat->Int->Int->World->Prop,
 (∃n9,I8 n9 (0) ((mw ((mw x5)*2 ^(min (12:Int).toNat 16)))) w6)/\
 ∀(n9:Nat)(Wv:Nat->Value)(bC bN:Int)(bJ:World),I8 n9 bC bN bJ->
 Br (bC<4)
 (ah 321 #[.int .u16 bN] bJ (λe eA=>∃(cD:Int),e=Value.int .u16 cD/\
 ∃FO,FO<n9/\I8 FO ((aj (bC+1))) cD eA))
 ((0:Int)<=x5/\x5<((16:Nat):Int)/\(true=true/\Wr bJ (af (some ⟨w0,0,none⟩) ((x5:Int).toNat*1)) 1)/\(∀cL,cL=aH bJ (af (some ⟨w0,0,none⟩) ((x5:Int).toNat*1)) [.int .u16 bN]->
 ∃n7,n7<n3/\I2 n7 ((aj (x5+1))) cL)))
 (∃(cp cn cW dh dN dz eE dQ fy fE g7 gd jD ic ig eF:Int),ag w6 (some ⟨w0,0,none⟩) 0 [.int .u16 cp,.int .u16 cn,.int .u16 cW,.int .u16 dh,.int .u16 dN,.int .u16 dz,.int .u16 eE,.int .u16 dQ,.int .u16 fy,.int .u16 fE,.int .u16 g7,.int .u16 gd,.int .u16 jD,.int .u16 ic,.int .u16 ig,.int .u16 eF]/\
 Wt w6 ⟨w,0,none⟩ 16/\(∀jc,jc=aH w6 w [.int .u16 cp,.int .u16 cn,.int .u16 cW,.int .u16 dh,.int .u16 dN,.int .u16 dz,.int .u16 eE,.int .u16 dQ,.int .u16 fy,.int .u16 fE,.int .u16 g7,.int .u16 gd,.int .u16 jD,.int .u16 ic,.int .u16 ig,.int .u16 eF]->
 ∃(kv nk fB gA ou mc kI lh oE jY nq gC ph sN zi tX:Int),ag jc w 0 [.int .u16 kv,.int .u16 nk,.int .u16 fB,.int .u16 gA,.int .u16 ou,.int .u16 mc,.int .u16 kI,.int .u16 lh,.int .u16 oE,.int .u16 jY,.int .u16 nq,.int .u16 gC,.int .u16 ph,.int .u16 sN,.int .u16 zi,.int .u16 tX]/\
 R (Value.agg #[.int .u16 kv,.int .u16 nk,.int .u16 fB,.int .u16 gA,.int .u16 ou,.int .u16 mc,.int .u16 kI,.int .u16 lh,.int .u16 oE,.int .u16 jY,.int .u16 nq,.int .u16 gC,.int .u16 ph,.int .u16 sN,.int .u16 zi,.int .u16 tX]) jc))):ah 310 #[] w R:=
 cq ⟨[(8,⟨[(11,.int .i64),(4,.int .u16)],[],[]⟩),(4,⟨[(5,.int .i64)],[],[]⟩)],[],[]⟩ Tryz.func310 h
theorem LU.vc(h:
 Br (((nL .u16 a0 32768):Int) !=0)
 (R (Value.int .u16 (ky .u16 (mw (a0*2 ^(min (1:Int).toNat 16))) 4129)) w)
 (R (Value.int .u16 (mw (a0*2 ^(min (1:Int).toNat 16)))) w)):ah 321 #[.int .u16 a0] w R:=
 cq bV Tryz.func321 h
theorem vB.vc{a0:Sl}(h:
 ∃I0:Nat->Int->Int->World->Prop,
 (∃n1,I0 n1 (0) (0) w)/\
 ∀(n1:Nat)(wX:Nat->Value)(x3 x4:Int)(w5:World),I0 n1 x3 x4 w5->
 Br (decide (x3<((a0.n:Nat):Int)))
 (eo a0.a x3 a0.n/\∃(s7:Sl),ld w5 (af a0.a ((x3:Int).toNat*1))=some (.slice s7.a s7.n s7.c)/\
 Br (decide (((aj (x4+((s7.n:Nat):Int))):Int)<0))
 (False)
 (∃n6,n6<n1/\I0 n6 ((aj (x3+1))) ((aj (x4+((s7.n:Nat):Int)))) w5))
 (ah 271 #[.slice none 0 0,x4] w5 (λe w8=>∃(s9:Sl),e=s9/\
 ∃CI:Nat->Int->Sl->World->Prop,
 (∃sb,CI sb (0) s9 w8)/\
 ∀(sb:Nat)(ag0:Nat->Value)(cm:Int)(ZR:Sl)(eA:World),CI sb cm ZR eA->
 Br (decide (cm<((a0.n:Nat):Int)))
 (eo a0.a cm a0.n/\∃(Fi:Sl),ld eA (af a0.a ((cm:Int).toNat*1))=some (.slice Fi.a Fi.n Fi.c)/\
 ∃l18:LV,Rd eA Fi.a l18/\ba 1 1 eA ZR Fi.n l18/\∀(Wa:Sl)(fx:World),aV 5 1 eA ZR Fi.n l18 Wa fx->
 ∃Ke,Ke<sb/\CI Ke ((aj (cm+1))) Wa fx)
 (R ZR eA)))):ah 226 #[a0] w R:=
 cq ⟨[(11,⟨[(27,.int .i64),(6,.slice)],[],[]⟩),(3,⟨[(11,.int .i64),(3,.int .i64)],[],[]⟩)],[],[]⟩ Tryz.func226 h
theorem zD.vc{a0:Sl}(h:
 Br (a1<0)
 (False)
 (Br (decide (((aj (a1-(aj (((a0.c:Nat):Int)-((a0.n:Nat):Int))))):Int)>0))
 ((0:Int)<=((a0.c:Nat):Int)/\((a0.c:Nat):Int)<=((a0.c:Nat):Int)/\((0:Int)<=(aj (a1-(aj (((a0.c:Nat):Int)-((a0.n:Nat):Int)))))/\aj (aj (a1-(aj (((a0.c:Nat):Int)-((a0.n:Nat):Int)))))=(aj (a1-(aj (((a0.c:Nat):Int)-((a0.n:Nat):Int)))))/\((aj (a1-(aj (((a0.c:Nat):Int)-((a0.n:Nat):Int))))):Int)*1<=281474976710656)/\ba 1 1 w ⟨(aJ a0.a (0) (a0.c) 1),((((a0.c:Nat):Int):Int).toNat-0),(a0.c-0)⟩ ((aj (a1-(aj (((a0.c:Nat):Int)-((a0.n:Nat):Int))))):Int).toNat (bu [.int .u8 0] ((aj (a1-(aj (((a0.c:Nat):Int)-((a0.n:Nat):Int))))):Int).toNat)/\∀(s0:Sl)(w1:World),aV 5 1 w ⟨(aJ a0.a (0) (a0.c) 1),((((a0.c:Nat):Int):Int).toNat-0),(a0.c-0)⟩ ((aj (a1-(aj (((a0.c:Nat):Int)-((a0.n:Nat):Int))))):Int).toNat (bu [.int .u8 0] ((aj (a1-(aj (((a0.c:Nat):Int)-((a0.n:Nat):Int))))):Int).toNat) s0 w1->
 (0:Int)<=((a0.n:Nat):Int)/\((a0.n:Nat):Int)<=((s0.c:Nat):Int)/\R (Value.slice (aJ s0.a (0) (s0.c) 1) ((((a0.n:Nat):Int):Int).toNat-0) (s0.c-0)) w1)
 (R a0 w))):ah 271 #[a0,a1] w R:=
 cq bV Tryz.func271 h
theorem tB.vc{a0:Addr}(h:
 ∃(s0:Sl),ld w (af (some a0) 3)=some (.slice s0.a s0.n s0.c)/\
 ∃I1:Nat->Int->Int->World->Prop,
 (∃n2,I1 n2 (0) (0) w)/\
 ∀(n2:Nat)(us3:Nat->Value)(x4 x5:Int)(w6:World),I1 n2 x4 x5 w6->
 Br (decide (x4<((s0.n:Nat):Int)))
 (eo s0.a x4 s0.n/\∃(p8:Option Addr),ld w6 (af s0.a ((x4:Int).toNat*1))=some (.pointer p8)/\
 aP (dv p8) (aP (dv p8) (∃(b9:Bool),ld w6 (af p8 1)=some (.bool b9)/\
 ah 79 #[a0,p8] w6 (λe bO=>∃(bC:Int),e=bC/\
 Br (bC !=0)
 (R (Value.tuple #[x5,bC]) bO)
 (Br b9
 (∃n7,n7<n2/\I1 n7 ((aj (x4+1))) ((aj (x5+1))) bO)
 (∃n7,n7<n2/\I1 n7 ((aj (x4+1))) x5 bO))))))
 (R (Value.tuple #[x5,aa]) w6)):ah 22 #[a0] w R:=
 cq ⟨[(3,⟨[(14,.int .i64),(4,.int .i64)],[],[]⟩)],[],[]⟩ Tryz.func22 h
theorem Am.vc{a0:Addr}{a1:Sl}(h:
 ∃(p0:Option Addr),ld w (af (some a0) 0)=some (.pointer p0)/\
 ah 115 #[p0,aa,a1] w (λe w1=>∃(x2:Int),e=x2/\
 R x2 w1)):ah 61 #[a0,a1] w R:=
 cq bV Tryz.func61 h
end Go.Proofs.YtkkkfkopcfdmaaaGreatDoor
