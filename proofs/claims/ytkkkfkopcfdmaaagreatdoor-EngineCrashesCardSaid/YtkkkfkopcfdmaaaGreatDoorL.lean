import Derived.Test.YtkkkfkopcfdmaaaGreatDoorK
import Derived.Test.YtkkkfkopcfdmaaaGreatDoorD
set_option linter.all false
namespace Go.Proofs.YtkkkfkopcfdmaaaGreatDoor
open Go Go.Vc Go.RowKit Go.Proofs Go.cg Go.aR Go.Code Go.ej Go.dR Go.gF
set_option maxRecDepth 100000
set_option maxHeartbeats 8000000
def awr(ag:Int):jT (l9 ag 9):=by unfold jT l9;rw [pM];show (tY.map id).Nodup;decide
def aqy(ag cap bud:Int)(hg:fV (TP ag cap bud).T.2):eY ag 0 (TP ag cap bud).T:=by
 refine ⟨Stf.new,awr ag,hg,λe he=> ?_,λe he _=> ?_⟩
 ·have he:e ∈ l9 ag 9:=he;unfold l9 at he;obtain ⟨p,hp,rfl⟩:=aU.1 he;have hp:p ∈ tY:=mB hp;obtain ⟨k,hk⟩:=KJ.1 hp;exact (FI hk).1
 ·have he:e ∈ l9 ag 9:=he;unfold l9 at he;obtain ⟨p,hp,rfl⟩:=aU.1 he;have hl:Go.cg.lu (TP ag cap bud).T.1 (lO p)=([],0,false):=WW;simp only;rw [hl];rfl
def aem{K:Nat->Prop}{w0 w:World}{a:Ad}{Me Mm:Sm}{Le:List (Option cM)}{rows:List iz}(h:uS K w0 w a Me Le Mm rows):fV Me.T.2:=by obtain ⟨F,occ,hE,-⟩:=h.e;obtain ⟨Fs,Dp,-,-,-⟩:=hE.xz;obtain ⟨Fw,hW,-,-⟩:=Dp.world;exact hW.B3
open Tryz
variable {R:Ending->World->Prop} {w:World} {a0 a1 a2:Int}
def EB.vc{a0:Addr}{a2:Sl}(h:(λA B=>
 (Pv w (af (some a0) 3) 1 [.int .i64 (if 1099511627776<A then 1099511627776 else A)] λw0=>
 ae 97 #[(4096:Int)] w0 (AG λp2 w1=>(Pv w1 B 1 [.pointer p2] λw3=>
 gZ w3 B λp4=>
 ae 148 #[p4,a2] w3 (kX λx6 w5=>R x6 w5))))) (if 0>a1 then 0 else a1) (af (some a0) 0)):ae 94 #[a0,a1,a2] w R:=
 cq bG func94 h
def JF.vc{c0:Addr}{c1:Addr}(h:(λA B=>
 ∃J0:World->Prop,
 (kB w A λs1=>
 Br (decide (a0>((s1.n:Nat):Int)))
 ((Pv w (some c1) 1 [.bool false] λw2=>
 (Pv w2 A 1 [.slice none 0 0] λw3=>
 R (0:Int) w3)))
 (J0 w))/\
 ∀us4:Nat->Value,∀(w5:World),J0 w5->
 kB w5 A λs6=>(λAa=>
 (0:Int)<=a0/\a0<=((s6.c:Nat):Int)/\se (λI7 n8=>I7 n8 (0) (0) w5) λI7 n8 us9 bE bK cC=>
 Br (decide (bE<(((B.toNat-0):Nat):Int)))
 (eL Aa bE (B.toNat-0)/\∃(cB:Int),ld cC (af Aa ((bE:Int).toNat*1))=some (.int .u8 cB)/\
 ∃n13,n13<n8/\I7 n13 ((aw (bE+1))) ((S7 .i64 (aw (bK*2 ^(min (8:Int).toNat 64))) (aw cB))) cC)
 (kB cC A λpr=>
 (0:Int)<=a0/\a0<=((pr.n:Nat):Int)/\(Pv cC A 1 [.slice (aI pr.a (B.toNat) (pr.c) 1) (pr.n-B.toNat) (pr.c-B.toNat)] λcD=>
 R bK cD))) (aI s6.a (0) (s6.c) 1)) (some c0) (a0:Int)):ae 207 #[a0,c0,c1] w R:=
 cq ⟨[(6,⟨[(16,.int .i64),(5,.int .i64)],[],[]⟩)],[(4,⟨[],[],[]⟩)],[]⟩ func207 h
def JG.vc{c0:Addr}(h:
 ∃(v0:Value),ld w (some c0)=some (v0)/\
 bB Tryz.prog v0 [(6:Int)] w (kX λx2 w1=>∃J3:Int->World->Prop,
 (Br (x2>=140737488355328)
 (J3 ((aw (x2-281474976710656))) w1)
 (J3 x2 w1))/\
 ∀us4:Nat->Value,∀(x5:Int)(w6:World),J3 x5 w6->
 R x5 w6)):ae 208 #[c0] w R:=
 cq ⟨[],[(4,⟨[(2,.int .i64)],[],[]⟩)],[]⟩ func208 h
def JH.vc{c0:Addr}(h:(λA=>
 Aw w #[ai,ai,ai] 28 λw0=>
 ∃(v1:Value),ld w0.drew A=some (v1)/\
 ∃(v2:Value),ld w0.drew A=some (v2)/\
 bB Tryz.prog v1 [] w0.drew (Ri λx4 w3=>Kp w w0.drew w3/\
 ah w3 A 0 [v2]/\bB Tryz.prog v2 [] w3 (Ri λx6 w5=>Kp w w3 w5/\
 ∃(v7:Value),ld w5 A=some (v7)/\
 bB Tryz.prog v7 [] w5 (Ri λx9 w8=>Kp w w5 w8/\
 Sw w8 w #[x4,x6,x9] λbo=>
 R (qY #[x4,x6,x9]) bo)))) (some c0)):ae 209 #[c0] w R:=
 cq bG func209 h
def Qe.vc{a0:Sl}(h:(λA B C=>
 Aw w #[a0] 62 λw0=>(λAa=>
 Aw w0 A 219 λw1=>(λAb=>
 Aw w1 #[false] 4 λw2=>
 Sw w2 w1 #[true] λw3=>(λAc=>
 Aw w3 #[.nilFunc] 88 λw4=>
 ∀w5,w5=w4.setRow w3 #[.func (.func 207) #[] #[w,.pointer Ab]]->
 Aw w5 #[.nilFunc] 122 λw6=>
 ∀w7,w7=w6.setRow w5 #[.func (.func 208) #[] #[.pointer Ac]]->
 ∃(v8:Value),ld w7 (aD w5)=some (v8)/\
 bB Tryz.prog v8 [] w7 (Ri λbE w9=>(λAd Ae=>Kp w0 w7 w9/\
 Aw w9 A 219 λbw=>
 Sw bw w9 #[bE,.pointer none,.pointer none,.pointer none,.pointer none,.pointer none,.pointer none,.pointer none,.pointer none,.pointer none,.pointer none,.pointer none,.pointer none,.pointer none,.pointer none,.pointer none,.pointer none,.slice none 0 0] λcC=>
 ∃J13:World->Prop,
 (DJ cC Ab λb14=>
 Br b14
 (kW cC Ae λcW=>
 Br (cW>=0)
 (kW cC Ae λdu=>
 Wr cC Ab 1/\(Pw cC Ab [.bool (decide (du<=1099511627776))] λcL=>
 J13 cL))
 (Wr cC Ab 1/\(Pw cC Ab B λdI=>
 J13 dI)))
 (Wr cC Ab 1/\(Pw cC Ab B λfK=>
 J13 fK)))/\
 ∀arM:Nat->Value,∀(dU:World),J13 dU->
 ∃J22:World->Prop,
 (∃(v23:Value),ld dU Ac=some (v23)/\
 bB Tryz.prog v23 C dU (λe gC=>∃(eZ:Int),e=eZ/\
 se (λXI V2=>XI V2 eZ ((-1)) gC) λXI V2 arH jk nu gS=>
 Br (jk>0)
 (DJ gS Ab λXG=>
 Br XG
 (∃(v34:Value),ld gS Ac=some (v34)/\
 bB Tryz.prog v34 C gS (λe gT=>∃(oW:Int),e=oW/\
 Aw gT #[ai,ai,ai,ai,ai,ai,ai,ai,false,ai,ai,false] 111 λiR=>
 ae 209 #[.pointer (aD w5)] iR (jl λqv pF om oE=>Kp gT iR oE/\
 Sw oE gT #[qv,pF,om,ai,ai,ai,ai,ai,false,ai,ai,false] λlf=>
 ae 209 #[.pointer (aD w5)] lf (jl λpk uN oH jW=>Kp gT lf jW/\
 Sw jW gT #[qv,pF,om,pk,uN,oH,ai,ai,false,ai,ai,false] λnA=>
 ∃(v48:Value),ld nA (aD w5)=some (v48)/\
 bB Tryz.prog v48 [] nA (Ri λsS pG=>Kp gT nA pG/\
 Sw pG gT #[qv,pF,om,pk,uN,oH,sS,ai,false,ai,ai,false] λuL=>
 ∃(v52:Value),ld uL (aD w5)=some (v52)/\
 bB Tryz.prog v52 [] uL (Ri λqV Tp=>Kp gT uL Tp/\
 Sw Tp gT #[qv,pF,om,pk,uN,oH,sS,qV,false,ai,ai,false] λxm=>
 ∃(v56:Value),ld xm Ac=some (v56)/\
 bB Tryz.prog v56 C xm (Ri λzw nB=>Kp gT xm nB/\
 Sw nB gT #[qv,pF,om,pk,uN,oH,sS,qV,.bool (zw==1),ai,ai,false] λqE=>
 ∃J60:World->Prop,
 (DJ qE Ab λb61=>
 Br b61
 (Br (oW>nu)
 (Br (oW<16)
 (Br (zw<=1)
 (ij qE (aD gT) λox uQ BN sR oI oT qp wN b70=>
 ae 44 #[.agg #[ox,uQ,BN,sR,oI,oT,qp,wN,b70]] qE (λe w71=>∃(b72:Bool),e=b72/\
 Wr w71 Ab 1/\(Pw w71 Ab [.bool b72] λIN=>
 J60 IN)))
 (Wr qE Ab 1/\(Pw qE Ab B λoq=>
 J60 oq)))
 (Wr qE Ab 1/\(Pw qE Ab B λrC=>
 J60 rC)))
 (Wr qE Ab 1/\(Pw qE Ab B λpH=>
 J60 pH)))
 (Wr qE Ab 1/\(Pw qE Ab B λuO=>
 J60 uO)))/\
 ∀ayq:Nat->Value,∀(Ki:World),J60 Ki->
 DJ Ki Ab λb80=>
 Br b80
 ((0:Int)<=oW/\oW<((16:Nat):Int)/\(Pv Ki (af (fP w9 1) ((oW:Int).toNat*1)) 1 [.pointer (aD gT)] λxq=>
 ∃n32,n32<V2/\XI n32 ((aw (jk-1))) oW xq))
 (∃n32,n32<V2/\XI n32 ((aw (jk-1))) nu Ki))))))))
 (J22 gS))
 (J22 gS)))/\
 ∀aGn:Nat->Value,∀(XF:World),J22 XF->
 ∃J84:World->Prop,
 (∃(v85:Value),ld XF Ac=some (v85)/\
 bB Tryz.prog v85 [(2:Int)] XF (λe w86=>∃(vX:Int),e=vX/\
 sN (λI88 n89=>I88 n89 vX w86) λI88 n89 ayc FZ Kg=>
 Br (FZ>0)
 (DJ Kg Ab λb94=>
 Br b94
 (∃(v95:Value),ld Kg (aD w5)=some (v95)/\
 bB Tryz.prog v95 [] Kg (λe Es=>∃(IL:Int),e=IL/\
 Aw Es #[ai,ai,ai,ai] 157 λTj=>
 Sw Tj Es #[IL,ai,ai,ai] λJh=>
 ae 209 #[.pointer (aD w5)] Jh (jl λoJ vY zB po=>(λAf Ag=>Kp Es Jh po/\
 Aw po #[ai,ai,ai] 28 λabh=>
 Sw abh po #[oJ,vY,zB] λBP=>
 Sw BP Es Ag λzD=>
 ∃aiZ:World->Prop,
 (DJ zD.drew Ab λamE=>
 Br amE
 (ae 210 #[.agg #[oJ,vY,zB]] zD.drew (jl λmz uP kT rE=>Kp Es zD.drew rE/\
 ah rE (fP Es 1) 0 [oJ,vY,zB]/\ah rE Ab 0 [.bool amE]/\Br ((oJ==mz) &&((vY==uP) &&(zB==kT)))
 (kB rE Ad λayO=>
 Wr rE Ab 1/\Nb w1 Es/\(Pw rE Ab [.bool (decide ((((ayO.n:Nat):Int):Int)<2000))] λKq=>
 aN Af/\aiZ Kq))
 (Wr rE Ab 1/\Nb w1 Es/\(Pw rE Ab B λFx=>
 aN Af/\aiZ Fx))))
 (Wr zD.drew Ab 1/\Nb w1 Es/\(Pw zD.drew Ab B λayP=>
 aN Af/\aiZ ayP)))/\
 ∀aDg:Nat->Value,∀(ou:World),aiZ ou->
 kB ou Ad λarP=>
 Aw ou Ag 157 λxt=>
 ba 32 4 xt arP 1 Af/\∀(arQ:Sl)(uR:World),aX 157 4 xt arP 1 Af arQ uR->K2 Es ou xt uR (
 Wr uR Ad 1/\Nq Ad Es/\Nq Ad ou/\(Pw uR Ad [arQ] λayQ=>
 ∃n93,n93<n89/\I88 n93 ((aw (FZ-1))) ayQ))) [IL,oJ,vY,zB] #[IL,oJ,vY,zB])))
 (J84 Kg))
 (J84 Kg)))/\
 ∀aDi:Nat->Value,∀(pq:World),J84 pq->
 ∃(IQ:Int)(anL anM anN anO anP anQ anR anT anU anV anW anX anY anZ an1 an2:Option Addr)(an3:Sl),ah pq.drew Ae 0 [IQ,anL,anM,anN,anO,anP,anQ,anR,anT,anU,anV,anW,anX,anY,anZ,an1,an2,an3]/\
 DJ pq.drew Ab λan4=>
 Br an4
 (kB pq.drew (aD w) λarR=>
 Wr pq.drew Aa 18/\(Pw pq.drew Aa [IQ,anL,anM,anN,anO,anP,anQ,anR,anT,anU,anV,anW,anX,anY,anZ,an1,an2,an3] λSX=>
 ah SX w 0 [arR]/\ah SX Ab 0 [.bool an4]/\∃(Sj:Int)(arS arT arU arV arW arX arY arZ ar0 ar1 ar2 ar3 Ss Su ar4 ar5:Option Addr)(ar6:Sl),ah SX Aa 0 [Sj,arS,arT,arU,arV,arW,arX,arY,arZ,ar0,ar1,ar2,ar3,Ss,Su,ar4,ar5,ar6]/\
 R (dS #[.agg #[Sj,arS,arT,arU,arV,arW,arX,arY,arZ,ar0,ar1,ar2,ar3,Ss,Su,ar4,ar5,ar6],.bool ((((arR.n:Nat):Int):Int)==0)]) SX))
 (Wr pq.drew Aa 18/\(Pw pq.drew Aa [IQ,anL,anM,anN,anO,anP,anQ,anR,anT,anU,anV,anW,anX,anY,anZ,an1,an2,an3] λan5=>
 ah an5 Ab 0 [.bool an4]/\∃(aiP:Int)(ar7 ar8 ar9 asa asb asc asd ase asf asg ash asi asj asl asm asn:Option Addr)(aso:Sl),ah an5 Aa 0 [aiP,ar7,ar8,ar9,asa,asb,asc,asd,ase,asf,asg,ash,asi,asj,asl,asm,asn,aso]/\
 R (dS #[.agg #[aiP,ar7,ar8,ar9,asa,asb,asc,asd,ase,asf,asg,ash,asi,asj,asl,asm,asn,aso],false]) an5))) (fP w9 17) (aD w9))) (aD w3)) (aD w1)) (aD w0)) #[ai,.pointer none,.pointer none,.pointer none,.pointer none,.pointer none,.pointer none,.pointer none,.pointer none,.pointer none,.pointer none,.pointer none,.pointer none,.pointer none,.pointer none,.pointer none,.pointer none,.slice none 0 0] [.bool false] [(1:Int)]):ae 147 #[a0] w R:=
 cq ⟨[(9,⟨[(10,.int .i64),(9,.int .i64)],[],[]⟩),(23,⟨[(14,.int .i64)],[],[]⟩)],[(20,⟨[],[],[6]⟩),(29,⟨[],[],[7]⟩),(30,⟨[],[],[]⟩),(22,⟨[],[],[]⟩),(7,⟨[],[],[1,5]⟩)],[]⟩ func147 h
def uA.vc{a0:Addr}{a1:Sl}(h:(λA=>
 ae 147 #[a1] w (λe w0=>∃(x1:Int)(p2 p3 p4 p5 p6 p7 p8 p9 L4 To Dn SU p14 Ow p16 p17:Option Addr)(s18:Sl)(b19:Bool),e=Value.tuple #[.agg #[x1,p2,p3,p4,p5,p6,p7,p8,p9,L4,To,Dn,SU,p14,Ow,p16,p17,s18],b19]/\
 Aw w0 #[ai,.pointer none,.pointer none,.pointer none,.pointer none,.pointer none,.pointer none,.pointer none,.pointer none,.pointer none,.pointer none,.pointer none,.pointer none,.pointer none,.pointer none,.pointer none,.pointer none,.slice none 0 0] 219 λfx=>
 Sw fx w0 #[x1,p2,p3,p4,p5,p6,p7,p8,p9,L4,To,Dn,SU,p14,Ow,p16,p17,s18] λdU=>
 Br (!b19)
 (R (2:Int) dU)
 ((true=true/\Wr dU A 16)/\bk A≠some w0.heap.size/\(Pw dU A [.pointer p2,p3,p4,p5,p6,p7,p8,p9,L4,To,Dn,SU,p14,Ow,p16,p17] λdm=>
 gZ dm.drew (af (some a0) 0) λV5=>
 ae 94 #[V5,x1,s18] dm.drew (Ri λeZ gC=>Kp w0 dm.drew gC/\
 R (0:Int) gC))))) (af (some a0) 1)):ae 93 #[a0,a1] w R:=
 cq bG func93 h
def oR.vc{a0:Addr}(h:(λA B C=>
 gZ w B λp0=>
 ae 18 #[p0] w (AG λp2 w1=>ae 19 #[p2] w1 (AG λp4 w3=>ae 91 #[p4,a1] w3 (kX λx6 w5=>ae 92 #[p4] w5 (λe w7=>∃(s8:Sl)(b9:Bool),e=Value.tuple #[s8,b9]/\
 Br (!b9)
 ((Pv w7 C 16 A λbo=>
 gZ bo B λTo=>
 ae 94 #[To,ai,.slice none 0 0] bo (kX λcR cC=>R x6 cC)))
 (ae 93 #[a0,s8] w7 (kX λcW bH=>Br (cW !=0)
 ((Pv bH C 16 A λcD=>
 gZ cD B λp17=>
 ae 94 #[p17,ai,.slice none 0 0] cD (kX λdb dI=>R x6 dI)))
 (R x6 bH)))))))) [.pointer none,.pointer none,.pointer none,.pointer none,.pointer none,.pointer none,.pointer none,.pointer none,.pointer none,.pointer none,.pointer none,.pointer none,.pointer none,.pointer none,.pointer none,.pointer none] (af (some a0) 0) (af (some a0) 1)):ae 36 #[a0,a1] w R:=
 cq bG func36 h
abbrev byR(l:List Int):List (LV):=l.map λb=> [.int .u8 b]
abbrev tBy:TypeId:=62
structure WV(w0 w:World)(gb:Nat)(s:Sl)(l:List Int):Prop where
 x:Ext w0 w
 lt:w0.heap.size<=gb
 row:Row w gb [s] tBy
 rd:RdK w0 s 1 (byR l)
 nc:s.n<=s.c
 by_:mM l
def WV.ext{w0 w w':World}{gb:Nat}{s:Sl}{l:List Int}(h:WV w0 w gb s l)(x:Ext w w'):WV w0 w' gb s l:=⟨h.x.tr x,h.lt,h.row.ext x,h.rd,h.nc,h.by_⟩
def WV.n{w0 w:World}{gb:Nat}{s:Sl}{l:List Int}(h:WV w0 w gb s l):s.n=l.length:=by rw [h.rd.n,aL]
def aif{l:List Int}(h:mM l){k:Nat}(hk:k<=5):0<=eF (l.take k)/\eF (l.take k)<1099511627776:=by
 have q:=Nv h k;have:(256:Int) ^ k<=256 ^ 5:=by rcases (show k=0\/k=1\/k=2\/k=3\/k=4\/k=5 by omega) with rfl|rfl|rfl|rfl|rfl|rfl<;>decide
 have e:(256:Int) ^ 5=1099511627776:=by decide
 omega
def R2{w0 w:World}{gb gf:Nat}{s:Sl}{x l:List Int}(h:WV w0 w gb s (x++l))(hk:x.length<=6):ae 207 #[(x.length:Int),gb,gf] w λe w'=>
  e=Value.int .i64 (eF x)/\Mod (λi=>i=gb) w w'/\∃s',WV w0 w' gb s' l:=by
 apply JF.vc;have hn:s.n=x.length+l.length:=by rw [h.n,bQ]
 have LU:=h.nc;have hzx:=h.x.size;have iQ:=h.row.lt;refine ⟨λu=>u=w,⟨s,h.row.at 0 rfl,gd (decide_eq_false aa) rfl⟩,?_⟩;rintro us w5 rfl;have hrw:=h.rd.ext h.x;have mZ:RdK w5 ⟨aI s.a 0 s.c 1,x.length,s.c⟩ 1 (byR x):=by
  have q:=hrw.cut (m:=x.length) (c':=s.c) (c'':=s.c) (by rw [aL,bQ];omega);have e:(byR (x++l)).take x.length=byR x:=by show ((x++l).map _).take x.length=_;rw [<-List.map_take,List.take_left]
  rw [e] at q;exact q
 have FA:mM x:=λc hc=>h.by_ c (xC _ hc)
 refine ⟨s,h.row.at 0 rfl,aa,aa,λn i acc u=>∃j:Nat,i=j/\j+n=x.length/\acc=eF (x.take j)/\u=w5,⟨x.length,0,rfl,aa,rfl,rfl⟩,?_⟩;rintro n us i acc u ⟨j,rfl,hj,rfl,rfl⟩;have e0:((x.length:Int).toNat-0:Nat)=x.length:=by omega
 rw [e0];apply Br.mk<;>intro hq
 ·have hq:=cS hq;obtain ⟨c,hc⟩:=bq (l:=x) (i:=j) aa;have hcb:=FA c (aO hc);have c9:(byR x)[j]? =some [.int .u8 c]:=by rw [aS,hc];rfl
  have q:=mZ.at c9 (j:=0) (v:=.int .u8 c) rfl;rw [fI] at q;have oh:eL (aI s.a 0 s.c 1) (j:Int) x.length:=mZ.jd aA aa hq;have hb5:=aif FA (k:=j) aa;have e8:(2:Int) ^ min (8:Int).toNat 64=256:=by decide
  refine ⟨oh,c,q,n-1,aa,j+1,by rw [wI];omega,aa,?_,rfl⟩;rw [e8,wI,wI,RK aa hcb,dy,hc];exact (H9 _ _).symm
 ·have hq:=cS hq;obtain rfl:j=x.length:=by omega
  obtain ⟨p1,p2⟩:=h.row.ic (j:=0) (v:=.slice (aI s.a ((x.length:Int).toNat) s.c 1) (s.n-(x.length:Int).toNat) (s.c-(x.length:Int).toNat)) (Nat.zero_lt_one) rfl;rw [fI] at p1 p2;refine ⟨s,h.row.at 0 rfl,aa,aa,⟨rfl,p1⟩,λcD FY=> ?_⟩;obtain ⟨q1,q2⟩:=p2 cD FY;rw [jg];refine ⟨rfl,q2,⟨aI s.a ((x.length:Int).toNat) s.c 1,s.n-(x.length:Int).toNat,s.c-(x.length:Int).toNat⟩,q2.ext h.x λi hi=>by rw [hi];exact h.lt,h.lt,q1,?_,by simp only;omega,λc hc=>h.by_ c (r6 _ hc)⟩;have q:=h.rd.rest (l:=x.length) (m:=s.c) (n':=s.n-x.length) (c':=s.c-x.length) (by rw [aL,bQ];omega) (λe=>by rw [aL,bQ];omega);have e:(byR (x++l)).drop x.length=byR l:=by show ((x++l).map _).drop x.length=_;rw [<-List.map_drop,List.drop_left]
  rw [e] at q;rw [dQ];exact q
def aih{n:Int}(h: -140737488355328<=n/\n<140737488355328):eF (jb n)=n % 281474976710656:=by have e:jb n=[JQ n 0,JQ n 1,JQ n 2,JQ n 3,JQ n 4,JQ n 5]:=rfl;rw [e];unfold eF JQ;simp only [nU,List.foldl_nil];omega
abbrev smF(gb gf:Nat):Value:=.func (.func 207) #[] #[gb,gf]
abbrev nmF(gs:Nat):Value:=.func (.func 208) #[] #[gs]
structure Cx(w:World)(gb gf gs gn:Nat):Prop where
 s:∃τ,Row w gs [smF gb gf] τ
 n:∃τ,Row w gn [nmF gs] τ
 d:gb≠gs/\gb≠gn
def Cx.mod{w w':World}{gb gf gs gn:Nat}(h:Cx w gb gf gs gn)(m:Mod (λi=>i=gb) w w'):Cx w' gb gf gs gn:=by obtain ⟨⟨τ,h1⟩,⟨τ',h2⟩,h3⟩:=h;exact ⟨⟨τ,m.row h1 (Ne.symm h3.1)⟩,⟨τ',m.row h2 (Ne.symm h3.2)⟩,h3⟩
def Cx.ext{w w':World}{gb gf gs gn:Nat}(h:Cx w gb gf gs gn)(x:Ext w w'):Cx w' gb gf gs gn:=by obtain ⟨⟨τ,h1⟩,⟨τ',h2⟩,h3⟩:=h;exact ⟨⟨τ,h1.ext x⟩,⟨τ',h2.ext x⟩,h3⟩
section
variable {w0 w:World} {gb gf gs gn:Nat} {s:Sl} {l:List Int}
def Rds(w0 w:World)(gb:Nat)(l:List Int)(w':World):Prop:=Mod (λi=>i=gb) w w'/\∃s',WV w0 w' gb s' l
def Iv{x:List Int}(h:WV w0 w gb s (x++l))(hk:x.length<=6):bB Tryz.prog (smF gb gf) [(x.length:Int)] w λe w'=>e=Value.int .i64 (eF x)/\Rds w0 w gb l w':=
 cH (by kernel_rfl) rfl (R2 h hk)
def aaM(hc:Cx w gb gf gs gn){n:Int}(hn: -140737488355328<=n/\n<140737488355328)(h:WV w0 w gb s (jb n++l)):ae 208 #[gs] w λe w'=>e=n/\Rds w0 w gb l w':=by
 apply JG.vc;obtain ⟨τ,hs⟩:=hc.s;refine ⟨_,hs.at 0 rfl,?_⟩;refine (λR' k=>bV (R':=R') (Iv (gf:=gf) (x:=jb n) h (by rw [pX];decide)) k) _ ?_;rintro e w1 ⟨rfl,hr⟩;have e1:=aih hn;refine ⟨_,rfl,λx u=>x=n/\u=w1,Br.mk (λhq=>⟨?_,rfl⟩) (λhq=>⟨?_,rfl⟩),?_⟩
 ·have hq:=cS hq;rw [wI];omega
 ·have hq:=cS hq;omega
 ·rintro us x u ⟨rfl,rfl⟩;exact ⟨rfl,hr⟩
def vt(hc:Cx w gb gf gs gn){n:Int}(hn: -140737488355328<=n/\n<140737488355328)(h:WV w0 w gb s (jb n++l)):bB Tryz.prog (nmF gs) [] w λe w'=>e=n/\Rds w0 w gb l w':=
 cH (by kernel_rfl) rfl (aaM hc hn h)
def AU(n:Int):Prop:= -140737488355328<=n/\n<140737488355328
def aaN(hc:Cx w gb gf gs gn){v:Ce}(hv:AU v.1/\AU v.2.1/\AU v.2.2)(h:WV w0 w gb s (jb v.1++(jb v.2.1++(jb v.2.2++l)))):ae 209 #[gn] w λe w'=>e=(eg v)/\Rds w0 w gb l w':=by
 apply JH.vc;intro v0 e0;have x0:Ext w v0.drew:=(aQ e0).drew;have z0:=zA e0;have zd:=m7 v0;have hgb:=h.row.lt;have um:=hc.ext x0;obtain ⟨τ,Jk⟩:=um.n;refine ⟨_,Jk.at 0 rfl,_,Jk.at 0 rfl,?_⟩;refine (λR' k=>bV (R':=R') (vt um hv.1 (h.ext x0)) k) _ ?_;rintro e w3 ⟨rfl,m3,s3,h3⟩;have z3:=m3.size;have Ox:=um.mod m3;obtain ⟨τ3,hn3⟩:=Ox.n;refine ⟨_,rfl,m3.same _ aa aa,Lo.wv hn3,?_⟩;refine (λR' k=>bV (R':=R') (vt Ox hv.2.1 h3) k) _ ?_;rintro e w5 ⟨rfl,m5,s5,h5⟩;have z5:=m5.size;have hc5:=Ox.mod m5;obtain ⟨τ5,hn5⟩:=hc5.n;refine ⟨_,rfl,m5.same _ aa aa,_,hn5.at 0 rfl,?_⟩;refine (λR' k=>bV (R':=R') (vt hc5 hv.2.2 h5) k) _ ?_;rintro e w8 ⟨rfl,m8,s8,h8⟩;have z8:=m8.size;refine ⟨_,rfl,m8.same _ aa aa,λbo wO=>⟨rfl,?_,s8,?_⟩⟩
 ·have VL:Mod (λi=>i=w.heap.size) w8 bo:=⟨by rw [wO];rfl,by rw [wO];rfl,by rw [wO];rfl,by rw [wO,setRow_size];exact ak _,λi _ hn=>by rw [wO];exact setRow_other _ _ _ _ hn⟩;have mm:=(((Mod.aC x0:Mod (λi=>i=gb) w v0.drew).trans m3).trans m5).trans m8;exact ⟨VL.os.trans mm.os,VL.tape.trans mm.tape,VL.output.trans mm.output,gG mm.size VL.size,λi hi hn=>(VL.same i (kr hi mm.size) aa).trans (mm.same i hi hn)⟩
 ·have xs:Ext w bo\/True:=.inr trivial;refine ⟨?_,h8.lt,h8.row.same (by rw [wO];exact setRow_other _ _ _ _ aa),h8.rd,h8.nc,h8.by_⟩;exact h8.x.ab wO (gG h.x.size (ak _))
end
abbrev TC:TypeId:=219
abbrev Uv(y:cM):cM:=(y.1,(0,0,false))
def wF(L:List (Option cM))(done:List Int):List (Option cM):=(List.range 16).map λi:Nat=>if (i:Int) ∈ done then (bC L i).map Uv else none
def MP(L:List (Option cM))(d:List Int):(wF L d).length=16:=by unfold wF;rw [aL,DT]
def KV{L:List (Option cM)}{d:List Int}{i:Nat}(h:i<16):(wF L d)[i]? =some (if (i:Int) ∈ d then (bC L i).map Uv else none):=by unfold wF;rw [aS,Gl h];rfl
def alm{L:List (Option cM)}{d:List Int}{i:Nat}{y:cM}(h:i<16)(hy:bC L (i:Nat)=some y):(wF L d).set i (some (Uv y))=wF L (d++ [(i:Int)]):=by
 refine jt λj=> ?_
 rcases jq j 16 with hj|hj
 ·rw [iD,MP];split
  ·rename_i e;subst e;rw [KV hj,if_pos (r6 _ (fT.2 rfl)),hy];rfl
  ·rename_i e;rw [KV hj,KV hj];have:((j:Int) ∈ d++ [(i:Int)])=((j:Int) ∈ d):=by rw [bX,fT];exact propext ⟨λq=>q.resolve_right aa,.inl⟩
   simp only [this]
 ·rw [jv (by rw [iE,MP];omega),jv (by rw [MP];omega)]
structure RS(w0 w:World)(gb gq gf gs gn gr:Nat)(now:Int)(av:List (Option Nat))(P:List (Option cM))(sl:Sl)(l:List Int):Prop where
 r:∃s,WV w0 w gb s l
 c:Cx w gb gf gs gn
 f:Row w gf [.bool true] 4
 q:∃cs,cs.length=18/\Row w gq cs TC
 g:Row w gr (.int .i64 now::(av.map pA++ [Value.slice sl.a sl.n sl.c])) TC
 e:EL w av P
 o:w0.heap.size<=gb/\gb<gq/\gq<gf/\gf<gs/\gs<gn/\gn<gr
 a:∀a,some a ∈ av->gr<a
section
variable {w0 w w':World} {gb gq gf gs gn gr:Nat} {now:Int} {av:List (Option Nat)} {P:List (Option cM)} {sl:Sl} {l l':List Int}
def RS.ext(h:RS w0 w gb gq gf gs gn gr now av P sl l)(x:Ext w w'):RS w0 w' gb gq gf gs gn gr now av P sl l:=by obtain ⟨⟨s,h1⟩,h2,h3,⟨cs,hc,h4⟩,h5,h6,h7,h8⟩:=h;exact ⟨⟨s,h1.ext x⟩,h2.ext x,h3.ext x,⟨cs,hc,h4.ext x⟩,h5.ext x,h6.same λa ha=>x.heap (h6.lt ha),h7,h8⟩
def RS.rds(h:RS w0 w gb gq gf gs gn gr now av P sl l)(k:Rds w0 w gb l' w'):RS w0 w' gb gq gf gs gn gr now av P sl l':=by obtain ⟨-,h2,h3,⟨cs,hc,h4⟩,h5,h6,h7,h8⟩:=h;obtain ⟨m,hr⟩:=k;exact ⟨hr,h2.mod m,m.row h3 aa,⟨cs,hc,m.row h4 aa⟩,m.row h5 aa,h6.same λa ha=>m.same a (h6.lt ha) (by have:=h8 a ha;omega),h7,h8⟩
def RS.x0(h:RS w0 w gb gq gf gs gn gr now av P sl l):Ext w0 w:=by obtain ⟨s,q⟩:=h.r;exact q.x
def RS.own(h:RS w0 w gb gq gf gs gn gr now av P sl l){k:Nat}{cs:LV}(hk:gr<k)(hn:some k ∉ av)(e:w'=w.setRow k cs.toArray):RS w0 w' gb gq gf gs gn gr now av P sl l:=by
 have m:∀i,i≠k->w'.heap[i]? =w.heap[i]? :=λi hi=>by rw [e];exact setRow_other _ _ _ _ hi
 have hx:=h.x0;obtain ⟨⟨s,h1⟩,⟨⟨τ,c1⟩,⟨τ',c2⟩,c3⟩,h3,⟨cs',hc,h4⟩,h5,h6,h7,h8⟩:=h;exact ⟨⟨s,h1.x.ab e aa,h1.lt,h1.row.same (m _ aa),h1.rd,h1.nc,h1.by_⟩,⟨⟨τ,c1.same (m _ aa)⟩,⟨τ',c2.same (m _ aa)⟩,c3⟩,h3.same (m _ aa),⟨cs',hc,h4.same (m _ aa)⟩,h5.same (m _ aa),h6.same λa ha=>m a λq=>hn (q▸ha),h7,h8⟩
def RS.alk(h:RS w0 w gb gq gf gs gn gr now av P sl l):Wr w (aD gf) 1/\∀u,u=bF w (aD gf) [.bool true]->RS w0 u gb gq gf gs gn gr now av P sl l/\Mod (λi=>i=gf) w u:=by obtain ⟨p1,p2⟩:=h.f.ic (j:=0) (v:=.bool true) Nat.zero_lt_one rfl;rw [fI] at p1 p2;refine ⟨p1,λu eu=> ?_⟩;obtain ⟨q1,q2⟩:=p2 u eu;obtain ⟨⟨s,h1⟩,⟨⟨τ,c1⟩,⟨τ',c2⟩,c3⟩,h3,⟨cs',hc,h4⟩,h5,h6,h7,h8⟩:=h;exact ⟨⟨⟨s,q2.ext h1.x λi hi=>by omega,h1.lt,q2.row h1.row aa,h1.rd,h1.nc,h1.by_⟩,⟨⟨τ,q2.row c1 aa⟩,⟨τ',q2.row c2 aa⟩,c3⟩,q1,⟨cs',hc,q2.row h4 aa⟩,q2.row h5 aa,h6.same λa ha=>q2.same a (h6.lt ha) (by have:=h8 a ha;omega),h7,h8⟩,q2⟩
def RS.put(h:RS w0 w gb gq gf gs gn gr now av P sl l){i k:Nat}{y:cM}(hi:i<16)(hr:Row w k (G8 y) jF)(hk:gr<k)(hn:some k ∉ av)(hz:av[i]? =some none):
  Wr w (af (fP gr 1) (i*1)) 1/\∀u,u=bF w (af (fP gr 1) (i*1)) [k]->RS w0 u gb gq gf gs gn gr now (av.set i (some k)) (P.set i (some y)) sl l:=by
 obtain ⟨⟨s,h1⟩,⟨⟨τ,c1⟩,⟨τ',c2⟩,c3⟩,h3,⟨cs',hc,h4⟩,h5,h6,h7,h8⟩:=h;have hl:(av.map pA).length=16:=by rw [aL,h6.n]
 obtain ⟨p1,p2⟩:=h5.ic (j:=i+1) (v:=.pointer (aD k)) (by rw [bR,bQ,hl];simp only [bR,lV];omega) rfl;have e:af (fP gr 1) (i*1)=af (aD gr) (i+1):=by rw [aV,aV,show 1+i*1=0+(i+1) from by omega]
 rw [e];refine ⟨p1,λu eu=> ?_⟩;obtain ⟨q1,q2⟩:=p2 u eu;have e2:aP (Value.int .i64 now::(av.map pA++ [Value.slice sl.a sl.n sl.c])) (i+1) [k]=.int .i64 now::((av.set i (some k)).map pA++ [Value.slice sl.a sl.n sl.c]):=by show List.set _ _ _=_;rw [WT,List.set_append_left _ _ (by rw [hl];exact hi),jY];rfl
 rw [e2] at q1;have hkk:k≠gr:=by omega
 refine ⟨⟨s,q2.ext h1.x λi hi=>by omega,h1.lt,q2.row h1.row aa,h1.rd,h1.nc,h1.by_⟩,⟨⟨τ,q2.row c1 aa⟩,⟨τ',q2.row c2 aa⟩,c3⟩,q2.row h3 aa,⟨cs',hc,q2.row h4 aa⟩,q1,?_,h7,λa ha=> ?_⟩
 ·have h6':EL u av P:=h6.same λa ha=>q2.same a (h6.lt ha) (by have:=h8 a ha;omega)
  refine ⟨by rw [iE];exact h6.n,by rw [iE];exact h6.m,λj a hj=> ?_,λj hj=> ?_,λj j' a hj hj'=> ?_⟩
  ·rw [iD] at hj ⊢;split at hj
   ·rename_i e;subst e;rw [h6.n,if_pos hi] at hj;injection hj with hj;injection hj with hj;subst hj;rw [if_pos rfl,h6.m,if_pos hi];exact ⟨y,rfl,q2.row hr hkk⟩
   ·rename_i e;rw [if_neg e];exact h6'.s j a hj
  ·rw [iD] at hj ⊢;split at hj
   ·rw [h6.n,if_pos hi] at hj;injection hj with hj
    cases hj
   ·rename_i e;rw [if_neg e];exact h6'.z j hj
  ·have fr:∀j,av[j]?≠some (some k):=λj q=>hn (aO q)
   rw [iD] at hj hj';split at hj<;>split at hj'
   ·omega
   ·rw [h6.n,if_pos hi] at hj;injection hj with hj;injection hj with hj;subst hj;exact absurd hj' (fr _)
   ·rw [h6.n,if_pos hi] at hj';injection hj' with hj';injection hj' with hj';subst hj';exact absurd hj (fr _)
   ·exact h6.d j j' a hj hj'
 ·obtain ⟨j,hj⟩:=pS ha;rw [iD] at hj;split at hj
  ·rw [h6.n,if_pos hi] at hj;injection hj with hj;injection hj with hj;omega
  ·exact h8 a (aO hj)
end
section
variable {w0 w w':World} {gb gq gf gs gn gr:Nat} {now:Int} {av:List (Option Nat)} {P:List (Option cM)} {sl:Sl} {l l':List Int} {R:Ending->World->Prop}
def RS.sm1{i:Int}(h:RS w0 w gb gq gf gs gn gr now av P sl (i::l))(k:∀w',RS w0 w' gb gq gf gs gn gr now av P sl l->Mod (λi=>i=gb) w w'->R (.returned (.int .i64 i)) w'):
  ∃v,Vc.ld w (aD gs)=some v/\bB Tryz.prog v [(1:Int)] w R:=by
 obtain ⟨s,hr⟩:=h.r;obtain ⟨τ,hs⟩:=h.c.s;refine ⟨_,hs.at 0 rfl,(bV (Iv (gf:=gf) (x:=[i]) hr bg) ?_:bB Tryz.prog (smF gb gf) [.int .i64 (([i]:List Int).length:Int)] w R)⟩;rintro e u ⟨rfl,hu⟩;have:eF [i]=i:=by unfold eF;simp
 rw [this];exact k u (h.rds hu) hu.1
def RS.sm2{i j:Int}(h:RS w0 w gb gq gf gs gn gr now av P sl (i::j::l))(k:∀w',RS w0 w' gb gq gf gs gn gr now av P sl l->Mod (λi=>i=gb) w w'->R (.returned (.int .i64 (i*256+j))) w'):
  ∃v,Vc.ld w (aD gs)=some v/\bB Tryz.prog v [(2:Int)] w R:=by
 obtain ⟨s,hr⟩:=h.r;obtain ⟨τ,hs⟩:=h.c.s;refine ⟨_,hs.at 0 rfl,(bV (Iv (gf:=gf) (x:=[i,j]) hr bg) ?_:bB Tryz.prog (smF gb gf) [.int .i64 (([i,j]:List Int).length:Int)] w R)⟩;rintro e u ⟨rfl,hu⟩;have:eF [i,j]=i*256+j:=by unfold eF;simp
 rw [this];exact k u (h.rds hu) hu.1
def RS.num{n:Int}(hn:AU n)(h:RS w0 w gb gq gf gs gn gr now av P sl (jb n++l))(k:∀w',RS w0 w' gb gq gf gs gn gr now av P sl l->Mod (λi=>i=gb) w w'->R (.returned n) w'):
  ∃v,Vc.ld w (aD gn)=some v/\bB Tryz.prog v [] w R:=by
 obtain ⟨s,hr⟩:=h.r;obtain ⟨τ,hs⟩:=h.c.n;refine ⟨_,hs.at 0 rfl,bV (vt h.c hn hr) ?_⟩;rintro e u ⟨rfl,hu⟩;exact k u (h.rds hu) hu.1
def RS.cV{v:Ce}(hv:AU v.1/\AU v.2.1/\AU v.2.2)(h:RS w0 w gb gq gf gs gn gr now av P sl (jb v.1++(jb v.2.1++(jb v.2.2++l))))(k:∀w',RS w0 w' gb gq gf gs gn gr now av P sl l->Mod (λi=>i=gb) w w'->R (.returned (eg v)) w'):
  ae 209 #[gn] w R:=by
 obtain ⟨s,hr⟩:=h.r;refine (aaN h.c hv hr).mono ?_;rintro e u ⟨rfl,hu⟩;exact k u (h.rds hu) hu.1
def Y0(L:List (Option cM)):(bn L).Pairwise (·<·):=by unfold bn;rw [List.pairwise_map];exact ((List.pairwise_lt_range (n:=16)).filter _).imp λq=>by omega
def RS.free{L:List (Option cM)}{d:List Int}{i:Nat}(h:RS w0 w gb gq gf gs gn gr now av (wF L d) sl l)(hi:i<16)(hd:(i:Int) ∉ d):av[i]? =some none:=by
 have hn:=h.e.n;obtain ⟨o,ho⟩:=bq (l:=av) (i:=i) aa
 cases o with
 |none=>exact ho
 |some a=>
  obtain ⟨x,q,-⟩:=h.e.s i a ho;rw [KV hi,if_neg hd] at q
  cases q
end
def okR(L:List (Option cM)):Prop:=∀(i:Nat)(y:cM),bC L i=some y->y.1.may=true/\∀n ∈ lU y.1,AU n
section
variable {w0 w w':World} {gb gq gf gs gn gr:Nat} {now:Int} {av:List (Option Nat)} {P:List (Option cM)} {sl:Sl} {l l':List Int} {R:Ending->World->Prop}
def aho{v x:Value}(h:av.length=16):(v::(av.map pA++ [x])).length=18:=by rw [bR,bQ,aL,h];rfl
def adn{v x:Value}(h:av.length=16):(v::(av.map pA++ [x]))[17]? =some x:=by rw [DS,qH (by rw [aL];omega),aL,h];rfl
def RS.alj(h:RS w0 w gb gq gf gs gn gr now av P sl l)(s':Sl):Wr w (some ⟨gr,17,none⟩) 1/\∀u,u=bF w (some ⟨gr,17,none⟩) [.slice s'.a s'.n s'.c]->RS w0 u gb gq gf gs gn gr now av P s' l/\Mod (λi=>i=gr) w u:=by
 have hl:=aho (v:=.int .i64 now) (x:=.slice sl.a sl.n sl.c) h.e.n;obtain ⟨p1,p2⟩:=h.g.ic (j:=17) (v:=.slice s'.a s'.n s'.c) (by rw [hl];decide) rfl;rw [aV] at p1 p2;refine ⟨p1,λu eu=> ?_⟩;obtain ⟨q1,q2⟩:=p2 u eu;have e2:aP (Value.int .i64 now::(av.map pA++ [Value.slice sl.a sl.n sl.c])) 17 [.slice s'.a s'.n s'.c]=.int .i64 now::(av.map pA++ [.slice s'.a s'.n s'.c]):=by show List.set _ _ _=_;rw [List.set_cons_succ,List.set_append_right _ _ (by rw [List.length_map,h.e.n];decide),List.length_map,h.e.n];rfl
 rw [e2] at q1;obtain ⟨⟨s,h1⟩,⟨⟨τ,c1⟩,⟨τ',c2⟩,c3⟩,h3,⟨cs',hc,h4⟩,h5,h6,h7,h8⟩:=h;exact ⟨⟨⟨s,q2.ext h1.x λi hi=>by omega,h1.lt,q2.row h1.row (by omega),h1.rd,h1.nc,h1.by_⟩,⟨⟨τ,q2.row c1 (by omega)⟩,⟨τ',q2.row c2 (by omega)⟩,c3⟩,q2.row h3 (by omega),⟨cs',hc,q2.row h4 (by omega)⟩,q1,h6.same λa ha=>q2.same a (h6.lt ha) (by have:=h8 a ha;omega),h7,h8⟩,q2⟩
end
def okW(l:List ej.It):Prop:=∀x ∈ l,AU x.1/\(-2147483648<=x.2.1/\x.2.1<=2147483648)/\(-2147483648<=x.2.2.1/\x.2.2.1<=2147483648)/\-2147483648<=x.2.2.2/\x.2.2.2<=2147483648
def Gy{α:Type}{l:List α}(h:l.length=16):∃a0 a1 a2 a3 a4 a5 a6 a7 a8 a9 Sf IG a12 a13 a14 a15,l=[a0,a1,a2,a3,a4,a5,a6,a7,a8,a9,Sf,IG,a12,a13,a14,a15]:=by
 match l,h with
 | [a0,a1,a2,a3,a4,a5,a6,a7,a8,a9,Sf,IG,a12,a13,a14,a15],_=>exact ⟨_,_,_,_,_,_,_,_,_,_,_,_,_,_,_,_,rfl⟩
abbrev lf9(f s:Ce)(a b:Int):LV:=G8 (⟨f,s,a,b,false⟩,(0,0,false))
def X5{w:World}{s:Sl}{M:Sm}{L:List (Option cM)}(hs:RdK w s 1 (byR (cr M L)))(hc:s.n<=s.c)(hL:okR L)(hW:okW M.q.l)(hM:0<=M.now/\M.now<=1099511627776):
  ae 147 #[s] w λe w'=>∃(av:List (Option Nat))(sl:Sl),e=Value.tuple #[.agg (.int .i64 M.now::(av.map pA++ [Value.slice sl.a sl.n sl.c])).toArray,true]/\Ext w w'/\EL w' av (wF L (bn L))/\(∀a,some a ∈ av->w.heap.size<=a)/\ar w 157 4 w' sl ((M.q.l.take 2000).map fJ):=by
 apply Qe.vc;intro w0 e0 w1 e1 w2 e2 w3 e3 w4 e4 w5 e5 w6 e6 w7 e7;have z0:=zA e0;have z1:=zA e1;have z2:=zA e2;have z3:w3.heap.size=w2.heap.size:=by rw [e3,setRow_size]
 have z4:=zA e4;have z5:w5.heap.size=w4.heap.size:=by rw [e5,setRow_size]
 have z6:=zA e6;have z7:w7.heap.size=w6.heap.size:=by rw [e7,setRow_size]
 have hr:WV w w7 w s (cr M L)/\Cx w7 w.heap.size w1 w3.heap.size w5/\Row w7 w1 [.bool true] 4/\∃cs,cs.length=18/\Row w7 w0 cs TC:=by
  have x1:=aQ e1;have x2:=aQ e2;have x3:Ext w1 w3:=x2.ab e3 (ak _);have x5:Ext w3 w5:=(aQ e4).ab e5 (ak _);have x7:Ext w5 w7:=(aQ e6).ab e7 (ak _);have lh:=x5.tr x7;have dH:=x3.tr lh;have x07:=x1.tr dH;have r0:Row w0 w [s] tBy:=Row.nw e0;have r1:Row w1 w0 [ai,.pointer none,.pointer none,.pointer none,.pointer none,.pointer none,.pointer none,.pointer none,.pointer none,.pointer none,.pointer none,.pointer none,.pointer none,.pointer none,.pointer none,.pointer none,.pointer none,.slice none 0 0] TC:=Row.nw e1;have r3:Row w3 w1 [.bool true] 4:=by rw [e3];exact Row.set (by rw [e2];exact Row.new w1 [_] _) _
  have r5:Row w5 w3 [smF w.heap.size w1] 88:=by rw [e5];exact Row.set (by rw [e4];exact Row.new w3 [_] _) _
  have r7:Row w7 w5 [nmF w3] 122:=by rw [e7];exact Row.set (by rw [e6];exact Row.new w5 [_] _) _
  exact ⟨⟨(aQ e0).tr x07,ak _,r0.ext x07,hs,hc,MO M L⟩,⟨⟨_,r5.ext x7⟩,⟨_,r7⟩,aa,aa⟩,r3.ext lh,_,rfl,r1.ext dH⟩
 obtain ⟨hr,hcx,hf,cs,uu,hq⟩:=hr;have eB:cr M L=jb M.now++(((bn L).length:Int) % 256::(dT L (bn L)++gl M.q.l)):=by unfold cr dh;simp only [fz,List.cons_append,Pn]
 rw [eB] at hr;obtain ⟨τ,hn⟩:=hcx.n;refine ⟨_,hn.at 0 rfl,?_⟩;refine (λR' k=>bV (R':=R') (vt hcx (n:=M.now) aa hr) k) _ ?_;rintro e w9 ⟨rfl,m9,s9,h9⟩;have z9:=m9.size;refine ⟨_,rfl,m9.same _ aa aa,λbw BG cC Fy=> ?_⟩;have z11:=zA BG;have z12:cC.heap.size=bw.heap.size:=by rw [Fy,setRow_size]
 have bW:Ext w9 cC:=(aQ BG).ab Fy (ak _);have g12:Row cC w9 (.int .i64 M.now::((List.replicate 16 none).map pA++ [.slice none 0 0])) TC:=by rw [Fy];exact Row.set (by rw [BG];exact Row.new w9 [_,_,_,_,_,_,_,_,_,_,_,_,_,_,_,_,_,_] _) _
 have H12:RS w cC w w0.heap.size w1.heap.size w3.heap.size w5 w9.heap.size M.now (List.replicate 16 none) (wF L []) ⟨none,0,0⟩ (((bn L).length:Int) % 256::(dT L (bn L)++gl M.q.l)):=by
  refine ⟨⟨s9,h9.ext bW⟩,(hcx.mod m9).ext bW,(m9.row hf aa).ext bW,⟨cs,uu,(m9.row hq aa).ext bW⟩,g12,⟨bg,MP _ _,λi a q=> ?_,λi q=> ?_,λi j a q=> ?_⟩,aa,λa ha=> ?_⟩
  ·rw [AV] at q;split at q<;>cases q
  ·have:i<16:=by
    rw [AV] at q;split at q
    ·assumption
    ·cases q
   rw [KV this];rfl
  ·rw [AV] at q;split at q<;>cases q
  ·cases List.eq_of_mem_replicate ha
 refine ⟨λu=>RS w u w w0.heap.size w1.heap.size w3.heap.size w5 w9.heap.size M.now (List.replicate 16 none) (wF L []) ⟨none,0,0⟩ (((bn L).length:Int) % 256::(dT L (bn L)++gl M.q.l)),?_,?_⟩
 ·refine ⟨true,H12.f.at 0 rfl,M.now,H12.g.at 0 rfl,Br.mk (λ_=>⟨M.now,H12.g.at 0 rfl,?_⟩) (λq=> ?_)⟩
  ·dsimp only;rw [show decide (M.now<=1099511627776)=true from decide_eq_true hM.2];obtain ⟨p1,p2⟩:=H12.alk;exact ⟨p1,λu eu=>(p2 u eu).1⟩
  ·have q:=cS q;omega
 generalize hgb:w.heap.size=gb at*;generalize hgq:w0.heap.size=gq at*;generalize hgf:w1.heap.size=gf at*;generalize hgs:w3.heap.size=gs at*;generalize hgn:w5.heap.size=gn at*;generalize hgr:w9.heap.size=gr at*;intro us dU H21;refine ⟨λu=>∃av,RS w u gb gq gf gs gn gr M.now av (wF L (bn L)) ⟨none,0,0⟩ (gl M.q.l),H21.sm1 λgC H24 m24=>⟨_,rfl,λn x b u=>∃(d r:List Int)(av:List (Option Nat)),bn L=d++r/\x=r.length/\n=r.length/\(∀i ∈ r,b<i)/\RS w u gb gq gf gs gn gr M.now av (wF L d) ⟨none,0,0⟩ (dT L r++gl M.q.l),⟨_,[],bn L,_,rfl,?_,rfl,λi hi=> ?_,H24⟩,?_⟩,?_⟩
 ·have:=vu L;omega
 ·obtain ⟨j,rfl,-⟩:=vv hi;omega
 ·rintro n us x b gS ⟨d,r,av,hdr,rfl,rfl,hb,H31⟩
  cases r with
  |nil=>
   refine Br.mk (λhq=> ?_) (λ_=> ?_)
   ·simp at hq
   ·rw [mA] at hdr;rw [hdr];exact ⟨av,H31⟩
  |cons i0 r=>
  refine Br.mk (λ_=>⟨true,H31.f.at 0 rfl,?_⟩) (λhq=>by rw [bR] at hq;simp at hq);obtain ⟨i,rfl,hi,y,hy⟩:=vv (L:=L) (x:=i0) (hdr▸r6 _ (List.mem_cons_self ..));have hps:=Y0 L;rw [hdr] at hps;obtain ⟨-,V8,hp3⟩:=List.pairwise_append.1 hps;have Td:(i:Int) ∉ d:=λq=>by have:=hp3 _ q _ (List.mem_cons_self ..);omega
  have hmr:∀j ∈ r,(i:Int)<j:=(List.pairwise_cons.1 V8).1;obtain ⟨ai6,h47⟩:=hL i y hy;have eR:dT L ((i:Int)::r)++gl M.q.l=(i:Int)::(jb y.1.aq.1++(jb y.1.aq.2.1++(jb y.1.aq.2.2++(jb y.1.speed.1++(jb y.1.speed.2.1++(jb y.1.speed.2.2++(jb y.1.wd++(jb y.1.ht++(stB y.1.fG::(dT L r++gl M.q.l)))))))))):=by unfold dT;rw [eQ,jC];unfold DX;rw [hy];unfold iN my;simp only [eQ,List.map_nil,jC,List.flatten_nil,fz,List.cons_append,Pn,mA]
  rw [eR] at H31;have q1:=h47 _ (List.mem_cons_self ..);have q2:=h47 y.1.aq.2.1 bg;have q3:=h47 y.1.aq.2.2 bg;have q4:=h47 y.1.speed.1 bg;have q5:=h47 y.1.speed.2.1 bg;have q6:=h47 y.1.speed.2.2 bg;have q7:=h47 y.1.wd bg;have q8:=h47 y.1.ht bg;have haz:=H31.free hi Td;refine H31.sm1 λgT H35 m35=>⟨_,rfl,λiR Tg=> ?_⟩
  have z37:=zA Tg;have r37:Row iR gT [ai,ai,ai,ai,ai,ai,ai,ai,false,ai,ai,false] jF:=Row.nw Tg;have hk:gr<gT:=H35.g.lt;have hka:some gT.heap.size ∉ av:=λq=>by have:=H35.e.lt q;omega
  have LS:gT.heap.size≠gb:=by have:=H35.o;omega
  have H37:=H35.ext (aQ Tg);generalize gT=k at*;refine RS.cV (v:=y.1.aq) ⟨q1,q2,q3⟩ H37 λoE H38 m38=>⟨_,_,_,rfl,m38.same _ r37.lt LS,λlf XE=> ?_⟩
  have H42:=H38.own hk hka XE;have r42:Row lf k (lf9 y.1.aq (0,0,0) 0 0) jF:=by rw [XE];exact Row.set (m38.row r37 LS) _
  refine RS.cV (v:=y.1.speed) ⟨q4,q5,q6⟩ H42 λjW H43 m43=>⟨_,_,_,rfl,m43.same _ r42.lt LS,λnA e47=> ?_⟩
  have H47:=H43.own hk hka e47;have r47:Row nA k (lf9 y.1.aq y.1.speed 0 0) jF:=by rw [e47];exact Row.set (m43.row r42 LS) _
  refine RS.num q7 H47 λpG H49 m49=>⟨_,rfl,m49.same _ r47.lt LS,λuL e51=> ?_⟩
  have H51:=H49.own hk hka e51;have r51:Row uL k (lf9 y.1.aq y.1.speed y.1.wd 0) jF:=by rw [e51];exact Row.set (m49.row r47 LS) _
  refine RS.num q8 H51 λTp H53 m53=>⟨_,rfl,m53.same _ r51.lt LS,λxm e55=> ?_⟩
  have H55:=H53.own hk hka e55;have r55:Row xm k (lf9 y.1.aq y.1.speed y.1.wd y.1.ht) jF:=by rw [e55];exact Row.set (m53.row r51 LS) _
  refine RS.sm1 H55 λnB H57 m57=>⟨_,rfl,m57.same _ r55.lt LS,λqE Tn=> ?_⟩
  have H59:=H57.own hk hka Tn;have eS:(stB y.1.fG==1)=y.1.fG:=by cases y.1.fG<;>rfl
  have hS:stB y.1.fG<=1:=by cases y.1.fG<;>decide
  rw [eS] at Tn;have r59:Row qE k (G8 (Uv y)) jF:=by rw [Tn];exact Row.set (m57.row r55 LS) (G8 (Uv y))
  have hbi:=hb i (List.mem_cons_self ..);refine ⟨λu=>RS w u gb gq gf gs gn gr M.now av (wF L d) ⟨none,0,0⟩ (dT L r++gl M.q.l)/\Row u k (G8 (Uv y)) jF,⟨true,H59.f.at 0 rfl,Br.mk (λ_=>Br.mk (λ_=>Br.mk (λ_=>Br.mk (λ_=> ?_) (λhq=> ?_)) (λhq=> ?_)) (λhq=> ?_)) (λhq=>by cases hq)⟩,?_⟩
  ·refine ⟨_,_,_,_,_,_,_,_,_,r59.bI (vs:=kc y.1) (λj hj=> ?_),(Qc y.1 qE).mono ?_⟩
   ·rcases (show j=0\/j=1\/j=2\/j=3\/j=4\/j=5\/j=6\/j=7\/j=8 by simp at hj;omega) with rfl|rfl|rfl|rfl|rfl|rfl|rfl|rfl|rfl<;>rfl
   rintro e w71 ⟨rfl,uM⟩;have H71:=H59.ext uM;obtain ⟨p1,p2⟩:=H71.alk;refine ⟨_,rfl,p1,λu eu=> ?_⟩;rw [ai6] at eu;have hkf:k≠gf:=by have:=H71.o;omega
   exact ⟨(p2 u eu).1,(p2 u eu).2.row (r59.ext uM) hkf⟩
  ·simp at hq;omega
  ·simp at hq;omega
  ·simp at hq;omega
  rintro us Ki ⟨H79,r79⟩;refine ⟨true,H79.f.at 0 rfl,?_⟩;obtain ⟨p1,p2⟩:=H79.put hi r79 hk hka haz;refine ⟨aa,aa,⟨rfl,p1⟩,λu eu=>⟨r.length,by rw [bR];omega,d++ [(i:Int)],r,av.set i (some k),by rw [hdr,fz];rfl,?_,rfl,hmr,?_⟩⟩
  ·rw [bR,aK (by unfold dJ;have:=vu L;rw [hdr,bQ,bR] at this;omega)];omega
  ·rw [<-alm hi hy];exact p2 u eu
 rintro us XF ⟨av,H83⟩;generalize hWW:M.q.l.take 2000=W;have hWl:W.length=min M.q.l.length 2000:=by rw [<-hWW,cY,Nat.min_comm]
 have hWk:okW W:=λx hx=>hW x (mB (hWW▸hx))
 have eW:gl M.q.l=((W.length:Nat):Int) / 256 % 256::((W.length:Nat):Int) % 256::(W.map eN).flatten:=by unfold gl;rw [hWW,hWl];rfl
 rw [eW] at H83;have o83:=H83.o;have g83:=H83.g.lt;generalize hB:XF.heap.size=B at*;have haB:∀a,some a ∈ av->a<B:=λa ha=>hB▸H83.e.lt ha
 refine ⟨λu=>∃sl,RS w u gb gq gf gs gn gr M.now av (wF L (bn L)) sl []/\ar B 157 4 u sl (W.map fJ),H83.sm2 λw86 H86 m86=>⟨_,rfl,λn x u=>∃(k:Nat)(sl:Sl),k+n=W.length/\x=n/\B<=u.heap.size/\RS w u gb gq gf gs gn gr M.now av (wF L (bn L)) sl ((W.drop k).map eN).flatten/\ar B 157 4 u sl ((W.take k).map fJ),⟨W.length,0,⟨none,0,0⟩,aa,aa,hB▸m86.size,H86,ar.nil⟩,?_⟩,?_⟩
 ·rintro n us x Kg ⟨k,sl,Xz,rfl,aGN,H92,K92⟩;refine Br.mk (λhq=>⟨true,H92.f.at 0 rfl,?_⟩) (λhq=>by
   have hq:=cS hq;obtain rfl:k=W.length:=by omega
   rw [List.drop_length] at H92;rw [jg] at K92;exact ⟨sl,H92,K92⟩)
  have hq:=cS hq;obtain ⟨it,hit⟩:=bq (l:=W) (i:=k) aa;have bc:=hWk it (aO hit);obtain ⟨t1,t2,t3,t4⟩:=bc;have eD:((W.drop k).map eN).flatten=jb it.1++(jb it.2.1++(jb it.2.2.1++(jb it.2.2.2++((W.drop (k+1)).map eN).flatten))):=by
   have:W.drop k=it::W.drop (k+1):=by obtain ⟨iQ,he⟩:=bZ.1 hit;rw [ue iQ,he]
   rw [this,eQ,jC];unfold eN my;simp only [eQ,List.map_nil,jC,List.flatten_nil,fz,mA]
  rw [eD] at H92;have F7:∀g,sl.aZ=some g->B<=g/\g<Kg.heap.size:=λg hg=>K92.own.lt hg
  have uT:sl.n=k:=by have:=(K92.rd (show 0<4 by decide)).n;rw [aL,cY] at this;omega
  refine RS.num t1 H92 λEs H96 m96=>⟨_,rfl,λTj e98 Jh e99=> ?_⟩
  have z96:=m96.size;have z98:=zA e98;have z99:=zR e99;have Ol:Ext Es Jh:=(aQ e98).ab e99 (ak _);have r99:Row Jh Es (fJ (it.1,0,0,0)) 157:=by rw [e99];exact Row.set (by rw [e98];exact Row.new Es [_,_,_,_] _) _
  have K99:=(K92.aW λg hg=>m96.same g (F7 g hg).2 (by have:=F7 g hg;omega)).ext Ol;have H99:=H96.ext Ol;refine RS.cV (v:=it.2) ⟨by unfold AU;omega,by unfold AU;omega,by unfold AU;omega⟩ H99 λpo ayX ai8=>⟨_,_,_,rfl,ai8.same _ aa aa,λabh asA BP asB zD ai9=> ?_⟩
  have ayY:=ai8.size;have aGS:=zA asA;have aGT:=zR asB;have aGU:=zR ai9;have zC:Ext po BP:=(aQ asA).ab asB (ak _);have ayZ:=(ai8.row r99 aa).ext zC;have ay0:=(K99.aW λg hg=>ai8.same g (by have:=F7 g hg;omega) (by have:=F7 g hg;omega)).ext zC;have hka:some Es.heap.size ∉ av:=λq=>by have:=haB _ q;omega
  have ay1:=(ayX.ext zC).own aa hka ai9;have ay2:=ay0.aW (w':=zD) λg hg=>by rw [ai9];exact setRow_other _ _ _ _ (by have:=F7 g hg;omega)
  have ay3:Row zD Es (fJ it) 157:=by rw [ai9];exact Row.set ayZ _
  have zd:=m7 zD;have xd:=Ext.dr zD;have Hd:=ay1.ext xd;have Kd:=ay2.ext xd;have rd:=ay3.ext xd;refine ⟨λu=>RS w u gb gq gf gs gn gr M.now av (wF L (bn L)) sl ((W.drop (k+1)).map eN).flatten/\ar B 157 4 u sl ((W.take k).map fJ)/\zD.heap.size<=u.heap.size,⟨true,Hd.f.at 0 rfl,Br.mk (λ_=>(Qk it.2 ⟨t2,t3,t4⟩ _).mono ?_) (λhq=>by cases hq)⟩,?_⟩
  ·rintro e rE ⟨rfl,sK⟩;have ay4:=sK.size;have abz:=Hd.ext sK;have ay5:=Kd.ext sK;have ay6:=rd.ext sK;refine ⟨_,_,_,rfl,sK.heap aa,ay6.bI (λj hj=> ?_),Lo.wv abz.f,Br.mk (λ_=>⟨sl,?_,?_⟩) (λhq=> ?_)⟩
   ·rcases (show j=0\/j=1\/j=2 by simp at hj;omega) with rfl|rfl|rfl<;>rfl
   ·have:=abz.g.at 17 (adn abz.e.n);rw [aV] at this;exact this
   ·obtain ⟨p1,p2⟩:=abz.alk;refine ⟨p1,λq=> ?_,λu eu=>⟨rfl,?_⟩⟩
    ·have q:gf=Es.heap.size:=Option.some.inj q;have:=abz.o;omega
    ·rw [show decide (((sl.n:Nat):Int)<2000)=true from decide_eq_true aa] at eu;obtain ⟨p3,p4⟩:=p2 u eu;exact ⟨p3,ay5.aW λg hg=>p4.same g (by have:=F7 g hg;omega) (by have:=F7 g hg;have:=abz.o;omega),by have:=p4.size;omega⟩
   ·simp at hq
  ·rintro us ou ⟨aja,ay7,aGV⟩;have Sg:=aja.g.at 17 (adn aja.e.n);rw [aV] at Sg;refine ⟨sl,Sg,λxt asC=> ?_⟩;have aGW:=zA asC;subst asC;obtain ⟨hp,bf⟩:=ay7.j9 (bytes:=32) (news:=fJ it) (.cells (fJ it).toArray 157) aa rfl (Q.ta it) aa aa;refine ⟨hp,λan7 uR asD=> ?_⟩;obtain ⟨f1,f2,f3,f4,f5,f6⟩:=bf an7 uR asD;have aGX:=f4.size;have z92:Es.heap.size+1<=ou:=by omega
   have Jf:∀j,j<ou.heap.size->(∀g,sl.aZ=some g->g≠j)->uR.heap[j]? =ou.heap[j]? :=λj hj hn=>f5 j (λq=>hn j q rfl) hj
   have abn:∀j,j<ou.heap.size->(ou.alloc (.cells (fJ it).toArray 157)).heap[j]? =ou.heap[j]? :=λj hj=>(Ext.al ou _).heap hj
   have ay8:RS w uR gb gq gf gs gn gr M.now av (wF L (bn L)) sl ((W.drop (k+1)).map eN).flatten:=by
    have hn:∀j,j<B->uR.heap[j]? =ou.heap[j]? :=λj hj=>Jf j aa λg hg=>by have:=F7 g hg;omega
    have o:=aja.o;obtain ⟨⟨s,h1⟩,⟨⟨τ,c1⟩,⟨τ',c2⟩,c3⟩,h3,⟨cs',hc,h4⟩,h5,h6,h7,h8⟩:=aja;exact ⟨⟨s,h1.x.trans (f4.mono aa),h1.lt,h1.row.same (hn _ aa),h1.rd,h1.nc,h1.by_⟩,⟨⟨τ,c1.same (hn _ aa)⟩,⟨τ',c2.same (hn _ aa)⟩,c3⟩,h3.same (hn _ aa),⟨cs',hc,h4.same (hn _ aa)⟩,h5.same (hn _ aa),h6.same λa ha=>hn _ (haB a ha),h7,h8⟩
   obtain ⟨p1,p2⟩:=ay8.alj an7;refine ⟨(Jf _ aa λg hg=>by have:=F7 g hg;omega).trans (abn _ aa).symm,f1,p1,λq=> ?_,λq=> ?_,λu eu=> ?_⟩
   ·have q:gr=Es.heap.size:=Option.some.inj q;omega
   ·have q:gr=ou.heap.size:=Option.some.inj q;omega
   ·obtain ⟨p3,p4⟩:=p2 u eu;have:=p4.size;refine ⟨n-1,aa,k+1,an7,aa,by rw [wI];omega,aa,p3,?_⟩;have eT:(W.take (k+1)).map fJ=(W.take k).map fJ++ [fJ it]:=by rw [dy,hit,bJ];rfl
    rw [eT];exact f2.aW (w':=u) λg hg=>p4.same g (f2.own.lt hg).2 (by have:=(f2.own.lt hg).1;omega)
 rintro us pq ⟨sl,ay9,aza⟩;have Hd:=ay9.ext (Ext.dr pq);have Kd:=aza.ext (Ext.dr pq);have hx:=Hd.x0;have ho:=Hd.o;obtain ⟨a0,a1,a2,a3,a4,a5,a6,a7,a8,a9,Sf,IG,a12,a13,a14,a15,rfl⟩:=Gy Hd.e.n;obtain ⟨s1,hr1⟩:=Hd.r;have Dp:s1.n=0:=hr1.n;obtain ⟨cs',hc',hq'⟩:=Hd.q;refine ⟨_,_,_,_,_,_,_,_,_,_,_,_,_,_,_,_,_,_,Lo.wv Hd.g,true,Hd.f.at 0 rfl,s1,hr1.row.at 0 rfl,hq'.wr (o:=0) (n:=18) aa,λSX azb=> ?_⟩;have XL:=azb.trans (hq'.bF (o:=0) (by rw [hc'];exact ak 18) (by
  show ∀u ∈ _,_
  repeat' (refine List.forall_mem_cons.2 ⟨rfl,?_⟩)
  exact λ_ q=>by cases q))
 rw [dE (by rw [hc'];rfl)] at XL;have ajb:∀j,j≠gq->SX.heap[j]? =pq.drew.heap[j]? :=λj hj=>by rw [XL];exact setRow_other _ _ _ _ hj
 have azc:Row SX gq (.int .i64 M.now::([a0,a1,a2,a3,a4,a5,a6,a7,a8,a9,Sf,IG,a12,a13,a14,a15].map pA++ [Value.slice sl.a sl.n sl.c])) TC:=by rw [XL];exact Row.set hq' _
 refine ⟨Lo.wv (hr1.row.same (ajb _ aa)),Lo.wv (Hd.f.same (ajb _ aa)),_,_,_,_,_,_,_,_,_,_,_,_,_,_,_,_,_,_,Lo.wv azc,[a0,a1,a2,a3,a4,a5,a6,a7,a8,a9,Sf,IG,a12,a13,a14,a15],sl,by rw [Dp];rfl,hx.ab XL aa,Hd.e.same λa ha=>ajb a (by have:=Hd.a a ha;omega),λa ha=>by have:=Hd.a a ha;omega,(Kd.aW (w':=SX) λg hg=>ajb g (by have:=(Kd.own.lt hg).1;omega)).low aa⟩
def acL{l:List Go.ej.It}{x:Go.ej.It}(h:∀y ∈ l,y.1<=x.1):uB l x=l++ [x]:=by
 unfold uB;have key:∀(l:List Go.ej.It),(∀y ∈ l,y.1<=x.1)->l.takeWhile (λy=>decide (y.1<=x.1))=l/\l.dropWhile (λy=>decide (y.1<=x.1))=[]:=by
  intro l
  induction l with
  |nil=>intro _;exact ⟨rfl,rfl⟩
  |cons y l ih=>
   intro h;obtain ⟨i1,i2⟩:=ih λz hz=>h z (.tail _ hz)
   have hy:=decide_eq_true (h y (.head _));exact ⟨by rw [List.takeWhile_cons_of_pos (by exact hy),i1],by rw [List.dropWhile_cons_of_pos (by exact hy),i2]⟩
 obtain ⟨e1,e2⟩:=key l h;rw [e1,e2]
def GX:∀(xs pre:List Go.ej.It),BT ⟨4096,0,pre++xs⟩->EA ⟨4096,0,pre⟩ xs=(⟨4096,0,pre++xs⟩,xs.length)
 | [],pre,_=>by rw [mA];rfl
 |x::xs,pre,h=>by
  have dp:=h.len
  simp only [bQ,bR] at dp
  have l8:∀y ∈ pre,y.2≠x.2:=λy hy q=>by
   have hn:=h.nodup
   simp only [bJ,eQ] at hn
   exact (sh.1 hn).2.2 _ (aU.2 ⟨y,hy,rfl⟩) _ (.head _) q
  have hle:∀y ∈ pre,y.1<=x.1:=λy hy=>(List.pairwise_append.1 h.sorted).2.2 y hy x (.head _)
  have ha:mj ⟨4096,0,pre⟩ x.2 x.1=(⟨4096,0,pre++ [x]⟩,true):=by rw [acM l8 (by simp only;omega)];rw [acL (x:=(x.1,x.2)) hle]
  have ih:=GX xs (pre++ [x]) (by rw [fz];exact h);unfold EA;rw [ha];simp only;rw [ih,fz];simp [u9]section
variable {F F':Nat->Prop} {w w':World} {s o t:Nat} {M M':Sm} {occ:Value} {O:Ce->Bool}
def An(h:SF F w s o t M occ)(n:Int)(a:Sl)(xs:List Go.ej.It)(ha:RdK w a 4 (xs.map fJ))(iQ:∀b,a.aZ=some b->b<w.heap.size/\¬F b)(hq:BT ⟨4096,0,xs⟩):
  Calls Tryz.prog 94 #[.pointer (some ⟨s,0,none⟩),.int .i64 n,.slice a.a a.n a.c] w λe w'=>e=.returned (.int .i64 xs.length)/\mC F w s o t {M with q:=⟨4096,0,xs⟩,now:=min (max n 0) 1099511627776} occ w':=by
 obtain ⟨g,m,qs,Fw,sd,h1,h2,hq0,h3,h4,h5,rfl⟩:=h;have hFs:=h1.lt;apply (EB.vc (a2:=a));have en:(if 1099511627776<(if 0>n then 0 else n) then 1099511627776 else (if 0>n then 0 else n))=min (max n 0) 1099511627776:=by split<;>split<;>omega
 obtain ⟨p1,p2⟩:=h1.ic (j:=3) (v:=.int .i64 (min (max n 0) 1099511627776)) (by simp [smC]) rfl;refine ⟨⟨rfl,p1⟩,λw0 e0=> ?_⟩;rw [en] at e0;obtain ⟨r0,m0⟩:=p2 w0 e0;refine (Q.AA 4096 w0).mono ?_;rintro e w1 ⟨g',m',rfl,hn,x1,hg,hm⟩;have r1:=r0.ext x1;obtain ⟨p3,p4⟩:=r1.ic (j:=0) (v:=.pointer (some ⟨g',0,none⟩)) (by simp [smC,aP]) rfl;refine ⟨_,rfl,⟨rfl,p3⟩,λw3 e3=> ?_⟩;obtain ⟨r3,m3⟩:=p4 w3 e3;have mm:Mod (λi=>i=s) w w3:=(m0.trans (Mod.aC x1)).trans m3;have z3:=mm.size;have z0:=m0.size;have z13:=m3.size;have hn3:Q.uC w3 g' m' ⟨none,0,0⟩ ⟨4096,0,[]⟩:=Q.uC.aW (q:=⟨4096,0,[]⟩) hn m3 λi hi e=>by
  rcases hi with hi|hi|hi
  ·omega
  ·omega
  ·cases hi
 have ha3:RdK w3 a 4 (xs.map fJ):=mm.rdK (by decide) ha λ_ b hb e=>(iQ b hb).2 (.inl e)
 have dp:=hq.len;refine ⟨_,r3.at 0 rfl,(Q.acO hn3 acP ⟨Int.le_refl _,by simp only at dp ⊢;omega⟩ ha3 (λb hb=>by have:=(iQ b hb).1;omega) (λb hb hf=>by
  have:=(iQ b hb).1;rcases hf with hf|hf|hf
  ·omega
  ·omega
  ·cases hf)).mono ?_⟩
 have aiE:=GX xs [] (by rw [List.nil_append];exact hq);rw [List.nil_append] at aiE;rw [aiE];rintro e w5 ⟨rfl,s',hq5,ht⟩;have q1:∀b,sd.aZ=some b->b≠s:=λb hb=>by obtain ⟨cs',hr'⟩:=aY h4 (by decide) hb;exact hr'.ne h1 (by decide)
 have q2:=h3.dA h1 (by decide) (by decide) (by decide);have hft:∀i,i<w.heap.size->¬Q.g7 g' m' ⟨none,0,0⟩ i:=λi hi hf=>by
  rcases hf with hf|hf|hf
  ·omega
  ·omega
  ·cases hf
 have zg:∀i,Q.g7 g' m' s' i->w.heap.size<=i:=λi hi=>by
  rcases ht.sub i hi with q|q
  ·by_cases hx:i<w.heap.size
   ·exact absurd q (hft i hx)
   ·omega
  ·omega
 have hW5:=(h3.aW mm λi hi e=>q2 (e▸hi)).aW ht.mod λi hi=>hft i (h3.lt hi)
 have hd5:=ht.mod.gU (mm.gU h4 q1) λb hb=>hft b (h4.own.lt hb).2
 have hr5:=ht.mod.row r3 (hft s hFs);refine ⟨_,rfl,rfl,_,⟨g',m',s',Fw,sd,hr5,hq5,hq,hW5,hd5,λi hi hf=>by have:=zg i hi;have:=h3.lt hf;omega,rfl⟩,⟨by rw [ht.mod.os,mm.os],by rw [ht.mod.tape,mm.tape],by rw [ht.mod.output,mm.output],Nat.le_trans z3 ht.mod.size,λi hi hn=> ?_⟩,λi hi=> ?_⟩
 ·exact (ht.mod.same i (by omega) (hft i hi)).trans (mm.same i hi λe=>hn (.inl e))
 ·rcases hi with hi|hi|hi|hi
  ·exact .inl (.inl hi)
  ·exact .inr (zg i hi)
  ·exact .inl (.inr (.inr (.inl hi)))
  ·exact .inl (.inr (.inr (.inr hi)))
end
section
variable {F:Nat->Prop} {w:World} {g s o t:Nat} {M M':Sm} {occ:Value} {L L0:List (Option cM)}
def Js(h:EF F w g s o t M occ L0){a:Sl}(ha:RdK w a 1 (byR (cr M' L)))(hc:a.n<=a.c)(hL:okR L)(hW:okW M'.q.l)(hM:0<=M'.now/\M'.now<=1099511627776)(hq:BT ⟨4096,0,M'.q.l.take 2000⟩):
  ae 93 #[g,.slice a.a a.n a.c] w λe w'=>e=(0:Int)/\gJ F w g s o t {M with q:=⟨4096,0,M'.q.l.take 2000⟩,now:=M'.now} occ (wF L (bn L)) w':=by
 apply (uA.vc (a1:=a));refine (X5 ha hc hL hW hM).mono ?_;rintro e w0 ⟨av,sq,rfl,x0,kq,hav,hrq⟩;have z0:=x0.size;obtain ⟨a0,a1,a2,a3,a4,a5,a6,a7,a8,a9,Sf,IG,a12,a13,a14,a15,rfl⟩:=Gy kq.n;refine ⟨_,_,_,_,_,_,_,_,_,_,_,_,_,_,_,_,_,_,_,rfl,λfx Nz dU zh=> ?_⟩;have z20:=zA Nz;have z21:=zR zh;have amm:Ext w0 dU:=(aQ Nz).ab zh (ak _);have r21:Row dU w0 (.int .i64 M'.now::([a0,a1,a2,a3,a4,a5,a6,a7,a8,a9,Sf,IG,a12,a13,a14,a15].map pA++ [Value.slice sq.a sq.n sq.c])) TC:=by rw [zh];exact Row.set (by rw [Nz];exact Row.new w0 [_,_,_,_,_,_,_,_,_,_,_,_,_,_,_,_,_,_] _) _
 have eO:=x0.tr amm;obtain ⟨Fs,av0,c9,hsf,hel0,rfl⟩:=h;have ng:¬Fs g:=hsf.jf c9 lA.1.1 lA.1.2.1 lA.1.2.2.1 lA.1.2.2.2.1 lA.1.2.2.2.2.1 lA.1.2.2.2.2.2.1 lA.1.2.2.2.2.2.2;have hFl:∀{i},Fs i->i<w.heap.size:=λhi=>hsf.lt hi
 have hrow21:=c9.ext eO;have hgw:=c9.lt;have Sg:(Value.pointer (aD s)::av0.map pA).length=17:=by rw [bR,aL,hel0.n]
 have ep:af (aD g) 1=some ⟨g,1,none⟩:=aV ..;rw [ep];refine ⟨⟨rfl,hrow21.wr (o:=1) (n:=16) (by rw [Sg];exact ak 17)⟩,λq=> ?_,λdm zi=> ?_⟩
 ·have q:g=w0.heap.size:=Option.some.inj q;omega
 have Db:=zi.trans (hrow21.bF (o:=1) (by rw [Sg];exact ak 17) (by
  show ∀u ∈ _,_
  repeat' (refine List.forall_mem_cons.2 ⟨rfl,?_⟩)
  exact λ_ q=>by cases q))
 have ecs:aP (Value.pointer (aD s)::av0.map pA) 1 ([a0,a1,a2,a3,a4,a5,a6,a7,a8,a9,Sf,IG,a12,a13,a14,a15].map pA)=.pointer (aD s)::[a0,a1,a2,a3,a4,a5,a6,a7,a8,a9,Sf,IG,a12,a13,a14,a15].map pA:=by obtain ⟨b0,b1,b2,b3,b4,b5,b6,b7,b8,b9,b10,b11,b12,Oi,b14,Te,rfl⟩:=Gy hel0.n;rfl
 have r22:Row dm g (.pointer (aD s)::[a0,a1,a2,a3,a4,a5,a6,a7,a8,a9,Sf,IG,a12,a13,a14,a15].map pA) rZ:=by rw [<-ecs,Db];exact Row.set hrow21 _
 have o22:∀j,j≠g->dm.heap[j]? =dU.heap[j]? :=λj hj=>by rw [Db];exact setRow_other _ _ _ _ hj
 have z22:dm.heap.size=dU.heap.size:=by rw [Db,setRow_size]
 have m22:Mod (λi=>i=g) dU dm:=⟨by rw [Db];rfl,by rw [Db];rfl,by rw [Db];rfl,Nat.le_of_eq z22.symm,λi _ hn=>o22 i hn⟩;have mm:Mod (λi=>i=g) w dm.drew:=((Mod.aC eO).trans m22).trans (Mod.aC (Ext.dr dm));have amn:SF Fs dm.drew s o t M occ:=hsf.same λi hi=>mm.same i (hFl hi) λq=>ng (q▸hi)
 have aqZ:EL dm.drew [a0,a1,a2,a3,a4,a5,a6,a7,a8,a9,Sf,IG,a12,a13,a14,a15] (wF L (bn L)):=kq.same λa ha=>(o22 a (by have:=hav a ha;omega)).trans (amm.heap (kq.lt ha))
 have aq0:=hrq.ext amm;have amo:=aq0.aW (w':=dm.drew) λb hb=>o22 b (by have:=(aq0.own.lt hb).1;omega)
 have jj:=amo.rd (show 0<4 by decide);refine ⟨_,(r22.ext (Ext.dr dm)).at 0 rfl,(An amn M'.now sq (M'.q.l.take 2000) jj (λb hb=>⟨(amo.own.lt hb).2,λhf=>by have:=hFl hf;have:=(amo.own.lt hb).1;omega⟩) hq).mono ?_⟩;rintro e gC ⟨rfl,F',aix,ht⟩;have zd:=m7 dm;refine ⟨_,rfl,ht.mod.same _ aa λhf=>by have:=hFl hf;omega,rfl,λi=>i=g\/F' i\/some i ∈ [a0,a1,a2,a3,a4,a5,a6,a7,a8,a9,Sf,IG,a12,a13,a14,a15],⟨F',_,ht.mod.row (r22.ext (Ext.dr dm)) ng,?_,aqZ.same λa ha=>ht.mod.same a (aqZ.lt ha) λhf=>by have:=hFl hf;have:=hav a ha;omega,rfl⟩,(mm.mono λi _ hi=> .inl hi).trans (ht.mod.mono λi _ hi=> .inr (.inl hi)),λi hi=> ?_⟩
 ·have en:min (max M'.now 0) 1099511627776=M'.now:=by omega
  rw [en] at aix;exact aix
 ·rcases hi with hi|hi|hi
  ·exact .inl (.inl hi)
  ·rcases ht.sub i hi with q|q
   ·exact .inl (.inr (.inl q))
   ·exact .inr (by have:=mm.size;omega)
  ·exact .inr (hav i hi)
end
section
variable {F:Nat->Prop} {w:World} {g s o t:Nat} {M M':Sm} {occ:Value} {L L0:List (Option cM)}
def Bu{ch:List Cg}{T:Tb}{ag limit:Int}(h:WF F w o t ag limit T ch)(hW:T.1.l.length<=1000000)(hl:eo T.1.l<=1099511627776)(aW:Int):
  ae 91 #[t,aW] w λe w'=>e=Value.int .i64 (dv T.1 aW).2/\Gr F w o t ag limit ((dv T.1 aW).1,[]) ch w':=by
 obtain ⟨F1,hT,-,bf⟩:=h.table;refine (Nl hT hW hl aW).mono ?_;rintro e w' ⟨rfl,hr⟩;exact ⟨rfl,bf hr⟩
def Ee{ch:List Cg}{T:Tb}{ag limit:Int}(h:WF F w o t ag limit T ch)(hW:T.1.l.length<=1000000):
  ae 92 #[t] w λe w'=>∃s:Sl,e=Value.tuple #[s,.bool (Go.cg.lu T.1 0).2.2]/\iA w' s (Go.cg.lu T.1 0).1/\s.n<=s.c/\Ext w w':=by
 obtain ⟨F1,hT,-,-⟩:=h.table;refine (RA hT hW).mono ?_;rintro e w' ⟨s,rfl,h1,-,-,h2,-,x⟩;exact ⟨s,rfl,h1,h2,x⟩
def gJ.tr{F':Nat->Prop}{w1 w2:World}{M2:Sm}{L2:List (Option cM)}{occ2:Value}(h:aJ F F' w w1)(k:gJ F' w1 g s o t M2 occ2 L2 w2):gJ F w g s o t M2 occ2 L2 w2:=by obtain ⟨F2,h2,t2⟩:=k;exact ⟨F2,h2,h.trans t2⟩
def QC(h:EF F w g s o t M occ L0)(aW:Int)(hW:M.T.1.l.length<=1000000)(hl:eo M.T.1.l<=1099511627776)(hW':(dv M.T.1 aW).1.l.length<=1000000)(hk:(Go.cg.lu (dv M.T.1 aW).1 0).1=cr M' L/\(Go.cg.lu (dv M.T.1 aW).1 0).2.2=true)
  (hL:okR L)(hw:okW M'.q.l)(hM:0<=M'.now/\M'.now<=1099511627776)(hq:BT ⟨4096,0,M'.q.l.take 2000⟩):
  ae 36 #[g,aW] w λe w'=>e=Value.int .i64 (dv M.T.1 aW).2/\gJ F w g s o t {M with T:=((dv M.T.1 aW).1,[]),q:=⟨4096,0,M'.q.l.take 2000⟩,now:=M'.now} occ (wF L (bn L)) w':=by
 obtain ⟨Fs,hs,ko,-⟩:=h.xz;obtain ⟨Fw,hWd,bf⟩:=h.world;apply oR.vc;refine ⟨_,ko,(gL hs).mono ?_⟩;rintro e w1 ⟨rfl,SZ⟩;subst SZ;refine ⟨_,rfl,(kU hWd).mono ?_⟩;rintro e w3 ⟨rfl,L5⟩;subst L5;refine ⟨_,rfl,(Bu hWd hW hl aW).mono ?_⟩;rintro e w5 ⟨rfl,hr5⟩;obtain ⟨F5,h5,t5⟩:=bf hr5;obtain ⟨Fw5,hW5,-⟩:=h5.world;refine ⟨_,rfl,(Ee hW5 hW').mono ?_⟩;rintro e w7 ⟨s8,rfl,jj,LU,x7⟩;obtain ⟨Jd,BW⟩:=hk;refine ⟨s8,_,rfl,?_⟩;show Br (!(Go.cg.lu (dv M.T.1 aW).1 0).2.2) _ _;rw [BW];have jj:RdK w7 s8 1 (byR (cr M' L)):=by rw [<-Jd];exact jj
 refine Br.mk (λq=>by cases q) λ_=>(Js (h5.ext x7) jj LU hL hw hM hq).mono ?_
 rintro e bH ⟨rfl,hr⟩;refine ⟨_,rfl,Br.mk (λq=>by cases q) λ_=>⟨rfl,?_⟩⟩;exact gJ.tr t5 (gJ.aC x7 hr)
abbrev Z9:List (Option Nat):=List.replicate 16 none
def ah0(w:World):EL w Z9 Ye:=by
 refine ⟨rfl,rfl,λi a q=> ?_,λi q=> ?_,λi j a q=> ?_⟩
 ·rw [AV] at q;split at q<;>cases q
 ·rw [AV] at q ⊢;split at q
  ·rename_i hi;rw [if_pos hi]
  ·cases q
 ·rw [AV] at q;split at q<;>cases q
def RB(h:EF F w g s o t M occ L0):(true=true/\Wr w (af (aD g) 1) 16)/\∀u,u=bF w (af (aD g) 1) (Z9.map pA)->Vc.ld u (af (aD g) 0)=some (.pointer (aD s))/\
  ae 94 #[s,ai,.slice none 0 0] u λe w'=>e=(0:Int)/\gJ F w g s o t {M with q:=⟨4096,0,[]⟩,now:=0} occ Ye w':=by
 obtain ⟨Fs,av0,c9,hsf,hel0,rfl⟩:=h;have ng:¬Fs g:=hsf.jf c9 lA.1.1 lA.1.2.1 lA.1.2.2.1 lA.1.2.2.2.1 lA.1.2.2.2.2.1 lA.1.2.2.2.2.2.1 lA.1.2.2.2.2.2.2;have Sg:(Value.pointer (aD s)::av0.map pA).length=17:=by rw [bR,aL,hel0.n]
 have ep:af (aD g) 1=some ⟨g,1,none⟩:=aV ..;rw [ep];refine ⟨⟨rfl,c9.wr (o:=1) (n:=16) (by rw [Sg];exact ak 17)⟩,λdm zi=> ?_⟩;have Db:=zi.trans (c9.bF (o:=1) (by rw [Sg];exact ak 17) (by
  show ∀u ∈ _,_;intro u hu;obtain ⟨x,hx,rfl⟩:=aU.1 hu;rfl))
 have ecs:aP (Value.pointer (aD s)::av0.map pA) 1 (Z9.map pA)=.pointer (aD s)::Z9.map pA:=by obtain ⟨b0,b1,b2,b3,b4,b5,b6,b7,b8,b9,b10,b11,b12,Oi,b14,Te,rfl⟩:=Gy hel0.n;rfl
 have r22:Row dm g (.pointer (aD s)::Z9.map pA) rZ:=by rw [<-ecs,Db];exact Row.set c9 _
 have o22:∀j,j≠g->dm.heap[j]? =w.heap[j]? :=λj hj=>by rw [Db];exact setRow_other _ _ _ _ hj
 have z22:dm.heap.size=w.heap.size:=by rw [Db,setRow_size]
 have mm:Mod (λi=>i=g) w dm:=⟨by rw [Db];rfl,by rw [Db];rfl,by rw [Db];rfl,Nat.le_of_eq z22.symm,λi _ hn=>o22 i hn⟩;have amn:SF Fs dm s o t M occ:=hsf.same λi hi=>o22 i λq=>ng (q▸hi)
 refine ⟨r22.at 0 rfl,(An amn 0 ⟨none,0,0⟩ [] ((ar.nil (B:=0) (E:=157)).rd (show 0<4 by decide)) (λb hb=>by cases hb) acP).mono ?_⟩;rintro e gC ⟨rfl,F',aix,ht⟩;refine ⟨rfl,λi=>i=g\/F' i\/some i ∈ Z9,⟨F',_,ht.mod.row r22 ng,aix,ah0 _,rfl⟩,(mm.mono λi _ hi=> .inl hi).trans (ht.mod.mono λi _ hi=> .inr (.inl hi)),λi hi=> ?_⟩;rcases hi with hi|hi|hi
 ·exact .inl (.inl hi)
 ·rcases ht.sub i hi with q|q
  ·exact .inl (.inr (.inl q))
  ·exact .inr aa
 ·cases List.eq_of_mem_replicate hi
def QB(h:EF F w g s o t M occ L0)(aW:Int)(hW:M.T.1.l.length<=1000000)(hl:eo M.T.1.l<=1099511627776)(hW':(dv M.T.1 aW).1.l.length<=1000000)(hk:(Go.cg.lu (dv M.T.1 aW).1 0).2.2=false):
  ae 36 #[g,aW] w λe w'=>e=Value.int .i64 (dv M.T.1 aW).2/\gJ F w g s o t {M with T:=((dv M.T.1 aW).1,[]),q:=⟨4096,0,[]⟩,now:=0} occ Ye w':=by
 obtain ⟨Fs,hs,ko,-⟩:=h.xz;obtain ⟨Fw,hWd,bf⟩:=h.world;apply oR.vc;refine ⟨_,ko,(gL hs).mono ?_⟩;rintro e w1 ⟨rfl,SZ⟩;subst SZ;refine ⟨_,rfl,(kU hWd).mono ?_⟩;rintro e w3 ⟨rfl,L5⟩;subst L5;refine ⟨_,rfl,(Bu hWd hW hl aW).mono ?_⟩;rintro e w5 ⟨rfl,hr5⟩;obtain ⟨F5,h5,t5⟩:=bf hr5;obtain ⟨Fw5,hW5,-⟩:=h5.world;refine ⟨_,rfl,(Ee hW5 hW').mono ?_⟩;rintro e w7 ⟨s8,rfl,-,-,x7⟩;refine ⟨s8,_,rfl,?_⟩;show Br (!(Go.cg.lu (dv M.T.1 aW).1 0).2.2) _ _;rw [hk];obtain ⟨p1,p2⟩:=RB (h5.ext x7);refine Br.mk (λ_=>⟨p1,λbo wO=> ?_⟩) λq=>by cases q
 obtain ⟨q1,q2⟩:=p2 bo wO;refine ⟨_,q1,q2.mono ?_⟩;rintro e cC ⟨rfl,hr⟩;exact ⟨_,rfl,rfl,gJ.tr t5 (gJ.aC x7 hr)⟩
end
def al4:List Int:=[-2,-1,0,1,2]
def k25:List Int:=0::1::(al4.flatMap λa=>al4.flatMap λb=> [2*lO (a,b),2*lO (a,b)+1])
def μ25(k:Int):Nat:=if k<=1 then 49009 else 16393
def Jt(p:Po):Prop:=(-2<=p.1/\p.1<=2)/\-2<=p.2/\p.2<=2
def RC{n:Int}(h: -2<=n/\n<=2):n ∈ al4:=by rcases (show n= -2\/n= -1\/n=0\/n=1\/n=2 by omega) with rfl|rfl|rfl|rfl|rfl<;>decide
def wg{p:Po}(h:Jt p){k:Int}(hk:k=2*lO p\/k=2*lO p+1):k ∈ k25:=by
 refine .tail _ (.tail _ (List.mem_flatMap.2 ⟨p.1,RC h.1,List.mem_flatMap.2 ⟨p.2,RC h.2,?_⟩⟩));rcases hk with rfl|rfl
 ·exact .head _
 ·exact .tail _ (.head _)
def TE{p:Po}(h:Jt p):oN p:=by unfold Jt at h;unfold oN;omega
def aqA:(k25.map μ25).sum=917668:=by decide
structure X6(n:Nat)(r:Rc)(D:Dk):Prop where
 s:Sfm μ25 k25 n D
 z:dt D 0=r
section
variable {n:Nat} {r:Rc} {D:Dk} {l:List En} {ag limit:Int}
def X6.mono(h:X6 n r D){m:Nat}(hm:n<=m):X6 m r D:=⟨h.s.mono hm,h.z⟩
def X6.save(h:X6 n r D)(hn:n<1000000){e:En}(he:Jt e.1)(hg:fV [e]):X6 (n+1) r (bu D e).1/\(bu D e).2.2=0/\(bu D e).2.1.1=e.1/\(bu D e).2.1.2.1=e.2.1:=by
 unfold bu;split
 ·have hi:=we (TE he);obtain ⟨g1,g2⟩:=hg e (.head _);have hle:=GK g1 g2;have m1:μ25 (2*lO e.1)=16393:=if_neg aa;have m2:μ25 (2*lO e.1+1)=16393:=if_neg aa;obtain ⟨s1,s2,-,-,s5⟩:=h.s.save (id:=lO e.1) (body:=lP (gP e.2.1)) aa (wg he (.inl rfl)) (wg he (.inr rfl)) aa aa aa aa;exact ⟨⟨s2,(s5 0 aa).trans h.z⟩,s1,rfl,rfl⟩
 ·exact ⟨h.mono aa,rfl,rfl,rfl⟩
def xB(n:Nat)(r:Rc)(T:Tb):Prop:=X6 n r T.1/\∀e ∈ T.2,Jt e.1
def vj(hg:fV l){e:En}(he:e ∈ l):fV [e]:=λx hx=>by
 obtain rfl:=fT.1 hx
 exact hg _ he
def xB.mono{T:Tb}(h:xB n r T){m:Nat}(hm:n<=m):xB m r T:=⟨h.1.mono hm,h.2⟩
def xB.go(h:xB n r (D,l))(hn:n<1000000)(hg:fV l)(i:Nat):xB (n+1) r (Ey D l i).1:=by
 unfold Ey;split
 ·exact h.mono aa
 rename_i e hi;have he:=aO hi;obtain ⟨s1,s2,s3,-⟩:=h.1.save hn (h.2 e he) (vj hg he);rw [if_pos s2];exact ⟨s1,λx hx=>h.2 x (List.mem_of_mem_eraseIdx hx)⟩
def xB.room(h:xB n r (D,l))(hn:n<1000000)(hg:fV l):xB (n+1) r (dC limit D l).1:=by
 unfold dC;split
 ·exact h.mono aa
 split
 ·exact h.mono aa
 ·exact h.go hn hg _
def xB.load(h:xB n r (D,l))(hn:n<1000000)(hg:fV l){p:Po}(hp:Jt p):xB (n+1) r (yh ag limit D l p).1:=by
 unfold yh;split
 ·exact h.mono aa
 split
 ·refine ⟨h.1.mono aa,λx hx=> ?_⟩;rcases bX.1 hx with q|q
  ·exact h.2 x (List.mem_of_mem_eraseIdx q)
  ·exact h.2 x (aO (Option.mem_toList.1 q))
 have hr:=h.room (limit:=limit) hn hg;split
 ·exact hr
 ·refine ⟨hr.1,λx hx=> ?_⟩;rcases bX.1 hx with q|q
  ·exact hr.2 x q
  ·obtain rfl:=fT.1 q;exact hp
def xB.Cb(h:xB n r (D,l))(hn:n<1000000)(hg:fV l)(p:Po):xB (n+1) r (iF D l p).1:=by
 unfold iF;split
 ·split
  ·exact h.mono aa
  ·exact h.go hn hg _
 ·exact h.mono aa
def xB.BU:∀(l:List En) {n:Nat} {D:Dk} {pre:List En} {k:Int},xB n r (D,pre++l)->n+l.length<1000000->fV l->xB (n+l.length) r (BU D pre l k).1
 | [],n,D,pre,k,h,hn,hg=>by
   rw [mA] at h
   exact h
 |e::l,n,D,pre,k,h,hn,hg=>by
  rw [bR] at hn ⊢
  obtain ⟨s1,s2,s3,-⟩:=h.1.save aa (h.2 e (r6 _ (.head _))) (vj hg (.head _))
  unfold Go.Proofs.YtkkkfkopcfdmaaaGreatDoor.BU
  rw [if_pos s2]
  have h':xB (n+1) r ((bu D e).1,(pre++ [(bu D e).2.1])++l):=⟨s1,λx hx=>by
   rcases bX.1 hx with q|q
   ·rcases bX.1 q with q|q
    ·exact h.2 x (xC _ q)
    ·obtain rfl:=fT.1 q
     rw [s3]
     exact h.2 e (r6 _ (.head _))
   ·exact h.2 x (r6 _ (.tail _ q))⟩
  exact (xB.BU l (k:=if e.2.2.1=true then k+1 else k) h' aa λx hx=>hg x (.tail _ hx)).mono aa
def xB.DF(h:xB n r (D,l))(hn:n+l.length<1000000)(hg:fV l):xB (n+l.length) r (ie D l).1:=xB.BU (pre:=[]) l h hn hg
end
abbrev wW(l:List En):Prop:=∀e ∈ l,Jt e.1
def Uz{l:List En}(h:wW l)(i:Nat){f:En->En}(hf:∀e,(f e).1=e.1):wW (l.eraseIdx i++(l[i]?.map f).toList):=λx hx=>by
 rcases bX.1 hx with q|q
 ·exact h x (List.mem_of_mem_eraseIdx q)
 ·obtain ⟨e,he,rfl⟩:=xE.1 (Option.mem_toList.1 q)
  rw [hf]
  exact h e (aO he)
def Qn{l:List En}(h:wW l)(c:Ce)(b:Int):wW (fb l c b).1:=by
 unfold fb;split
 ·exact h
 split
 ·exact h
 split
 ·exact h
 ·exact Uz h _ λ_=>rfl
def yC{M:Sm}(h:wW M.T.2)(L:List (Option cM))(c:Ce)(b:Int):wW (c8 M L c b).2.T.2:=by
 unfold c8;split
 ·exact h
 ·exact Qn h c b
def tu{M:Sm}(L:List (Option cM))(c:Ce)(b:Int):(c8 M L c b).2.T.1=M.T.1:=by unfold c8;split<;>rfl
def Hr{M:Sm}(h:wW M.T.2)(L:List (Option cM))(n:Int)(cV:Ce)(b:Int):wW (gg M L n cV b).2.T.2/\(gg M L n cV b).2.T.1=M.T.1:=by unfold gg;(repeat' split)<;>first|exact ⟨h,rfl⟩|exact ⟨yC h _ _ _,tu _ _ _⟩
def Hs{M:Sm}(h:wW M.T.2)(L:List (Option cM))(n:Int)(cV:Ce):wW (fu M L n cV).2.T.2/\(fu M L n cV).2.T.1=M.T.1:=by unfold fu;(repeat' split)<;>first|exact ⟨h,rfl⟩|exact ⟨yC h _ _ _,tu _ _ _⟩
def KW(O:Ce->Bool):∀(l:List Ce) {M:Sm},wW M.T.2->wW (l.foldl (kh O) M).T.2
 | [],M,h=>h
 |c::l,M,h=>KW O l (by
  have ch:∀{M:Sm} (x:Go.dR.Cg),wW M.T.2->wW (bT M x).T.2:=λ{M} x h=>by
   unfold bT
   split
   ·exact h
   ·exact Qn h _ _
  have chs:∀(l:List Go.dR.Cg) {M:Sm},wW M.T.2->wW (l.foldl bT M).T.2:=λl=>by
   induction l with
   |nil=>exact λh=>h
   |cons x l ih=>exact λh=>ih (ch x h)
  unfold kh
  split
  ·exact h
  split
  ·exact ch (M:={M with jI:=M.jI++ [fe c]}) _ h
  ·exact chs _ h)
def KX{n:Nat}{r:Rc}{M:Sm}{rows:List iz}(h:xB n r M.T)(hn:n+M.T.2.length<900000)(hg:fV M.T.2)(d:Ja)(h9:d.kind≠9):xB (n+1+M.T.2.length) r (jM M rows d).1.T:=by
 unfold jM;split
 ·exact (h.load aa hg (MR d.p)).mono aa
 split
 ·exact (h.Cb aa hg _).mono aa
 split
 ·exact (h.DF (l:=M.T.2) (by show n+M.T.2.length<1000000;omega) hg).mono (by show n+M.T.2.length<=_;omega)
 split
 ·exact h.mono aa
 split
 ·exact h.mono aa
 split
 ·obtain ⟨h1,h2⟩:=Hr h.2 (rows.map aj) (ix d) d.cV (wX d.b);exact ⟨by show X6 _ r (gg M (rows.map aj) (ix d) d.cV (wX d.b)).2.T.1;rw [h2];exact h.1.mono aa,h1⟩
 split
 ·obtain ⟨h1,h2⟩:=Hs h.2 (rows.map aj) (ix d) d.cV;exact ⟨by show X6 _ r (fu M (rows.map aj) (ix d) d.cV).2.T.1;rw [h2];exact h.1.mono aa,h1⟩
 split
 ·exact ⟨by show X6 _ r (c8 M (rows.map aj) (xI d.c) (wX d.b)).2.T.1;rw [tu];exact h.1.mono aa,yC h.2 _ _ _⟩
 split
 ·exact h.mono aa
 split
 ·exact h.mono aa
 ·have e:(jH M (rows.map aj)).1.T.1=M.T.1:=wB _ _ _;exact ⟨by show X6 _ r (jH M (rows.map aj)).1.T.1;rw [e];exact h.1.mono aa,KW (M:=tw M) _ (pc M) h.2⟩
def Qo(M:Sm)(L:List (Option cM)):(cr M L).length<=49000:=by have h1:=tz L (bn L);have h2:=vu L;have h3:=Hu (M.q.l.take 2000);rw [cY] at h3;unfold cr dh gl;rw [bQ,bQ,bQ,bQ,h3,pX];simp only [bR,lV];omega
def Y6{n:Nat}{r:Rc}{M:Sm}{L:List (Option cM)}(h:xB n r M.T)(hn:n<900000):(lk M.T.1 0 (cr M L)).2=0/\∃r',xB (n+1) r' (adq M L).T/\r'.2.2=cr M L/\0<r'.2.1:=by
 have hr:=Qo M L;obtain ⟨s1,s2,-,⟨v,hv,s4⟩,-⟩:=h.1.s.save (id:=0) (body:=cr M L) aa (show (0:Int) ∈ k25 from .head _) (show (1:Int) ∈ k25 from .tail _ (.head _)) (show _<=49009 by omega) (show _<=49009 by omega) aa aa;refine ⟨s1,dt (lk M.T.1 0 (cr M L)).1 0,⟨⟨s2,rfl⟩,h.2⟩,?_,?_⟩
 ·unfold Go.cg.lu at s4;rw [if_pos aA] at s4;exact (Prod.mk.inj s4).1
 ·unfold Go.cg.lu at s4;rw [if_pos aA] at s4;rw [(Prod.mk.inj (Prod.mk.inj s4).2).1];exact hv
def UA{n:Nat}{r:Rc}{T:Tb}(h:xB n r T)(aW:Int):(dv T.1 aW).1=T.1/\Go.cg.lu (dv T.1 aW).1 0=(r.2.2,r.2.1,decide (r.2.1>0)):=by have e:=h.1.s.Pg aW;refine ⟨e,?_⟩;rw [e];unfold Go.cg.lu;rw [if_pos aA,h.1.z]
def ahS{L:List (Option cM)}{i:Nat}(h:i<16):((i:Int) ∈ bn L)=((bC L (i:Nat)).isSome=true):=by
 unfold bn;refine propext ⟨λq=> ?_,λq=>aU.2 ⟨i,ju.2 ⟨nQ.2 h,q⟩,rfl⟩⟩;obtain ⟨j,hj,e⟩:=aU.1 q;obtain rfl:j=i:=by omega
 exact (ju.1 hj).2
def Xa{L:List (Option cM)}{i:Nat}(h:i<16):bC (wF L (bn L)) (i:Nat)=(bC L (i:Nat)).map Uv:=by
 have e:bC (wF L (bn L)) (i:Nat)=((wF L (bn L))[i]?).join:=by unfold bC;rw [if_pos aa];rfl
 rw [e,KV h];simp only [ahS h]
 cases hq:bC L (i:Nat)<;>simp
def ahT(L:List (Option cM)):bn (wF L (bn L))=bn L:=by
 have e:∀L:List (Option cM),bn L=((List.range 16).filter λi=>(bC L (i:Nat)).isSome).map λi:Nat=>(i:Int):=λ_=>rfl
 rw [e (wF L (bn L)),e L];congr 1;refine List.filter_congr λi hi=> ?_
 rw [<-e L,Xa (nQ.1 hi)]
 cases bC L (i:Nat)<;>rfl
def Zh(M:Sm)(L:List (Option cM))(T:Tb):cr {M with T:=T,q:=⟨4096,0,M.q.l.take 2000⟩,now:=M.now} (wF L (bn L))=cr M L:=by
 unfold cr;rw [ahT];congr 1
 ·congr 1;unfold dT;congr 1;refine zP λx hx=> ?_
  obtain ⟨i,rfl,hi,y,hy⟩:=vv hx;unfold DX;rw [Xa hi,hy];rfl
 ·unfold gl;simp only [List.take_take,cY,Nat.min_self];rw [show min (min 2000 M.q.l.length) 2000=min M.q.l.length 2000 by omega]
def adC(M:Sm)(T:Tb):cr {M with T:=T,q:=⟨4096,0,[]⟩,now:=0} Ye=Hz 0 [] []:=by
 unfold cr;have e:bn Ye=[]:=by decide
 rw [e];rfl
def alz{l:List ej.It}(h:∀x ∈ l,okT x):okW l:=λx hx=>by
 obtain ⟨h1,h2⟩:=h x hx
 unfold CU at h1
 unfold AU
 omega
def alA{q:QS}(h:BT q):BT ⟨4096,0,q.l.take 2000⟩:=by
 refine ⟨⟨by show (1:Int)<=4096;decide,by show (4096:Int)<=4096;decide⟩,?_,h.sorted.sublist (List.take_sublist ..),?_⟩
 ·show (((q.l.take 2000).length:Nat):Int)<=4096;rw [cY];omega
 ·show ((q.l.take 2000).map _).Nodup;rw [List.map_take];exact h.nodup.sublist (List.take_sublist ..)
def aly{L:List (Option cM)}{m ag:Int}{T:Tb}(h:qB m L)(hm:m<=70368744177664)(hF:oC ag T L):okR L:=by
 intro i y hy;have hy':some y ∈ L:=by
  unfold bC at hy;rw [if_pos aa] at hy;obtain ⟨x,hx,e⟩:=Hw.1 hy|>λq=>(⟨_,q,rfl⟩:∃x,L[((i:Int)).toNat]? =some x/\x=some y)
  exact e▸aO hx
 have hb:=h y hy';have hmy:=(hF y hy').1;have hf:=hb.1;refine ⟨alM hmy (hf.up hm),λn hn=> ?_⟩;have hf:=hf.up hm;unfold eK at hf;unfold vI at hmy;unfold AU;simp only [cp,lJ,or_false] at hn;rcases hn with rfl|rfl|rfl|rfl|rfl|rfl|rfl|rfl<;>omega
variable {R:Ending->World->Prop} {w:World} {a0 a1 a2 a3 a4:Int}
def wZ.vc{a1:Sl}{a2:Sl}{a4:Bool}(h:(λA B=>
 ae 9 #[a0,(8:Int),(9:Int)] w (λe w0=>∃(p1 p2:Option Addr),e=Value.tuple #[p1,p2]/\
 Br (p1).isNone
 (R false w0)
 (∃J3:World->Prop,
 (sN (λI4 n5=>I4 n5 (0) w0) λI4 n5 us6 x7 w8=>
 Br (decide (x7<((a1.n:Nat):Int)))
 (Br (x7<12)
 (eL a1.a x7 a1.n/\∃(bE bK bW cR cB cW du dH dc db dN eO fN fC gW eZ:Int)(Kh:Bool),ah w8 (af a1.a ((x7:Int).toNat*17)) 0 [bE,bK,bW,cR,cB,cW,du,dH,dc,db,dN,eO,fN,fC,gW,eZ,Kh]/\
 Aw w8 A 45 λfy=>
 Sw fy w8 #[bE,bK,bW,cR,cB,cW,du,dH,dc,db,dN,eO,fN,fC,gW,eZ,Kh] λiY=>
 Br (bE==9)
 (Sw iY w8 #[B,bK,bW,cR,cB,cW,du,dH,dc,db,dN,eO,fN,fC,gW,eZ,Kh] λeG=>
 ae 15 #[p1,p2,.agg #[B,bK,bW,cR,cB,cW,du,dH,dc,db,dN,eO,fN,fC,gW,eZ,Kh]] eG (Rb λb31 gR=>Kp w8 eG gR/\
 Br (!b31)
 (R false gR)
 (∃n9,n9<n5/\I4 n9 ((aw (x7+1))) gR)))
 (ae 15 #[p1,p2,.agg #[bE,bK,bW,cR,cB,cW,du,dH,dc,db,dN,eO,fN,fC,gW,eZ,Kh]] iY (Rb λXG qT=>Kp w8 iY qT/\
 Br (!XG)
 (R false qT)
 (∃n9,n9<n5/\I4 n9 ((aw (x7+1))) qT))))
 (J3 w8))
 (J3 w8))/\
 ∀aHC:Nat->Value,∀(gT:World),J3 gT->
 ae 34 #[.agg #[ai,.slice none 0 0,.slice none 0 0]] gT (ua λs37 kH=>∃J38:Sl->World->Prop,
 (Br a4
 (ae 26 #[p1] kH (ua λs40 kR=>ae 35 #[p1] kR (kX λqU oF=>Br (qU !=0)
 (R false oF)
 (J38 s40 oF))))
 (J38 s37 kH))/\
 ∀axi:Nat->Value,∀(s44:Sl)(zL:World),J38 s44 zL->
 ∃J46:World->Prop,
 (sN (λI47 n48=>I47 n48 (0) zL) λI47 n48 aHD sS uL=>
 Br (decide (sS<((a2.n:Nat):Int)))
 (Br (sS<8)
 (eL a2.a sS a2.n/\∃(kS qV oG xV rJ zw uo oo zI ox uQ BN sR oI oT qp:Int)(b69:Bool),ah uL (af a2.a ((sS:Int).toNat*17)) 0 [kS,qV,oG,xV,rJ,zw,uo,oo,zI,ox,uQ,BN,sR,oI,oT,qp,b69]/\
 Aw uL A 45 λqD=>
 Sw qD uL #[kS,qV,oG,xV,rJ,zw,uo,oo,zI,ox,uQ,BN,sR,oI,oT,qp,b69] λw71=>
 Br (kS==9)
 (Sw w71 uL #[B,qV,oG,xV,rJ,zw,uo,oo,zI,ox,uQ,BN,sR,oI,oT,qp,b69] λw72=>
 ae 15 #[p1,p2,.agg #[B,qV,oG,xV,rJ,zw,uo,oo,zI,ox,uQ,BN,sR,oI,oT,qp,b69]] w72 (Rb λb74 IN=>Kp uL w72 IN/\
 Br (!b74)
 (R false IN)
 (∃n52,n52<n48/\I47 n52 ((aw (sS+1))) IN)))
 (ae 15 #[p1,p2,.agg #[kS,qV,oG,xV,rJ,zw,uo,oo,zI,ox,uQ,BN,sR,oI,oT,qp,b69]] w71 (Rb λb76 rC=>Kp uL w71 rC/\
 Br (!b76)
 (R false rC)
 (∃n52,n52<n48/\I47 n52 ((aw (sS+1))) rC))))
 (J46 uL))
 (J46 uL))/\
 ∀aHF:Nat->Value,∀(rD:World),J46 rD->
 ae 36 #[p1,a3] rD (kX λFX Ki=>aT (fq p1) (aT (fq p1) (gZ Ki (af p1 0) λp81=>
 ae 18 #[p81] Ki (AG λp83 w82=>ae 19 #[p83] w82 (AG λp85 Jg=>Br (p85).isNone
 (R false Jg)
 (ae 26 #[p1] Jg (ua λs87 w86=>ae 25 #[s87,s44] w86 (EK λb89 NI=>Br b89
 (ae 37 #[p85] NI (ua λs91 qq=>Br ((((s91.n:Nat):Int):Int)==0)
 (ae 14 #[] qq (EK λb93 Kg=>R b93 Kg))
 (R false qq)))
 (R false NI))))))))))))) #[ai,ai,ai,ai,ai,ai,ai,ai,ai,ai,ai,ai,ai,ai,ai,ai,false] (10:Int)):ae 8 #[a0,a1,a2,a3,a4] w R:=
 cq ⟨[(5,⟨[(13,.int .i64)],[],[]⟩),(18,⟨[(16,.int .i64)],[],[]⟩)],[(25,⟨[],[],[]⟩),(17,⟨[(15,.slice)],[],[]⟩),(12,⟨[],[],[]⟩)],[]⟩ func8 h
def aqD(ag:Int):xB 0 (dt (Mh 1000000) 0) (TP ag 9 8).T:=by
 refine ⟨⟨Sfm.new (room:=1000000) (by rw [aqA];decide),rfl⟩,λe he=> ?_⟩;have he:e ∈ l9 ag 9:=he;unfold l9 at he;obtain ⟨p,hp,rfl⟩:=aU.1 he;have hp:p ∈ tY:=mB hp;have:∀p ∈ tY,(-2<=p.1/\p.1<=2)/\-2<=p.2/\p.2<=2:=by decide
 exact this p hp
def no9(d:Ja):Ja:=if d.kind=9 then {d with kind:=10} else d
def alB{d:Ja}(h:dIn d):dIn (no9 d)/\(no9 d).kind≠9:=by
 unfold no9;split
 ·exact ⟨⟨(by unfold dJ;decide:dJ 10),h.2⟩,(by decide:(10:Int)≠9)⟩
 ·rename_i q;exact ⟨h,q⟩
def Twd(D D':Dk):Prop:=∀id:Int,0<id->(Go.cg.lu D id).1=(Go.cg.lu D' id).1
structure DE(n:Nat)(r r':Rc)(T T':Tb):Prop where
 a:xB n r T
 b:xB n r' T'
 l:T.2=T'.2
 d:Twd T.1 T'.1
section
variable {n:Nat} {r r':Rc} {D D':Dk} {l:List En} {ag limit:Int}
def Wv(h:X6 n r D)(h':X6 n r' D')(ht:Twd D D')(hn:n<1000000){e:En}(he:Jt e.1)(hg:fV [e]):
  (bu D e).2=(bu D' e).2/\Twd (bu D e).1 (bu D' e).1:=by
 unfold bu;split
 ·have hi:=we (TE he);obtain ⟨g1,g2⟩:=hg e (.head _);have hle:=GK g1 g2;have m1:μ25 (2*lO e.1)=16393:=if_neg aa;have m2:μ25 (2*lO e.1+1)=16393:=if_neg aa;obtain ⟨s1,-,-,⟨v,-,s4⟩,s5⟩:=h.s.save (id:=lO e.1) (body:=lP (gP e.2.1)) aa (wg he (.inl rfl)) (wg he (.inr rfl)) aa aa aa aa;obtain ⟨t1,-,-,⟨v',-,t4⟩,t5⟩:=h'.s.save (id:=lO e.1) (body:=lP (gP e.2.1)) aa (wg he (.inl rfl)) (wg he (.inr rfl)) aa aa aa aa;refine ⟨by simp only [s1,t1],λid Td=> ?_⟩;by_cases q:id=lO e.1
  ·subst q;simp only;rw [s4,t4]
  ·simp only;rw [GL (s5 id q),GL (t5 id q)];exact ht id Td
 ·exact ⟨rfl,ht⟩
def DE.go{T T':Tb}(h:DE n r r' T T')(hn:n<1000000)(hg:fV T.2)(i:Nat):(Ey T.1 T.2 i).2=(Ey T'.1 T'.2 i).2/\DE (n+1) r r' (Ey T.1 T.2 i).1 (Ey T'.1 T'.2 i).1:=by
 obtain ⟨D,l⟩:=T;obtain ⟨D',l'⟩:=T';obtain ⟨ha,hb,hl,hd⟩:=h;obtain rfl:l=l':=hl;have g1:=ha.go hn hg i;have g2:=hb.go hn hg i
 cases hi:l[i]? with
 |none=>
  simp only [Ey,hi] at g1 g2 ⊢;exact ⟨trivial,g1,g2,rfl,hd⟩
 |some e=>
  have he:=aO hi;obtain ⟨q1,q2⟩:=Wv ha.1 hb.1 hd hn (ha.2 e he) (vj hg he);obtain ⟨-,s2,-⟩:=ha.1.save hn (ha.2 e he) (vj hg he);have s2':=s2;rw [q1] at s2';simp only [Ey,hi,s2,s2',if_true] at g1 g2 ⊢;exact ⟨trivial,g1,g2,rfl,q2⟩
def DE.room{T T':Tb}(h:DE n r r' T T')(hn:n<1000000)(hg:fV T.2):(dC limit T.1 T.2).2=(dC limit T'.1 T'.2).2/\DE (n+1) r r' (dC limit T.1 T.2).1 (dC limit T'.1 T'.2).1:=by
 have hgo:=h.go hn hg (bU (λe:En=>e.2.2.2==0) T.2).toNat;obtain ⟨D,l⟩:=T;obtain ⟨D',l'⟩:=T';obtain ⟨ha,hb,hl,hd⟩:=h;obtain rfl:l=l':=hl;unfold dC;split
 ·exact ⟨rfl,ha.mono aa,hb.mono aa,rfl,hd⟩
 split
 ·exact ⟨rfl,ha.mono aa,hb.mono aa,rfl,hd⟩
 ·exact hgo
def DE.mono{T T':Tb}(h:DE n r r' T T'){m:Nat}(hm:n<=m):DE m r r' T T':=⟨h.a.mono hm,h.b.mono hm,h.l,h.d⟩
def DE.load{T T':Tb}(h:DE n r r' T T')(hn:n<1000000)(hg:fV T.2){p:Po}(hp:Jt p):(yh ag limit T.1 T.2 p).2=(yh ag limit T'.1 T'.2 p).2/\DE (n+1) r r' (yh ag limit T.1 T.2 p).1 (yh ag limit T'.1 T'.2 p).1:=by
 obtain ⟨q1,q2⟩:=h.room (limit:=limit) hn hg;have ka:=h.a.load (ag:=ag) (limit:=limit) hn hg hp;have kb:=h.b.load (ag:=ag) (limit:=limit) hn (h.l▸hg) hp;obtain ⟨D,l⟩:=T;obtain ⟨D',l'⟩:=T';obtain rfl:l=l':=h.l;have hd:=h.d;unfold yh at ka kb ⊢;simp only at q1 q2 hd ⊢;have Td:=we (TE hp);split
 ·rename_i hq;rw [if_pos hq] at ka kb;exact ⟨rfl,ka,kb,rfl,hd⟩
 rename_i hq;rw [if_neg hq] at ka kb;split
 ·rename_i hq;rw [if_pos hq] at ka kb;exact ⟨rfl,ka,kb,rfl,hd⟩
 rename_i hq;rw [if_neg hq] at ka kb;split
 ·rename_i hz;rw [q1] at hz;rw [if_pos hz];exact ⟨q1,q2⟩
 ·rename_i hz;have hz':=hz;rw [q1] at hz';rw [if_neg hz'] at kb ⊢;rw [if_neg hz] at ka;refine ⟨rfl,ka,kb,?_,q2.d⟩;show (dC limit D l).1.2++_=(dC limit D' l).1.2++_;rw [q2.l,q2.d _ aa]
def DE.Cb{T T':Tb}(h:DE n r r' T T')(hn:n<1000000)(hg:fV T.2)(p:Po):(iF T.1 T.2 p).2=(iF T'.1 T'.2 p).2/\DE (n+1) r r' (iF T.1 T.2 p).1 (iF T'.1 T'.2 p).1:=by
 have hgo:=h.go hn hg (bU (λe:En=>e.1==p) T.2).toNat;have hm:=h.mono (show n<=n+1 by omega);obtain ⟨D,l⟩:=T;obtain ⟨D',l'⟩:=T';obtain rfl:l=l':=h.l;unfold iF;split
 ·split
  ·exact ⟨rfl,hm⟩
  ·exact hgo
 ·exact ⟨rfl,hm⟩
def acE:∀(l:List En) {n:Nat} {D D':Dk} {pre:List En} {k:Int},DE n r r' (D,pre++l) (D',pre++l)->n+l.length<1000000->fV l->(BU D pre l k).2=(BU D' pre l k).2/\(BU D pre l k).1.2=(BU D' pre l k).1.2/\Twd (BU D pre l k).1.1 (BU D' pre l k).1.1
 | [],n,D,D',pre,k,h,hn,hg=>⟨rfl,rfl,h.d⟩
 |e::l,n,D,D',pre,k,h,hn,hg=>by
  rw [bR] at hn
  have he:=h.a.2 e (r6 _ (.head _))
  have g1:=vj hg (.head _)
  obtain ⟨s1,s2,s3,-⟩:=h.a.1.save aa he g1
  obtain ⟨t1,t2,t3,-⟩:=h.b.1.save aa he g1
  obtain ⟨q1,q2⟩:=Wv h.a.1 h.b.1 h.d aa he g1
  have mem:∀{x:En} {y:En},y.1=e.1->x ∈(pre++ [y])++l->Jt x.1:=λ{x y} hy hx=>by
   rcases bX.1 hx with q|q
   ·rcases bX.1 q with q|q
    ·exact h.a.2 x (xC _ q)
    ·obtain rfl:=fT.1 q
     rw [hy]
     exact he
   ·exact h.a.2 x (r6 _ (.tail _ q))
  unfold BU
  rw [if_pos s2,if_pos t2]
  have e1:(bu D e).2.1=(bu D' e).2.1:=by rw [q1]
  rw [<-e1];exact acE l (n:=n+1) ⟨⟨s1,λx hx=>mem s3 hx⟩,⟨t1,λx hx=>mem s3 hx⟩,rfl,q2⟩ aa λx hx=>hg x (.tail _ hx)
def DE.DF{T T':Tb}(h:DE n r r' T T')(hn:n+T.2.length<1000000)(hg:fV T.2):(ie T.1 T.2).2=(ie T'.1 T'.2).2/\DE (n+T.2.length) r r' (ie T.1 T.2).1 (ie T'.1 T'.2).1:=by have ka:=h.a.DF hn hg;have kb:=h.b.DF (by rw [<-h.l];exact hn) (h.l▸hg);obtain ⟨D,l⟩:=T;obtain ⟨D',l'⟩:=T';obtain rfl:l=l':=h.l;obtain ⟨q1,q2,q3⟩:=acE (pre:=[]) (k:=0) l h hn hg;exact ⟨q1,ka,kb,q2,q3⟩
end
abbrev wD(M:Sm)(D:Dk):Sm:={M with T:=(D,M.T.2)}
def ed(M:Sm)(D:Dk)(L:List (Option cM))(c:Ce)(b:Int):c8 (wD M D) L c b=((c8 M L c b).1,wD (c8 M L c b).2 D):=by unfold c8;split<;>rfl
def eU(M:Sm)(D:Dk)(L:List (Option cM))(n:Int)(cV:Ce)(b:Int):gg (wD M D) L n cV b=((gg M L n cV b).1,wD (gg M L n cV b).2 D):=by have e:cj (wD M D) L n cV=cj M L n cV:=rfl;unfold gg;simp only [e,ed];(repeat' split)<;>rfl
def eV(M:Sm)(D:Dk)(L:List (Option cM))(n:Int)(cV:Ce):fu (wD M D) L n cV=((fu M L n cV).1,wD (fu M L n cV).2 D):=by have e:cj (wD M D) L n cV=cj M L n cV:=rfl;unfold fu;simp only [e,ed];(repeat' split)<;>rfl
def Lc(M:Sm)(D:Dk)(x:Go.dR.Cg):bT (wD M D) x=wD (bT M x) D:=by unfold bT;split<;>rfl
def HJ(D:Dk):∀(l:List Go.dR.Cg)(M:Sm),l.foldl bT (wD M D)=wD (l.foldl bT M) D
 | [],M=>rfl
 |x::l,M=>by rw [nU,nU,Lc,HJ D l]
def alF(O:Ce->Bool)(M:Sm)(D:Dk)(c:Ce):kh O (wD M D) c=wD (kh O M c) D:=by
 have e:vD O (wD M D) c=vD O M c:=rfl;unfold kh;rw [e];split
 ·rfl
 split
 ·exact Lc {M with jI:=M.jI++ [fe c]} D _
 ·exact HJ D _ M
def W4(O:Ce->Bool)(D:Dk):∀(l:List Ce)(M:Sm),l.foldl (kh O) (wD M D)=wD (l.foldl (kh O) M) D
 | [],M=>rfl
 |x::l,M=>by rw [nU,nU,alF,W4 O D l]
def adI(O:Ce->Bool)(M:Sm)(D:Dk):AZ O (wD M D)=wD (AZ O M) D:=W4 O D (pc M) (tw M)
def ahH(M:Sm)(D:Dk)(L:List (Option cM)):jH (wD M D) L=(wD (jH M L).1 D,(jH M L).2):=by have e:kD (wD M D) L=kD M L:=rfl;unfold jH;rw [e,adI]
def eh(M:Sm)(D:Dk)(L:List (Option cM))(b:dw):cQ (wD M D) L b=cQ M L b:=rfl
def aqm{n:Nat}{r r':Rc}{M:Sm}{D:Dk}(rows:List iz)(h:DE n r r' (D,M.T.2) M.T)(hn:n+M.T.2.length<900000)(hg:fV M.T.2)(d:Ja)(h9:d.kind≠9):
  ∃D',jM (wD M D) rows d=(wD (jM M rows d).1 D',(jM M rows d).2)/\DE (n+1+M.T.2.length) r r' (D',(jM M rows d).1.T.2) (jM M rows d).1.T:=by
 have go:∀{x y:Tb},DE (n+1) r r' x y->DE (n+1+M.T.2.length) r r' (x.1,y.2) y:=λ{x y} q=>by have q:=q.mono (show n+1<=n+1+M.T.2.length by omega);rw [<-q.l];exact q
 have k1:=KX (rows:=rows) h.a (M:=wD M D) hn hg d h9;have k2:=KX (rows:=rows) h.b hn hg d h9;have hm:=h.mono (show n<=n+1+M.T.2.length by omega);by_cases h0:d.kind=0
 ·simp only [jM,h0,if_true];have q:=(h.load (ag:=M.ag) (limit:=M.cap) aa hg (MR d.p)).2;exact ⟨_,by show (({M with T:=_}:Sm),rows)=(({M with T:=(_,_)}:Sm),rows);rw [<-q.l],go q⟩
 by_cases h1:d.kind=1
 ·simp only [jM,h1,Int.reduceEq,if_true,if_false];have q:=(h.Cb aa hg (oB d.p)).2;exact ⟨_,by show (({M with T:=_}:Sm),rows)=(({M with T:=(_,_)}:Sm),rows);rw [<-q.l],go q⟩
 by_cases h2:d.kind=2
 ·simp only [jM,h2,Int.reduceEq,if_true,if_false];have q:=(h.DF (by show n+M.T.2.length<1000000;omega) hg).2;have q':=q.mono (show n+M.T.2.length<=n+1+M.T.2.length by omega);exact ⟨_,by show (({M with T:=_}:Sm),rows)=(({M with T:=(_,_)}:Sm),rows);rw [<-q.l],by rw [<-q.l];exact q'⟩
 by_cases h3:d.kind=3
 ·simp only [jM,h3,Int.reduceEq,if_true,if_false];exact ⟨D,rfl,hm⟩
 by_cases h4:d.kind=4
 ·simp only [jM,h4,Int.reduceEq,if_true,if_false];exact ⟨D,rfl,hm⟩
 by_cases h5:d.kind=5
 ·simp only [jM,h5,Int.reduceEq,if_true,if_false,eU] at k1 k2 ⊢;exact ⟨D,rfl,k1,k2,rfl,by show Twd D (gg M _ _ _ _).2.T.1;rw [(Hr h.b.2 _ _ _ _).2];exact h.d⟩
 by_cases h6:d.kind=6
 ·simp only [jM,h6,Int.reduceEq,if_true,if_false,eV] at k1 k2 ⊢;exact ⟨D,rfl,k1,k2,rfl,by show Twd D (fu M _ _ _).2.T.1;rw [(Hs h.b.2 _ _ _).2];exact h.d⟩
 by_cases h7:d.kind=7
 ·simp only [jM,h7,Int.reduceEq,if_true,if_false,ed] at k1 k2 ⊢;exact ⟨D,rfl,k1,k2,rfl,by show Twd D (c8 M _ _ _).2.T.1;rw [tu];exact h.d⟩
 by_cases h8:d.kind=8
 ·simp only [jM,h8,Int.reduceEq,if_true,if_false];exact ⟨D,rfl,hm⟩
 by_cases ha:d.kind=10
 ·simp only [jM,ha,Int.reduceEq,if_true,if_false];exact ⟨D,rfl,hm⟩
 ·simp only [jM,h0,h1,h2,h3,h4,h5,h6,h7,h8,h9,ha,if_false,ahH] at k1 k2 ⊢;have e:(jH M (rows.map aj)).1.T.1=M.T.1:=wB _ _ _;exact ⟨D,rfl,k1,k2,rfl,by show Twd D (jH M _).1.T.1;rw [e];exact h.d⟩
def hX(M:Sm)(D:Dk)(L:List (Option cM))(n:Int)(cV:Ce):cj (wD M D) L n cV=cj M L n cV:=by unfold cj;rfl
def kj(M:Sm)(D:Dk):pc (wD M D)=pc M:=by unfold pc;rfl
section
variable {K:Nat->Prop} {w0 w u w':World} {a:Ad} {Me Mm M:Sm} {Le:List (Option cM)} {rows:List iz}
abbrev ajT(K:Nat->Prop)(w0 w:World)(a:Ad)(M:Sm)(D:Dk)(rows:List iz)(d:Ja)(e:Ending)(w':World):Prop:=e=true/\uS K w0 w' a (jM (wD M D) rows d).1 ((jM M rows d).2.map aj) (jM M rows d).1 (jM M rows d).2/\∀j,K j->w'.heap[j]? =w.heap[j]?
def UZ{D:Dk}{d:Ja}(h:uS K w0 w a (wD M D) (rows.map aj) M rows)(hDl:D.l.length<=100000)(um:(yh M.ag M.cap D M.T.2 (oB d.p)).2=(yh M.ag M.cap M.T.1 M.T.2 (oB d.p)).2)(Ga:(iF D M.T.2 (oB d.p)).2=(iF M.T.1 M.T.2 (oB d.p)).2)(ky:(ie D M.T.2).2=(ie M.T.1 M.T.2).2)(h9':d.kind≠9){k:Nat}(hj:Jv k M (rows.map aj))(hk:k<=100)(hd:dIn d):
  ae 15 #[.pointer (aD a.g),.pointer (aD a.m),dV d] w (ajT K w0 w a M D rows d):=by
 obtain ⟨hd1,hd2,hd3,⟨hd4,hd5⟩,hd6,hd7⟩:=hd;have hjd:=hj.d;have hjs:sO M 600000:=hj.s.mono aa;have hjsE:sO (wD M D) 600000:=⟨hjs.l,hjs.c,hjs.now,hjs.d⟩;have hbm:1200000+3300000000*(k:Int)<=99900000000000:=by omega
 have hbm0:0<=1200000+3300000000*(k:Int):=by omega
 apply U0.vc;intro v0 e0;have x0:=aQ e0;have z0:=zA e0;have r0:∃τ,Row v0 w (dL d) τ:=⟨_,by rw [e0];exact Row.new w [_,_,_,_,_,_,_,_,_,_,_,_,_,_,_,_,_] _⟩;obtain ⟨τ,r0⟩:=r0;refine (iG d.n 4 v0 hd2 aA gA).mono ?_;rintro e v1 ⟨rfl,hv1⟩;subst hv1;refine ⟨_,rfl,rfl,(ZN d.p ⟨hd4,hd5⟩ v1).mono ?_⟩;rintro e v3 ⟨rfl,x3⟩;have z3:=x3.size;refine ⟨_,_,rfl,x3.heap aa,λv6 e6 v7 e7=> ?_⟩;have x7:Ext v3 v7:=(aQ e6).ab e7 (ak _);have z7:v7.heap.size=v3.heap.size+1:=by rw [zR e7,zA e6]
 have r7:∃τ,Row v7 v3 [.int .i64 (oB d.p).1,.int .i64 (oB d.p).2] τ:=⟨_,by rw [e7,e6];exact Row.set (Row.new v3 [_,_] _) [_,_]⟩;obtain ⟨τ7,r7⟩:=r7;have x07:=x0.tr (x3.tr x7);have kK:∀j,K j->v7.heap[j]? =w.heap[j]? :=(h.same x07).2;have r07:=r0.ext (x3.tr x7);obtain ⟨K2,kw,k3,hKK,hB⟩:∃K2:Nat->Prop,K2 w/\K2 v3/\(∀j,K j->K2 j)/\uS K2 w0 v7 a (wD M D) (rows.map aj) M rows:=⟨_,.inr ⟨ak _,aa⟩,.inr ⟨aa,aa⟩,λj hj=> .inl hj,h.ext x07⟩;have fin:∀{b:Bool} {w':World} {Me' M':Sm} {rows' rowe':List iz},b=true->jM (wD M D) rows d=(Me',rowe')->jM M rows d=(M',rows')->uS K2 w0 w' a Me' (rows'.map aj) M' rows'->(∀j,K2 j->w'.heap[j]? =v7.heap[j]?)->ajT K w0 w a M D rows d (.returned (.bool b)) w':=by intro b w' Me' M' rows' rowe' hb hdoE N8 hBt Om;subst hb;refine ⟨rfl,?_,λj hj=>(Om j (hKK j hj)).trans (kK j hj)⟩;rw [N8,hdoE];exact hBt.mono hKK
 have parL:∀{u:World} {o:Nat} {vs:LV},(∀j,K2 j->u.heap[j]? =v7.heap[j]?)->(∀j,j<vs.length->(dL d)[o+j]? =vs[j]?)->ah u (fP w.heap.size o) 0 vs:=λhu hv=>(r07.same (hu _ kw)).bI hv
 have wayL:∀{u:World},(∀j,K2 j->u.heap[j]? =v7.heap[j]?)->ah u (fP w.heap.size 11) 0 (dZ d.cV):=λhu=>parL hu λj hj=>by
  have hj:j<3:=hj;have:j=0\/j=1\/j=2:=by omega
  rcases this with rfl|rfl|rfl<;>rfl
 have bL:∀{u:World},(∀j,K2 j->u.heap[j]? =v7.heap[j]?)->ah u (fP w.heap.size 2) 0 [d.b]:=λhu=>parL hu λj hj=>by
  have:j=0:=by simpa using hj
  subst this;rfl
 have posL:∀{u:World},(∀j,K2 j->u.heap[j]? =v7.heap[j]?)->ah u (aD v3.heap.size) 0 [.int .i64 (oB d.p).1,.int .i64 (oB d.p).2]:=λhu=>Lo.wv (r7.same (hu _ k3))
 obtain ⟨l1,l2,l3⟩:=hB.e0;obtain ⟨l4,l5⟩:=hB.m0;refine ⟨_,l1,l2.mono ?_⟩;rintro e v9 ⟨rfl,hv⟩;subst hv;refine ⟨_,rfl,rfl,rfl,l3.mono ?_⟩;rintro e v11 ⟨rfl,hv⟩;subst hv;refine ⟨_,rfl,rfl,rfl,_,l4,l5.mono ?_⟩;rintro e v14 ⟨rfl,hv⟩;subst hv;refine ⟨_,rfl,rfl,rfl,gd rfl (gd rfl ?_)⟩;have r0:∀j,K2 j->v14.heap[j]? =v14.heap[j]? :=λj _=>rfl
 obtain ⟨hBd,kd⟩:=hB.same (Ext.dr v14);have hi4:=cK d.n 4 aA;apply Br.mk<;>intro Ts
 ·have Ts:=cS Ts;obtain ⟨F,occ,hE,he⟩:=hBd.e;obtain ⟨Fw,hW,bf⟩:=hE.world;refine (vG hW (by show D.l.length<=_;omega) (oB d.p)).mono ?_;rintro e u1 ⟨rfl,hr⟩;obtain ⟨Kt,k1⟩:=he (bf hr);have kk1:∀j,K2 j->u1.heap[j]? =v14.heap[j]? :=λj hj=>(k1 j hj).trans (kd j hj)
  obtain ⟨F',occ',hM,hm⟩:=Kt.m;obtain ⟨Fw',hW',S0⟩:=hM.world;refine ⟨_,rfl,k1 _ kw,k1 _ k3,posL kk1,(vG hW' aa (oB d.p)).mono ?_⟩;rintro e u2 ⟨rfl,hr⟩;obtain ⟨N9,k2⟩:=hm (S0 hr);exact ⟨_,rfl,k2 _ kw,k2 _ k3,fin (by simp [kj,hX,eh,eU,eV,ed,um,Ga,ky]) (by unfold jM;rw [if_pos Ts]) (by unfold jM;rw [if_pos Ts]) N9 λj hj=>(k2 j hj).trans (kk1 j hj)⟩
 have n0:=cS Ts;apply Br.mk<;>intro Jd
 ·have Jd:=cS Jd;obtain ⟨F,occ,hE,he⟩:=hBd.e;obtain ⟨Fw,hW,bf⟩:=hE.world;refine (xM hW (by show D.l.length<=_;omega) (oB d.p)).mono ?_;rintro e u1 ⟨rfl,hr⟩;obtain ⟨Kt,k1⟩:=he (bf hr);have kk1:∀j,K2 j->u1.heap[j]? =v14.heap[j]? :=λj hj=>(k1 j hj).trans (kd j hj)
  obtain ⟨F',occ',hM,hm⟩:=Kt.m;obtain ⟨Fw',hW',S0⟩:=hM.world;refine ⟨_,rfl,k1 _ kw,k1 _ k3,posL kk1,(xM hW' aa (oB d.p)).mono ?_⟩;rintro e u2 ⟨rfl,hr⟩;obtain ⟨N9,k2⟩:=hm (S0 hr);exact ⟨_,rfl,k2 _ kw,k2 _ k3,fin (by simp [kj,hX,eh,eU,eV,ed,um,Ga,ky]) (by unfold jM;rw [if_neg n0,if_pos Jd]) (by unfold jM;rw [if_neg n0,if_pos Jd]) N9 λj hj=>(k2 j hj).trans (kk1 j hj)⟩
 have n1:=cS Jd;apply Br.mk<;>intro BW
 ·have BW:=cS BW;obtain ⟨F,occ,hE,he⟩:=hB.e;obtain ⟨Fw,hW,bf⟩:=hE.world;refine (uh hW (by show D.l.length<=_;omega)).mono ?_;rintro e u1 ⟨rfl,hr⟩;obtain ⟨Kt,k1⟩:=he (bf hr);obtain ⟨F',occ',hM,hm⟩:=Kt.m;obtain ⟨Fw',hW',S0⟩:=hM.world;refine ⟨_,_,rfl,k1 _ kw,k1 _ k3,(uh hW' aa).mono ?_⟩;rintro e u2 ⟨rfl,hr⟩;obtain ⟨N9,k2⟩:=hm (S0 hr);exact ⟨_,_,rfl,k2 _ kw,k2 _ k3,yes (by simp [kj,hX,eh,eU,eV,ed,um,Ga,ky]) (fin (by simp [kj,hX,eh,eU,eV,ed,um,Ga,ky]) (by unfold jM;rw [if_neg n0,if_neg n1,if_pos BW]) (by unfold jM;rw [if_neg n0,if_neg n1,if_pos BW]) N9 λj hj=>(k2 j hj).trans (k1 j hj))⟩
 have n2:=cS BW;apply Br.mk<;>intro BH
 ·have BH:=cS BH;refine (U1 d.aq hd7 v14).mono ?_;rintro e u1 ⟨rfl,x1⟩;obtain ⟨Kt,k1⟩:=hB.same x1;refine ⟨_,_,_,rfl,k1 _ kw,k1 _ k3,λu2 e2 u3 e3=> ?_⟩;have xx:Ext u1 u3:=(aQ e2).ab e3 (ak _);have zx:u3.heap.size=u1.heap.size+1:=by rw [zR e3,zA e2]
  have hB3:=Kt.ext xx;have k13:=(Kt.same xx).2;have kb:K2 u1.heap.size\/u1.heap.size<=u1.heap.size/\u1.heap.size<u3.heap.size:=.inr ⟨ak _,aa⟩;have a1:=cK d.c.1 60000 aA;refine (iG d.c.1 60000 u3 hd6.1 aA gA).mono ?_;rintro e u4 ⟨rfl,hu⟩;subst hu;refine ⟨_,rfl,rfl,rfl,rfl,(iG d.c.2.1 120000 u4 hd6.2.1 aA gA).mono ?_⟩;rintro e u5 ⟨rfl,hu⟩;subst hu;obtain ⟨F,occ,hE,he⟩:=hB3.e;refine ⟨_,rfl,rfl,rfl,rfl,(HF hE (Qu d.aq) (cu d.c.1 60000) (cu d.c.2.1 120000) gA).mono ?_⟩;rintro e u6 ⟨rfl,hr⟩;obtain ⟨hB6,k6⟩:=he hr;obtain ⟨F',occ',hM,hm⟩:=hB6.m;refine ⟨_,_,rfl,k6 _ (.inl kw),k6 _ (.inl k3),k6 _ kb,(Pj hM (Qu d.aq) (cu d.c.1 60000) (cu d.c.2.1 120000) gA).mono ?_⟩;rintro e u7 ⟨rfl,hr⟩;obtain ⟨hB7,k7⟩:=hm hr;refine ⟨_,_,rfl,k7 _ (.inl kw),k7 _ (.inl k3),k7 _ kb,yes (by simp [kj,hX,eh,eU,eV,ed,um,Ga,ky]) (fin (by simp [kj,hX,eh,eU,eV,ed,um,Ga,ky]) (by unfold jM;rw [if_neg n0,if_neg n1,if_neg n2,if_pos BH]) (by unfold jM;rw [if_neg n0,if_neg n1,if_neg n2,if_pos BH]) ?_ λj hj=>(k7 j (.inl hj)).trans ((k6 j (.inl hj)).trans ((k13 j hj).trans (k1 j hj))))⟩;rw [vf];exact hB7.mono λj hj=> .inl hj
 have n3:=cS BH;apply Br.mk<;>intro hk4
 ·have hk4:=cS hk4;have N8:jM M rows d=(M,DZ rows (ix d) d.vz):=by unfold jM;rw [if_neg n0,if_neg n1,if_neg n2,if_neg n3,if_pos hk4]
  have hdoE:jM (wD M D) rows d=(wD M D,DZ rows (ix d) d.vz):=by unfold jM;rw [if_neg n0,if_neg n1,if_neg n2,if_neg n3,if_pos hk4]
  have htl:=yD (rows:=rows) (ix d) hi4.1 d.vz;obtain ⟨i,hi⟩:∃i:Nat,ix d=i:=⟨(cu d.n 4).toNat,by show cu d.n 4=_;omega⟩;have aAh:i<4:=by have:cu d.n 4=i:=hi;omega
  have aol:=hB.Gy;obtain ⟨r,xi⟩:=bq (l:=rows) (i:=i) aa;have hii:(rows.map lv)[i]? =some (lv r):=by rw [aS,xi];rfl
  have Jn:=pZ (rows:=rows) (n:=i) rfl xi;have htR:DZ rows i d.vz=if r.1=true then rows.set i (r.1,(r.2.1,d.vz)) else rows:=by unfold DZ;rw [dQ,xi]
  show ae 54 #[.pointer (aD a.g),(ix d),.agg #[d.vz.1,d.vz.2.1,.bool d.vz.2.2]] v14 _;have hix:cu d.n 4=(i:Int):=hi;rw [hix];rw [hi] at N8 hdoE htl ⊢;obtain ⟨F,occ,hE,he⟩:=hB.e;refine (ZO hE i d.vz).mono ?_;rintro e u1 ⟨rfl,hr⟩;obtain ⟨Kt,k1⟩:=he hr;obtain ⟨F',occ',hM,hnK,hm⟩:=Kt.mK;obtain ⟨b,hmr,hbr,Em,-,hFb,hmb,bf⟩:=hM.Pk;have rk:=ye hbr Em;have inb:eL (aD b) (i:Int) 16:=rk.jd (i:=(i:Int)) aA aa (by show (i:Int)<((16:Nat):Int);omega);refine ⟨_,rfl,k1 _ kw,k1 _ k3,⟨aD b,16,16⟩,hmr.at 2 rfl,inb,iS rfl ⟨r.1,rk.at hii (mlA r),Br.mk (λhb=> ?_) (λhb=> ?_)⟩⟩
  ·have hlr:aj r=some r.2:=by unfold aj;rw [if_pos hb]
   have ht0:(pY (rows.map aj) i d.vz).1=0:=by unfold pY;rw [Jn,hlr]
   rw [if_pos hb] at htR;have xd:=Ext.dr u1;obtain ⟨p0,p1,pb,p2⟩:=ap6 Em (hbr.ext xd) (k:=i) aa xi d.vz;have nK:∀j,K2 j->some b≠some j:=λj hj q=>by injection q with q;exact hnK j hj (q▸hFb)
   refine ⟨⟨aD b,16,16⟩,(hmr.ext xd).at 2 rfl,inb,iS rfl ⟨⟨p0,p1⟩,by rw [pb];exact nK _ kw,by rw [pb];exact nK _ k3,λu2 e2=> ?_⟩⟩;obtain ⟨q1,q2⟩:=p2 u2 e2;have rj:Mod (λi=>i=b) u1 u2:=(Mod.aC xd).trans q2;have hmr2:=rj.row hmr hmb;have N6:(rows.set i (r.1,(r.2.1,d.vz))).length=16:=by rw [iE];exact Em
   obtain ⟨N9,k2⟩:=hm (bf rj q1 N6);have rk2:=ye q1 N6;have hii2:((rows.set i (r.1,(r.2.1,d.vz))).map lv)[i]? =some (lv (r.1,(r.2.1,d.vz))):=by rw [aS,oM aa];rfl
   refine ⟨⟨aD b,16,16⟩,hmr2.at 2 rfl,inb,iS rfl ⟨r.1,rk2.at hii2 (mlA _),?_⟩⟩;rw [ht0,hb];refine yes rfl (yes rfl (fin rfl hdoE N8 ?_ λj hj=>(k2 j hj).trans (k1 j hj)));rw [htl,htR];exact N9
  ·have hlr:aj r=none:=by unfold aj;rw [if_neg (by rw [hb];decide)]
   have ht0:(pY (rows.map aj) i d.vz).1=6:=by unfold pY;rw [Jn,hlr]
   rw [if_neg (by rw [hb];decide)] at htR;refine ⟨⟨aD b,16,16⟩,hmr.at 2 rfl,inb,iS rfl ⟨r.1,rk.at hii (mlA r),?_⟩⟩;rw [ht0,hb];refine yes rfl (gd rfl (fin rfl hdoE N8 ?_ k1));rw [htl,htR];exact Kt
 have n4:=cS hk4;apply Br.mk<;>intro hk5
 ·have hk5:=cS hk5;have N8:jM M rows d=((gg M (rows.map aj) (ix d) d.cV (wX d.b)).2,rows):=by unfold jM;rw [if_neg n0,if_neg n1,if_neg n2,if_neg n3,if_neg n4,if_pos hk5]
  have hdoE:jM (wD M D) rows d=((gg (wD M D) (rows.map aj) (ix d) d.cV (wX d.b)).2,rows):=by unfold jM;rw [if_neg n0,if_neg n1,if_neg n2,if_neg n3,if_neg n4,if_pos hk5]
  refine (qR d.b hd3 v14.drew).mono ?_;rintro e u1 ⟨rfl,hu⟩;subst hu;obtain ⟨F,occ,hE,he⟩:=hBd.e;refine ⟨_,rfl,rfl,rfl,bL kd,wayL kd,wayL kd,(Q1 hE hj.b aa (ix d) d.cV (wX d.b) (hjsE.mono aa)).mono ?_⟩;rintro e u2 ⟨rfl,hr⟩;obtain ⟨N9,k2⟩:=he hr;have kk2:∀j,K2 j->u2.heap[j]? =v14.heap[j]? :=λj hj=>(k2 j hj).trans (kd j hj)
  refine ⟨_,rfl,k2 _ kw,k2 _ k3,bL kk2,wayL kk2,(qR d.b hd3 u2).mono ?_⟩;rintro e u3 ⟨rfl,hu⟩;subst hu;obtain ⟨F',occ',hM,hm⟩:=N9.m;refine ⟨_,rfl,rfl,rfl,wayL kk2,(P7 hM hj.b aa (ix d) d.cV (wX d.b) (hjs.mono aa)).mono ?_⟩;rintro e u4 ⟨rfl,hr⟩;obtain ⟨hB4,k4⟩:=hm hr;exact ⟨_,rfl,k4 _ kw,k4 _ k3,fin (by simp [kj,hX,eh,eU,eV,ed,um,Ga,ky]) hdoE N8 hB4 λj hj=>(k4 j hj).trans (kk2 j hj)⟩
 have n5:=cS hk5;apply Br.mk<;>intro hk6
 ·have hk6:=cS hk6;have N8:jM M rows d=((fu M (rows.map aj) (ix d) d.cV).2,rows):=by unfold jM;rw [if_neg n0,if_neg n1,if_neg n2,if_neg n3,if_neg n4,if_neg n5,if_pos hk6]
  have hdoE:jM (wD M D) rows d=((fu (wD M D) (rows.map aj) (ix d) d.cV).2,rows):=by unfold jM;rw [if_neg n0,if_neg n1,if_neg n2,if_neg n3,if_neg n4,if_neg n5,if_pos hk6]
  obtain ⟨F,occ,hE,he⟩:=hB.e;refine (Q2 hE hj.b aa (ix d) d.cV (hjsE.mono aa)).mono ?_;rintro e u2 ⟨rfl,hr⟩;obtain ⟨N9,k2⟩:=he hr;obtain ⟨F',occ',hM,hm⟩:=N9.m;refine ⟨_,_,rfl,k2 _ kw,k2 _ k3,(Ur hM hj.b aa (ix d) d.cV (hjs.mono aa)).mono ?_⟩;rintro e u4 ⟨rfl,hr⟩;obtain ⟨hB4,k4⟩:=hm hr;exact ⟨_,_,rfl,k4 _ kw,k4 _ k3,yes (by simp [kj,hX,eh,eU,eV,ed,um,Ga,ky]) (fin (by simp [kj,hX,eh,eU,eV,ed,um,Ga,ky]) hdoE N8 hB4 λj hj=>(k4 j hj).trans (k2 j hj))⟩
 have n6:=cS hk6;apply Br.mk<;>intro hk7
 ·have hk7:=cS hk7;have N8:jM M rows d=((c8 M (rows.map aj) (xI d.c) (wX d.b)).2,rows):=by unfold jM;rw [if_neg n0,if_neg n1,if_neg n2,if_neg n3,if_neg n4,if_neg n5,if_neg n6,if_pos hk7]
  have hdoE:jM (wD M D) rows d=((c8 (wD M D) (rows.map aj) (xI d.c) (wX d.b)).2,rows):=by unfold jM;rw [if_neg n0,if_neg n1,if_neg n2,if_neg n3,if_neg n4,if_neg n5,if_neg n6,if_pos hk7]
  have hcw:fm (xI d.c):=by have b1:=cK d.c.1 10 aA;have b2:=cK d.c.2.1 14 aA;have b3:=cK d.c.2.2 10 aA;unfold fm xI;simp only;omega
  refine (U2 d.c hd6 v14).mono ?_;rintro e u1 ⟨rfl,x1⟩;obtain ⟨Kt,k1⟩:=hB.same x1;refine ⟨_,_,_,rfl,k1 _ kw,k1 _ k3,λu2 e2 u3 e3=> ?_⟩;have xx:Ext u1 u3:=(aQ e2).ab e3 (ak _);have zx:u3.heap.size=u1.heap.size+1:=by rw [zR e3,zA e2]
  have ru:∃τ,Row u3 u1.heap.size (dZ (xI d.c)) τ:=⟨_,by rw [e3,e2];exact Row.set (Row.new u1 [_,_,_] _) [_,_,_]⟩;obtain ⟨τu,ru⟩:=ru;have hB3:=Kt.ext (xx.tr (Ext.dr u3));have k13:=(Kt.same (xx.tr (Ext.dr u3))).2;have zd:u3.drew.heap.size=u3.heap.size:=rfl;have kb:K2 u1.heap.size\/u1.heap.size<=u1.heap.size/\u1.heap.size<u3.drew.heap.size:=.inr ⟨ak _,aa⟩;have kk3:∀j,K2 j->u3.drew.heap[j]? =v14.heap[j]? :=λj hj=>(k13 j hj).trans (k1 j hj)
  have rud:=ru.ext (Ext.dr u3);refine (qR d.b hd3 u3.drew).mono ?_;rintro e u4 ⟨rfl,hu⟩;subst hu;obtain ⟨F,occ,hE,he⟩:=hB3.e;refine ⟨_,rfl,rfl,rfl,rfl,bL kk3,Lo.wv rud,Lo.wv rud,(yP hE hj.b (xI d.c) hcw (wX d.b) (hjsE.mono aa)).mono ?_⟩;rintro e u5 ⟨rfl,hr⟩;obtain ⟨hB5,k5⟩:=he hr;have kk5:∀j,K2 j->u5.heap[j]? =v14.heap[j]? :=λj hj=>(k5 j (.inl hj)).trans (kk3 j hj)
  refine ⟨_,rfl,k5 _ (.inl kw),k5 _ (.inl k3),k5 _ kb,bL kk5,Lo.wv (rud.same (k5 _ kb)),(qR d.b hd3 u5).mono ?_⟩;rintro e u6 ⟨rfl,hu⟩;subst hu;obtain ⟨F',occ',hM,hm⟩:=hB5.m;refine ⟨_,rfl,rfl,rfl,rfl,Lo.wv (rud.same (k5 _ kb)),(yw hM hj.b (xI d.c) hcw (wX d.b) (hjs.mono aa)).mono ?_⟩;rintro e u7 ⟨rfl,hr⟩;obtain ⟨hB7,k7⟩:=hm hr;exact ⟨_,rfl,k7 _ (.inl kw),k7 _ (.inl k3),k7 _ kb,fin (by simp [kj,hX,eh,eU,eV,ed,um,Ga,ky]) hdoE N8 (hB7.mono λj hj=> .inl hj) λj hj=>(k7 j (.inl hj)).trans (kk5 j hj)⟩
 have n7:=cS hk7;apply Br.mk<;>intro LX
 ·have LX:=cS LX;have N8:jM M rows d=(M,A1 rows (ix d)):=by unfold jM;rw [if_neg n0,if_neg n1,if_neg n2,if_neg n3,if_neg n4,if_neg n5,if_neg n6,if_neg n7,if_pos LX]
  have hdoE:jM (wD M D) rows d=(wD M D,A1 rows (ix d)):=by unfold jM;rw [if_neg n0,if_neg n1,if_neg n2,if_neg n3,if_neg n4,if_neg n5,if_neg n6,if_neg n7,if_pos LX]
  have htl:=yE (rows:=rows) (ix d) hi4.1;obtain ⟨i,hi⟩:∃i:Nat,ix d=i:=⟨(cu d.n 4).toNat,by show cu d.n 4=_;omega⟩;have hix:cu d.n 4=(i:Int):=hi;have aAh:i<4:=by omega
  have aol:=hB.Gy;obtain ⟨r,xi⟩:=bq (l:=rows) (i:=i) aa;have hii:(rows.map lv)[i]? =some (lv r):=by rw [aS,xi];rfl
  have Jn:=pZ (rows:=rows) (n:=i) rfl xi;rw [hix];rw [hi] at N8 hdoE htl;obtain ⟨F,occ,hE,he⟩:=hB.e;refine (ZD hE i).mono ?_;rintro e u1 ⟨rfl,hr⟩;obtain ⟨Kt,k1⟩:=he hr;obtain ⟨F',occ',hM,hnK,hm⟩:=Kt.mK;obtain ⟨b,hmr,hbr,Em,-,hFb,hmb,bf⟩:=hM.Pk;have rk:=ye hbr Em;have inb:eL (aD b) (i:Int) 16:=rk.jd (i:=(i:Int)) aA aa (by show (i:Int)<((16:Nat):Int);omega);obtain ⟨p0,p1,p2⟩:=acB Em hbr (k:=i) aa (false,(Py,(0,0,false)));have pb:bk (af (aD b) ((i:Int).toNat*13))=some b:=by rw [aV];rfl
  have nK:∀j,K2 j->some b≠some j:=λj hj q=>by injection q with q;exact hnK j hj (q▸hFb)
  refine ⟨_,rfl,k1 _ kw,k1 _ k3,⟨aD b,16,16⟩,hmr.at 2 rfl,inb,iS rfl ⟨r.1,rk.at hii (mlA r),⟨aD b,16,16⟩,hmr.at 2 rfl,inb,⟨p0,p1⟩,by rw [pb];exact nK _ kw,by rw [pb];exact nK _ k3,λu2 e2=> ?_⟩⟩;obtain ⟨q1,q2⟩:=p2 u2 e2;obtain ⟨N9,k2⟩:=hm (bf q2 q1 (by rw [iE];exact Em));have BS:uS K2 w0 u2 a (wD M D) ((A1 rows (i:Int)).map aj) M (A1 rows (i:Int)):=by rw [htl];unfold A1;rw [dQ];exact N9
  cases hb:r.1 with
  |true=>
   have hlr:aj r=some r.2:=by unfold aj;rw [if_pos hb]
   have ht0:(qb (rows.map aj) i).1=0:=by unfold qb;rw [Jn,hlr];rfl
   rw [ht0];exact yes rfl (yes rfl (fin rfl hdoE N8 BS λj hj=>(k2 j hj).trans (k1 j hj)))
  |false=>
   have hlr:aj r=none:=by unfold aj;rw [if_neg (by rw [hb];decide)]
   have ht0:(qb (rows.map aj) i).1=6:=by unfold qb;rw [Jn,hlr];rfl
   rw [ht0];exact yes rfl (gd rfl (fin rfl hdoE N8 BS λj hj=>(k2 j hj).trans (k1 j hj)))
 have n8:=cS LX;apply Br.mk<;>intro hk9
 ·have hk9:=cS hk9;exact absurd hk9 h9'
 have n9:=cS hk9;apply Br.mk<;>intro VK
 ·have VK:=cS VK;have N8:jM M rows d=(M,rows):=by unfold jM;rw [if_neg n0,if_neg n1,if_neg n2,if_neg n3,if_neg n4,if_neg n5,if_neg n6,if_neg n7,if_neg n8,if_neg n9,if_pos VK]
  have hdoE:jM (wD M D) rows d=(wD M D,rows):=by unfold jM;rw [if_neg n0,if_neg n1,if_neg n2,if_neg n3,if_neg n4,if_neg n5,if_neg n6,if_neg n7,if_neg n8,if_neg n9,if_pos VK]
  obtain ⟨F,occ,hE,he⟩:=hB.e;refine (CZ hE hj.b aa (ix d) d.cV).mono ?_;rintro e u1 ⟨rfl,x1⟩;have Kt:=hB.ext x1;have k1:=(hB.same x1).2;refine ⟨_,_,_,_,_,_,_,rfl,k1 _ kw,k1 _ k3,λu2 e2 u3 e3=> ?_⟩;have xx:Ext u1 u3:=(aQ e2).ab e3 (ak _);have zx:u3.heap.size=u1.heap.size+1:=by rw [zR e3,zA e2]
  have hB3:=Kt.ext xx;have k13:=(Kt.same xx).2;have kb:(K2 u1.heap.size\/v14.heap.size<=u1.heap.size/\u1.heap.size<u1.heap.size)\/u1.heap.size<=u1.heap.size/\u1.heap.size<u3.heap.size:=.inr ⟨ak _,aa⟩;obtain ⟨F',occ',hM,hm⟩:=hB3.m;refine (yu hM hj.b aa (ix d) d.cV).mono ?_;rintro e u4 ⟨rfl,x4⟩;obtain ⟨hB4,k4⟩:=hB3.same x4;refine ⟨_,_,_,_,_,_,_,rfl,k4 _ (.inl (.inl kw)),k4 _ (.inl (.inl k3)),k4 _ kb,λu5 e5 u6 e6=> ?_⟩;have x6:Ext u4 u6:=(aQ e5).ab e6 (ak _);obtain ⟨hB6,k6⟩:=hB4.same x6;exact yes (by simp [kj,hX,eh,eU,eV,ed,um,Ga,ky]) (yes (by simp [kj,hX,eh,eU,eV,ed,um,Ga,ky]) (yes (by simp [kj,hX,eh,eU,eV,ed,um,Ga,ky]) (yes (by simp [kj,hX,eh,eU,eV,ed,um,Ga,ky]) (fin (by simp [kj,hX,eh,eU,eV,ed,um,Ga,ky]) hdoE N8 (hB6.mono λj hj=> .inl (.inl hj)) λj hj=>(k6 j (.inl (.inl hj))).trans ((k4 j (.inl (.inl hj))).trans ((k13 j (.inl hj)).trans (k1 j hj)))))))
 have n10:=cS VK;have N8:jM M rows d=((jH M (rows.map aj)).1,nq M rows):=by unfold jM;rw [if_neg n0,if_neg n1,if_neg n2,if_neg n3,if_neg n4,if_neg n5,if_neg n6,if_neg n7,if_neg n8,if_neg n9,if_neg n10]
 have hdoE:jM (wD M D) rows d=((jH (wD M D) (rows.map aj)).1,nq (wD M D) rows):=by unfold jM;rw [if_neg n0,if_neg n1,if_neg n2,if_neg n3,if_neg n4,if_neg n5,if_neg n6,if_neg n7,if_neg n8,if_neg n9,if_neg n10]
 have hNr:KS (pc M):=Nr.due ⟨hj.t,hj.q,hj.s.now⟩;obtain ⟨F,occ,hE,he⟩:=hB.e;refine (YV hE hj.b hbm0 hbm hNr hjsE hj.u).mono ?_;rintro e u1 ⟨rfl,hr,-⟩;obtain ⟨Kt,k1⟩:=he hr;obtain ⟨F',occ',hM,hm⟩:=Kt.m;refine ⟨_,rfl,k1 _ kw,k1 _ k3,(U3 hM hj.b hbm0 hbm hNr hjs hj.u).mono ?_⟩;rintro e u2 ⟨rfl,hr⟩;obtain ⟨N9,k2⟩:=hm hr;refine ⟨_,rfl,k2 _ kw,k2 _ k3,fin (by simp [kj,hX,eh,eU,eV,ed,um,Ga,ky]) hdoE N8 ?_ λj hj=>(k2 j hj).trans (k1 j hj)⟩;rw [lW];exact N9
end
structure Iw(ag:Int)(v0 u:World)(a:Ad)(j:Nat)(M:Sm)(rows:List iz)(D:Dk)(r r':Rc)(s:Sl)(b:List Int):Prop where
 B:uS (λi=>s.aZ=some i) v0 u a (wD M D) (rows.map aj) M rows
 J:Jv j M (rows.map aj)
 sd:M.ag=ag
 T:eY ag (17*j) M.T
 F:oC ag M.T (rows.map aj)
 K:DE (17*j) r r' (D,M.T.2) M.T
 o:mh 0 u s b
section
variable {ag:Int} {v0 u u':World} {a:Ad} {j:Nat} {M:Sm} {rows:List iz} {D:Dk} {r r':Rc} {s s':Sl} {b b':List Int}
def Iw.x(h:Iw ag v0 u a j M rows D r r' s b):Ext v0 u:=by obtain ⟨F,F',oc,oc',h1,h2,h3,h4,h5,h6,h7⟩:=h.B;exact h7
def Iw.QD(h:Iw ag v0 u a j M rows D r r' s b)(x:Ext u u')(o:mh u.heap.size u' s' b'):Iw ag v0 u' a j M rows D r r' s' b':=⟨(h.B.ext x).mono λ_ hi=> .inr (o.own.lt hi),h.J,h.sd,h.T,h.F,h.K,o.low (gV _)⟩
def iw0(hB:uS (λ_=>False) v0 u a (TP ag 9 8) (Ay.map aj) (TP ag 9 8) Ay):∃D r,r.2.1=0/\Iw ag v0 u a 0 (TP ag 9 8) Ay D r r ⟨none,0,0⟩ []:=by
 refine ⟨_,dt (Mh 1000000) 0,aA,hB.mono λi q=>(by cases (show (none:Option Nat)=some i from q)),jv0 _ _ _,rfl,aqy _ _ _ (aem hB),λy hy=> ?_,⟨aqD _,aqD _,rfl,λ_ _=>rfl⟩,ar.nil⟩;rw [GU] at hy;have:=List.eq_of_mem_replicate hy
 cases this
def Iw.step(h:Iw ag v0 u a j M rows D r r' s b)(x:Ext u u')(hj:j<=40)(d:Ja)(hd:dIn d)(h9:d.kind≠9):
  ae 15 #[.pointer (aD a.g),.pointer (aD a.m),dV d] u' λe w=>e=true/\(∀i,u.heap.size<=i/\i<u'.heap.size->w.heap[i]? =u'.heap[i]?)/\∃M' rows' D',Iw ag v0 w a (j+1) M' rows' D' r r' s b:=by
 have aow:=h.B.few;have aow:M.T.2.length<=16:=aow;have hg:=aem h.B;have hg:fV M.T.2:=hg;have hDl:D.l.length<=100000:=by have:D.l=[]:=h.K.a.1.s.c.l;rw [this];decide
 refine (UZ (h.B.ext x) hDl (h.K.load aa hg (MR d.p)).1 (h.K.Cb aa hg _).1 (h.K.DF (by show 17*j+M.T.2.length<1000000;omega) hg).1 h9 h.J aa hd).mono ?_;rintro e w ⟨rfl,hB,hk⟩;obtain ⟨D',eD,hK⟩:=aqm rows h.K aa hg d h9;rw [eD] at hB;have hg':=aem hB;have hg':fV (jM M rows d).1.T.2:=hg';obtain ⟨hT,hF⟩:=ZL h.sd h.T h.F h.J.b aa aa aa d hg';exact ⟨rfl,λi hi=>hk i (.inr hi),_,_,D',hB.mono λi hi=> .inl hi,h.J.step d aow aa,(ZK M rows d).trans h.sd,hT.mono aa,hF,hK.mono aa,(h.o.ext x).aW (w':=w) λg hg=>hk g (.inl hg)⟩
end
section
variable {ag:Int} {v0 u u':World} {a:Ad} {j n:Nat} {M:Sm} {rows:List iz} {D:Dk} {r r' r1:Rc} {s:Sl} {b:List Int}
def ahy(h:DE n r r1 (D,M.T.2) M.T)(hn:n<900000)(L:List (Option cM)):(lk D 0 (cr (wD M D) L)).2=0/\∃r',DE (n+1) r' r1 ((lk D 0 (cr (wD M D) L)).1,M.T.2) M.T/\r'.2.2=cr M L/\0<r'.2.1:=by
 have hr:=Qo (wD M D) L;obtain ⟨k1,r',k2,k3,k4⟩:=Y6 (M:=wD M D) (L:=L) h.a hn;obtain ⟨-,-,-,-,s5⟩:=h.a.1.s.save (id:=0) (body:=cr (wD M D) L) aa (show (0:Int) ∈ k25 from .head _) (show (1:Int) ∈ k25 from .tail _ (.head _)) (show _<=49009 by omega) (show _<=49009 by omega) aa aa;exact ⟨k1,r',⟨k2,h.b.mono aa,rfl,λid Td=>by show (Go.cg.lu (lk D 0 (cr (wD M D) L)).1 id).1=_;rw [GL (s5 id aa)];exact h.d id Td⟩,k3,k4⟩
def Wnt(r:Rc)(b:List Int):Prop:=(r.2.1=0/\b=Hz 0 [] [])\/(0<r.2.1/\∃(M:Sm)(L:List (Option cM)),r.2.2=cr M L/\b=cr M L/\okR L/\okW M.q.l/\(0<=M.now/\M.now<=1099511627776)/\BT ⟨4096,0,M.q.l.take 2000⟩)
def Iw.save(h:Iw ag v0 u a j M rows D r r1 s b)(hj:j<=40)(hb:b=cr (wD M D) (rows.map aj)):
  ae 35 #[.pointer (aD a.g)] u λe u'=>e=(0:Int)/\∃D' r',Iw ag v0 u' a (j+1) M rows D' r' r1 s b/\Wnt r' b:=by
 obtain ⟨F,occ,hE,he⟩:=h.B.e;have hDl:D.l=[]:=h.K.a.1.s.c.l;obtain ⟨k1,r',k2,k3,k4⟩:=ahy h.K aa (rows.map aj);refine (Ze hE (by show D.l.length<=_;rw [hDl];decide)).mono ?_;rintro e u' ⟨rfl,hr⟩;obtain ⟨hB,hk⟩:=he hr;have hjb:=h.J.b;obtain ⟨Fs,hs,-,-⟩:=hE.xz;obtain ⟨g,m,qs,-,hq,-⟩:=hs.queue;exact ⟨by rw [show (lk (wD M D).T.1 0 (cr (wD M D) (rows.map aj))).2=0 from k1],_,r',⟨hB,h.J.mono aa,h.sd,h.T.mono aa,h.F,k2.mono aa,h.o.aW (w':=u') λg hg=>hk g hg⟩,.inr ⟨k4,M,rows.map aj,k3,hb,aly hjb aa h.F,alz h.J.q,by have:=h.J.s.now;omega,alA hq⟩⟩
end
section
variable {ag:Int} {v0 u:World} {a:Ad} {j:Nat} {M:Sm} {rows:List iz} {D:Dk} {r r1:Rc} {s:Sl} {b:List Int}
def Iw.Pg(h:Iw ag v0 u a j M rows D r r1 s b)(hw:Wnt r b)(aW:Int):
  ae 36 #[.pointer (aD a.g),aW] u λe u'=>∃x:Int,e=x/\∃(Me:Sm)(Le:List (Option cM)),uS (λi=>s.aZ=some i) v0 u' a Me Le M rows/\Me.T.2=[]/\b=cr Me Le/\mh 0 u' s b:=by
 obtain ⟨F,occ,hE,he⟩:=h.B.e;obtain ⟨c1,c2⟩:=UA h.K.a aW;have hDl:D.l=[]:=h.K.a.1.s.c.l;have p1:(wD M D).T.1.l.length<=1000000:=by show D.l.length<=_;rw [hDl];decide
 have p2:eo (wD M D).T.1.l<=1099511627776:=by show eo D.l<=_;rw [hDl];decide
 have p3:(dv (wD M D).T.1 aW).1.l.length<=1000000:=by rw [c1];exact p1
 rcases hw with ⟨w1,w2⟩|⟨w1,M1,L1,w2,w3,w4,w5,w6,w7⟩
 ·refine (QB hE aW p1 p2 p3 (by rw [c1] at c2 ⊢;rw [c2];show decide _=false;rw [w1];rfl)).mono ?_;rintro e u' ⟨rfl,hr⟩;obtain ⟨hB,hk⟩:=he hr;exact ⟨_,rfl,_,_,hB,rfl,w2.trans (adC (wD M D) _).symm,h.o.aW (w':=u') λg hg=>hk g hg⟩
 ·refine (QC (M':=M1) (L:=L1) hE aW p1 p2 p3 (by rw [c2];exact ⟨w2,decide_eq_true w1⟩) w4 w5 w6 w7).mono ?_;rintro e u' ⟨rfl,hr⟩;obtain ⟨hB,hk⟩:=he hr;exact ⟨_,rfl,_,_,hB,rfl,w3.trans (Zh M1 L1 M1.T).symm,h.o.aW (w':=u') λg hg=>hk g hg⟩
def Iw.aql(h:Iw ag v0 u a j M rows D r r1 s b)(hj:j<=40){sl:Sl}{ds:List Ja}(hs:RdK v0 sl 17 (ds.map dL))(hd:∀d ∈ ds,dIn d){x:Nat}(hx:(x:Int)<(sl.n:Int)):
  eL sl.a (x:Int) sl.n/\∃d,ah u (af sl.a ((x:Int).toNat*17)) 0 (dL d)/\∀{u1:World},Ext u u1->ae 15 #[.pointer (aD a.g),.pointer (aD a.m),dV (no9 d)] u1 λe w=>e=true/\(∀i,u.heap.size<=i/\i<u1.heap.size->w.heap[i]? =u1.heap[i]?)/\∃M' rows' D',Iw ag v0 w a (j+1) M' rows' D' r r1 s b:=by
 have hn:sl.n=ds.length:=by rw [hs.n,aL]
 obtain ⟨d,hdj⟩:=bq (l:=ds) (i:=x) aa;obtain ⟨k1,k2⟩:=alB (hd d (aO hdj));have hr:=hs.ext h.x;exact ⟨hr.jd aA aa hx,d,hr.bI (by rw [aS,dQ,hdj];rfl),λx1=>h.step x1 hj _ k1 k2⟩
end
def A4(ag aW:Int)(sv:Bool){s1 s2:Sl}{d1 d2:List Ja}{w:World}(fj:RdK w s1 17 (d1.map dL))(hd1:∀d ∈ d1,dIn d)(Eu:RdK w s2 17 (d2.map dL))(hd2:∀d ∈ d2,dIn d):
  ae 8 #[ag,s1,s2,aW,sv] w λe w'=>e=true/\Ext w w':=by
 apply (wZ.vc (a1:=s1) (a2:=s2));refine (TR ag 8 9 aA w).mono ?_;rintro e w0 ⟨a,rfl,hB⟩;obtain ⟨D,r,hr,hI⟩:=iw0 hB;refine ⟨_,_,rfl,gd rfl ⟨λu=>∃(j:Nat)(M:Sm)(rows:List iz)(D:Dk),j<=12/\Iw ag w u a j M rows D r r ⟨none,0,0⟩ [],⟨λn x u=>∃(i:Nat)(M:Sm)(rows:List iz)(D:Dk),x=i/\i+n=12/\Iw ag w u a i M rows D r r ⟨none,0,0⟩ [],⟨12,0,_,_,_,rfl,rfl,hI⟩,?_⟩,?_⟩⟩
 ·rintro n us x w7 ⟨i,M,rows,D,rfl,hjn,h⟩;refine Br.mk (λhq=>Br.mk (λXC=> ?_) (λ_=>⟨i,M,rows,D,aa,h⟩)) (λ_=>⟨i,M,rows,D,aa,h⟩);have XC:=cS XC;obtain ⟨i1,d,i2,i3⟩:=h.aql aa fj hd1 (x:=i) (by simpa using hq);refine ⟨i1,_,_,_,_,_,_,_,_,_,_,_,_,_,_,_,_,_,i2,λu1 e1 u2 e2=> ?_⟩;have x2:Ext w7 u2:=(aQ e1).ab e2 (ak _);have z2:u2.heap.size=w7.heap.size+1:=by rw [zR e2,zA e1]
  refine Br.mk (λhk u3 e3=> ?_) (λhk=> ?_)
  ·have hk:=cS hk;have st:=i3 (x2.ab e3 (ak _));rw [show no9 d={d with kind:=10} from if_pos hk] at st;refine st.mono ?_;rintro e w8 ⟨rfl,k,M',rows',D',h'⟩;exact ⟨_,rfl,k _ ⟨ak _,by rw [zR e3];omega⟩,gd rfl ⟨n-1,aa,i+1,M',rows',D',by rw [wI];omega,aa,h'⟩⟩
  ·have hk:=cS hk;have st:=i3 x2;rw [show no9 d=d from if_neg hk] at st;refine st.mono ?_;rintro e w8 ⟨rfl,k,M',rows',D',h'⟩;exact ⟨_,rfl,k _ ⟨ak _,aa⟩,gd rfl ⟨n-1,aa,i+1,M',rows',D',by rw [wI];omega,aa,h'⟩⟩
 rintro us gT ⟨j,M,rows,D,hj,h⟩;refine (UI (now:=0) (sx:=⟨none,0,0⟩) (sw:=⟨none,0,0⟩) (xs:=[]) (ws:=[]) ((ar.nil (B:=0) (E:=0)).rd aA) ((ar.nil (B:=0) (E:=0)).rd aA) (by unfold Zi;decide) (gV _) (gV _) (λ_ q=>by cases q) (λ_ q=>by cases q)).mono ?_;rintro e kH ⟨s37,rfl,ho,oW⟩;have h36:=h.QD oW ho;refine ⟨s37,rfl,λs u=>∃(j:Nat)(M:Sm)(rows:List iz)(D:Dk)(r':Rc)(b:List Int),j<=13/\Iw ag w u a j M rows D r' r s b/\Wnt r' b,Br.mk (λ_=> ?_) (λ_=>⟨j,M,rows,D,r,_,aa,h36,.inl ⟨hr,rfl⟩⟩),?_⟩
 ·obtain ⟨F,occ,hE,-⟩:=h36.B.e;refine (vC hE).mono ?_;rintro e kR ⟨s40,rfl,ho,qv⟩;refine ⟨s40,rfl,((h36.QD qv ho).save aa rfl).mono ?_⟩;rintro e oF ⟨rfl,D',r',h',hw⟩;exact ⟨_,rfl,gd rfl ⟨j+1,M,rows,D',r',_,aa,h',hw⟩⟩
 rintro us s zL ⟨j,M,rows,D,r',b,hj,h,hw⟩;refine ⟨λu=>∃(j:Nat)(M:Sm)(rows:List iz)(D:Dk),Iw ag w u a j M rows D r' r s b,⟨λn x u=>∃(i:Nat)(M:Sm)(rows:List iz)(D:Dk),x=i/\i+n=8/\Iw ag w u a (j+i) M rows D r' r s b,⟨8,0,_,_,_,rfl,rfl,h⟩,?_⟩,?_⟩
 ·rintro n us x w7 ⟨i,M,rows,D,rfl,hjn,h⟩;refine Br.mk (λhq=>Br.mk (λXC=> ?_) (λ_=>⟨j+i,M,rows,D,h⟩)) (λ_=>⟨j+i,M,rows,D,h⟩);have XC:=cS XC;obtain ⟨i1,d,i2,i3⟩:=h.aql aa Eu hd2 (x:=i) (by simpa using hq);refine ⟨i1,_,_,_,_,_,_,_,_,_,_,_,_,_,_,_,_,_,i2,λu1 e1 u2 e2=> ?_⟩;have x2:Ext w7 u2:=(aQ e1).ab e2 (ak _);have z2:u2.heap.size=w7.heap.size+1:=by rw [zR e2,zA e1]
  refine Br.mk (λhk u3 e3=> ?_) (λhk=> ?_)
  ·have hk:=cS hk;have st:=i3 (x2.ab e3 (ak _));rw [show no9 d={d with kind:=10} from if_pos hk] at st;refine st.mono ?_;rintro e w8 ⟨rfl,k,M',rows',D',h'⟩;exact ⟨_,rfl,k _ ⟨ak _,by rw [zR e3];omega⟩,gd rfl ⟨n-1,aa,i+1,M',rows',D',by rw [wI];omega,aa,h'⟩⟩
  ·have hk:=cS hk;have st:=i3 x2;rw [show no9 d=d from if_neg hk] at st;refine st.mono ?_;rintro e w8 ⟨rfl,k,M',rows',D',h'⟩;exact ⟨_,rfl,k _ ⟨ak _,aa⟩,gd rfl ⟨n-1,aa,i+1,M',rows',D',by rw [wI];omega,aa,h'⟩⟩
 rintro us rD ⟨j,M,rows,D,h⟩;refine (h.Pg hw aW).mono ?_;rintro e u ⟨c,rfl,Me,Le,hB,hT,rfl,ho⟩;obtain ⟨F,occ,hE,-⟩:=hB.e;have x0:Ext w u:=by obtain ⟨F,F',oc,oc',h1,h2,h3,h4,h5,h6,h7⟩:=hB;exact h7
 obtain ⟨q1,q2,q3⟩:=hB.e0;refine ⟨_,rfl,iS rfl (iS rfl ⟨_,q1,q2.mono ?_⟩)⟩;rintro e u ⟨rfl,hv⟩;subst hv;refine ⟨_,rfl,q3.mono ?_⟩;rintro e u ⟨rfl,hv⟩;subst hv;refine ⟨_,rfl,gd rfl ((vC hE).mono ?_)⟩;rintro e u1 ⟨sr,rfl,hor,x1⟩;have iy:=ahD (MO Me Le);refine ⟨sr,rfl,(EZ sr s (cr Me Le) (cr Me Le) u1 (hor.rd aA) ((ho.ext x1).rd aA) iy iy).mono ?_⟩;rintro e u2 ⟨rfl,hv⟩;subst hv;obtain ⟨Fs,hs,-,-⟩:=(hE.ext x1).xz;obtain ⟨Fw,hW,-,-⟩:=hs.world;obtain ⟨Ft,hTF,-,-⟩:=hW.table;refine ⟨_,rfl,yes bg ((Du hTF).mono ?_)⟩;rintro e u3 ⟨s',rfl,ho',x3⟩;have hz:s'.n=0:=by have:=(ho'.rd (show 0<2 by decide)).n;rw [hT] at this;exact this
 refine ⟨s',rfl,yes (by rw [hz];rfl) ((MU u3).mono ?_)⟩;rintro e u4 ⟨rfl,x4⟩;exact ⟨_,rfl,rfl,x0.tr (x1.tr (x3.tr x4))⟩
end Go.Proofs.YtkkkfkopcfdmaaaGreatDoor
