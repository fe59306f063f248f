import Derived.Test.YtalpkjfpmdpbiaaGreatDoorYD
import Derived.Test.YtalpkjfpmdpbiaaGreatDoorWB
import Derived.Test.YtalpkjfpmdpbiaaGreatDoorRF
import Derived.Test.YtalpkjfpmdpbiaaGreatDoorGC
set_option linter.all false
namespace Go.Proofs.YtalpkjfpmdpbiaaGreatDoor
open Go Go.Vc Go.RowKit Go.Proofs Go.dS Go.bh Go.Code Go.km Go.iQ
set_option maxRecDepth 100000
abbrev Ck:TypeId:=33
abbrev Yf:TypeId:=89
abbrev bG:TypeId:=39
def Z8(ag limit room:Int){l:List En}(hl:(l.length:Int)<limit){p:Po}(hp:oI p)(hn:∀e ∈ l,e.1≠p):oL ag limit (gy room) l p=((gy room,l++ [(p,made ag p,false,0)]),0):=by
 have hr:cG limit (gy room) l=((gy room,l),0):=by unfold cG;rw [if_pos hl]
 have hd:(qA (gy room) (jU p)).1=[]:=by unfold gy;rw [Wp]
 have hf:bC (λe:En=>e.1==p) l= -1:=ja λy hy=>by simpa using hn y hy
 unfold oL;rw [if_neg (by simpa using hp),if_neg (by rw [hf];decide),hr,if_neg cx];simp only [hd,Lx]
def Ly(ag:Int){k:Nat}(hk:k<=5):(l5 ag k).length=k:=by unfold l5;rw [aB,bF];have:fG.length=5:=rfl;omega
def Wy(ag:Int){k:Nat}{p:Po}(hp:fG[k]? =some p):l5 ag (k+1)=l5 ag k++ [(p,made ag p,false,0)]:=by unfold l5;rw [cm,hp,aT];rfl
def Nc{k:Nat}{p:Po}(hp:fG[k]? =some p):oI p/\p ∉ fG.take k:=by
 have hk:k<5:=(bH.1 hp).1;have:k=0\/k=1\/k=2\/k=3\/k=4:=by omega
 rcases this with rfl|rfl|rfl|rfl|rfl<;>(cases hp;decide)
def AA(ag:Int){k:Nat}{p:Po}(hp:fG[k]? =some p):∀e ∈ l5 ag k,e.1≠p:=λe he q=>by
 obtain ⟨x,hx,rfl⟩:=aS.1 he
 exact (Nc hp).2 (q▸hx)
def Yg(ag:Int){k:Nat}{p:Po}(hp:fG[k]? =some p):oL ag 5 (gy 0) (l5 ag k) p=((gy 0,l5 ag (k+1)),0):=by have hk:k<5:=(bH.1 hp).1;rw [Z8 ag 5 0 (by rw [Ly ag aa];omega) (Nc hp).1 (AA ag hp),Wy ag hp]
def Cm(w:World):ah 84 #[(4096:Int)] w λe w'=>e=Value.agg #[(4096:Int),af,.slice none 0 0]/\Ext w w':=by apply Pf.vc;intro w0 e0 w1 e1;exact ⟨rfl,(bo e0).ab e1 (ax _)⟩
abbrev xvL(ag cap:Int)(d:Dk)(s1 s2 s3 s4:Sl)(b:Int):List Value:=[.int .i64 ag,.int .i64 cap,.int .i64 d.room,.int .i64 d.c9,.int .i64 d.wait,.slice s1.a s1.n s1.c,.slice s2.a s2.n s2.c,.slice s3.a s3.n s3.c,.slice s4.a s4.n s4.c,.int .i64 4096,.int .i64 0,.slice none 0 0,.int .i64 (min (max b 1) 64),.int .i64 0,.slice none 0 0,.slice none 0 0]
def rp(ag cap:Int)(d:Dk)(s1 s2 s3 s4:Sl)(b:Int)(w:World):ah 41 #[wvR ag cap d s1 s2 s3 s4,b] w λe w'=>e=Value.agg (xvL ag cap d s1 s2 s3 s4 b).toArray/\Ext w w':=by
 apply (N5.vc (aK:=s1) (aL:=s2) (aH:=s3) (bO:=s4));intro w0 e0 w1 e1;have x1:Ext w w1.drew:=((bo e0).ay e1).tr (Ext.dr w1);have z0:=dt e0;have z1:w1.drew.heap.size=w.heap.size+2:=by show w1.heap.size=_;rw [e1];simp [z0]
 have r1:Row w1.drew w (wvL ag cap d s1 s2 s3 s4) Ck:=((by rw [e0];exact Row.new w [_,_,_,_,_,_,_,_,_] _:Row w0 w _ Ck).ext (bo e1)).ext (Ext.dr w1);refine (Cm w1.drew).mono ?_;rintro e w2 ⟨rfl,x2⟩;have eb:(if 64<(if 1>b then 1 else b) then 64 else (if 1>b then 1 else b))=min (max b 1) 64:=by split<;>split<;>omega
 refine ⟨_,_,⟨none,0,0⟩,rfl,x2.k,x2.k,Lo.wv (r1.ext x2),λw6 e6=> ?_⟩;rw [eb];exact ⟨rfl,(x1.tr x2).ab e6 (by omega)⟩
def HV(c:Ce){g:Nat}{w:World}{τ:TypeId}(hr:Row w g [.slice none 0 0] τ):ah 42 #[iG c,g] w λe w'=>e=false/\Ext w w':=by apply rh.vc;intro w0 e0;have x0:=bo e0;refine ⟨λn x w'=>n=0/\x=0/\w'=w0,⟨0,rfl,rfl,rfl,rfl⟩,?_⟩;rintro n us x w5 ⟨rfl,rfl,rfl⟩;have h1:=(hr.ext x0).at 0 rfl;rw [ck] at h1;exact ⟨⟨none,0,0⟩,h1,Br.mk (λq=>by simp at q) (λ_=>⟨rfl,x0⟩)⟩
abbrev M5(ag aO:Int):Sm:=⟨ag,5,(gy 0,l5 ag 5),[],⟨4096,0,[]⟩,min (max aO 1) 64,0,[]⟩
abbrev Lz:LV:=[.int .i64 0,.int .i64 0,(-1:Int),.int .i64 0,.int .i64 1,.int .i64 0,.int .i64 0,(-1:Int),.int .i64 0,.int .i64 1]
def ui{w:World}{g:Nat}{τ:TypeId}(hr:Row w g Lz τ){k:Nat}{p:Po}(hp:fG[k]? =some p):au w (ae (bu g) (((k:Nat):Int).toNat*2)) 0 [p.1,p.2]:=by
 have hk:k<5:=(bH.1 hp).1;have h2:Lz[k*2]? =some (.int .i64 p.1)/\Lz[k*2+1]? =some (.int .i64 p.2):=by
  have:k=0\/k=1\/k=2\/k=3\/k=4:=by omega
  rcases this with rfl|rfl|rfl|rfl|rfl<;>(cases hp;exact ⟨rfl,rfl⟩)
 refine ga λi u hu=> ?_
 rw [eo,cP]
 match i,hu with
 |0,hu=>exact hr.at _ (by rw [<-hu];exact h2.1)
 |1,hu=>exact hr.at _ (by rw [<-hu];exact h2.2)
def LA(ag aO:Int)(sl:Sl)(j1:sl.n=0)(w:World):ah 9 #[ag,aO,sl] w λe w'=>
  ∃(s o t:Nat)(F:Nat->Prop)(occ:Value)(s1 s2 s3:Sl),e=Value.tuple #[.pointer (some ⟨s,0,none⟩),.agg (xvL ag 5 (gy 0) s1 s2 s3 ⟨none,0,0⟩ aO).toArray]/\SF F w' s o t (M5 ag aO) occ/\Oc occ (λ_=>false) (λi=>F i\/i<w.heap.size) w'/\RT (λi=>¬F i) w' (gy 0,l5 ag 5) s1 s2 s3/\Ext w w'/\∀i,F i->w.heap.size<=i:=by
 apply (xh.vc (a2:=sl));intro w0 e0;have x0:=bo e0;have z0:=dt e0;have ra0:∃cs,Row w0 w cs bG:=⟨_,by rw [e0];exact Row.new w [_,_,_,_,_,_,_,_,_,_,_,_,_,_,_,_] _⟩;obtain ⟨csa,ra0⟩:=ra0;refine (CZ ag 5 0 w0).mono ?_;rintro e w1 ⟨o,t,F0,rfl,VT,x1,fF0⟩;have CA:(min (max (5:Int) 1) 16)=5:=by decide
 rw [CA] at VT;have z1:=x1.size;refine ⟨_,rfl,x1.k,(xi (P:=λi=>¬F0 i/\i≠w.heap.size) ag 5 0 w1).mono ?_⟩;rw [CA];rintro e w3 ⟨sa0,sb0,sc0,rfl,h3,x3⟩;have z3:=x3.size;refine ⟨_,_,_,_,_,sa0,sb0,sc0,⟨none,0,0⟩,rfl,x3.k,λcC qX bY mB=> ?_⟩;have bW:Ext w3 bY:=(bo qX).ab mB (ax _);have Vx:=jE qX mB;have abJ:Row bY w3 (wvL ag 5 (gy 0) sa0 sb0 sc0 ⟨none,0,0⟩) Ck:=by rw [mB];exact Row.set (by rw [qX];exact Row.new w3 [_,_,_,_,_,_,_,_,_] _) _
 refine pd rfl ((py (VT.ext (x3.tr bW))).mono ?_);rintro e cY ⟨rfl,hw⟩;subst hw;refine ⟨_,rfl,rfl,rfl,pd rfl λft uR=> ?_⟩;have cK:=bo uR;have z19:=dt uR;have abK:Row ft cY Lz Yf:=Row.nw uR;have nz:=x3.tr (bW.tr cK);have abL:RT (Nf (λi=>i≠w3.heap.size/\i≠w.heap.size) F0) ft (gy 0,l5 ag 0) sa0 sb0 sc0:=h3.same λi hp hi=>⟨(bW.tr cK).heap hi,hp.1,by omega,hp.2⟩
 refine ⟨λn x sd cp ro fl wt sa sb sc sdd wr=>∃(k:Nat)(F:Nat->Prop),x=k/\k+n=5/\sd=ag/\cp=5/\ro=(gy 0).room/\fl=(gy 0).c9/\wt=(gy 0).wait/\sdd=⟨none,0,0⟩/\WF F wr o t ag 5 (gy 0,l5 ag k) []/\RT (Nf (λi=>i≠w3.heap.size/\i≠w.heap.size) F) wr (gy 0,l5 ag k) sa sb sc/\Ext w wr/\(∀i,F i->w.heap.size<=i)/\Row wr w csa bG/\(∃cs,Row wr w3 cs Ck)/\Row wr cY Lz Yf,⟨5,rfl,rfl,0,F0,rfl,rfl,rfl,rfl,rfl,rfl,rfl,rfl,VT.ext nz,abL,x0.tr (x1.tr nz),λi hi=>by have:=fF0 i hi;omega,ra0.ext (x1.tr nz),⟨_,abJ.ext cK⟩,abK⟩,?_⟩;rintro n us x sd cp ro fl wt sa sb sc sdd wr ⟨k,F,rfl,Fq,rfl,rfl,rfl,rfl,rfl,rfl,hT,hR,xw,fF,Mv,⟨csr,NM⟩,UJ⟩;have l1:=Mv.lt;have l2:=NM.lt;have l3:=UJ.lt;have i33:oZ bG/\oZ Ck/\oZ Yf:=by decide
 apply Br.mk<;>intro hb
 ·replace hb:=fe hb;have hk:k<5:=by omega
  obtain ⟨p,hp⟩:=aZ (l:=fG) (i:=k) (by have:fG.length=5:=rfl;omega);have mA:=Yg sd hp;have hl5:=Ly sd (k:=k) (by omega);have wk:=kK (j:=k);refine ⟨⟨rfl,by omega,hb⟩,p.1,p.2,ui UJ hp,(pS hT (Nat.zero_le _) p).mono ?_⟩;rintro e hX ⟨rfl,hr⟩;rw [mA] at hr;obtain ⟨F',h',ht⟩:=hr;have kp:∀{j:Nat} {cs:List Value} {τ:TypeId},Row wr j cs τ->oZ τ->τ≠mE->τ≠eH->hX.heap[j]? =wr.heap[j]? :=λhr q1 q2 q3=>ht.mod.same _ hr.lt (hT.cF hr q1 q2 q3)
  have ka:=kp Mv i33.1 (by decide) (by decide);have kr:=kp NM i33.2.1 (by decide) (by decide);have kp5:=kp UJ i33.2.2 (by decide) (by decide);have UK:=Mv.same ka;have UL:=NM.same kr;have Mw:=UJ.same kp5;have z37:=ht.mod.size;have UM:RT (Nf (λi=>i≠w3.heap.size/\i≠w.heap.size) F') hX (gy 0,l5 sd k) sa sb sc:=hR.same λi hp hi=>⟨ht.mod.same i hi hp.1,λq=>(ht.sub i q).elim hp.1 (by omega),hp.2⟩
  obtain ⟨UN,UO⟩:=ht.fresh xw fF;have xd:=Ext.dr hX;have zd:=kQ hX;have ho:qH (gy 0,l5 sd k):=hT.Z7 (m:=0) (n:=0) ⟨Nat.zero_le _,(λe he=>by
   obtain ⟨x,hx,rfl⟩:=aS.1 he;exact ⟨Int.le_refl _,Int.le_refl _⟩),(by
   have h5:=An sd;unfold iS at h5 ⊢;have e5:(l5 sd 5).map (·.1)=(l5 sd k).map (·.1)++((fG.drop k).map λp:Po=>((p,made sd p,false,(0:Int)):En)).map (·.1):=by rw [<-aT,l5,l5,<-aT,List.take_append_drop];rfl
   rw [e5] at h5;exact (List.nodup_append.1 h5).1)⟩ (by omega)
  have hin5:inI 5:=by unfold inI;omega
  refine ⟨_,rfl,ka,kr,kp5,⟨rfl,by omega,hb⟩,p.1,p.2,ui (Mw.ext xd) hp,?_,λwh Ui=> ?_⟩
  ·refine (kc (ag:=sd) (cap:=5) (UM.ext xd) ((h'.fw (N:=λi=>i≠w3.heap.size/\i≠w.heap.size) (λi hi=>⟨by omega,by omega⟩)).ext xd) ho (Nat.zero_le _) hin5 p (by simp only;omega) (AA sd hp)).mono ?_;rintro e kE ⟨ta,tb,tc,rfl,h41,jC⟩;rw [mA] at h41 ⊢;have z41:=jC.size;refine ⟨_,_,_,_,_,ta,tb,tc,_,rfl,jC.k,jC.k,jC.k,λw51 e51 Gh e52 Xs Bs=> ?_⟩;have uS:Ext kE Gh:=(bo e51).ab e52 (ax _);have xx:=xd.tr (jC.tr uS);have UP:=UL.ext xx;have h52:=h'.ext xx;have UQ:¬F' w3:=h52.cF UP i33.2.1 (by decide) (by decide);have n1:w.heap.size≠w3:=by omega
   have n3:cY.heap.size≠w3:=by omega
   exact ⟨n-1,by omega,rfl,rfl,k+1,F',wk,by omega,rfl,rfl,rfl,rfl,rfl,rfl,h52.same λi hi=>by rw [Bs,setRow_other _ _ _ _ (λq=>UQ (by rw [<-q];exact hi))],(h41.ext uS).same λi hp _=>⟨by rw [Bs,setRow_other _ _ _ _ hp.2.1],hp⟩,(UN.tr xx).ab Bs (by omega),UO,(UK.ext xx).same (by rw [Bs,setRow_other _ _ _ _ n1]),⟨_,by rw [Bs];exact Row.set UP _⟩,(Mw.ext xx).same (by rw [Bs,setRow_other _ _ _ _ n3])⟩
  ·have uW:Ext hX wh:=xd.ay Ui;have z54:=dt Ui;refine (kc (ag:=sd) (cap:=5) (P:=Nf (λi=>i≠w3.heap.size/\i≠w.heap.size/\i≠hX.drew.heap.size) F') (UM.same λi hp hi=>⟨uW.heap hi,hp.1,hp.2.1,hp.2.2,by omega⟩) (λi hi=>⟨λq=>by have:=h'.lt q;omega,by omega,by omega,by omega⟩) ho (Nat.zero_le _) hin5 p (by simp only;omega) (AA sd hp)).mono ?_;rintro e za ⟨ta,tb,tc,rfl,h55,yK⟩;rw [mA] at h55 ⊢;have z55:=yK.size;refine ⟨_,_,_,_,_,ta,tb,tc,_,rfl,yK.k,yK.k,yK.k,yK.k,λFE XM sI Fu=> ?_⟩;have xx:=uW.tr yK;have rG:Ext hX FE:=xx.ab XM (by omega);have h65:RT (Nf (λi=>i≠w3.heap.size/\i≠w.heap.size) F') FE (gy 0,l5 sd (k+1)) ta tb tc:=h55.same λi hp _=>⟨by rw [XM,setRow_other _ _ _ _ hp.2.2.2],hp.1,hp.2.1,hp.2.2.1⟩
   have UR:=UL.ext rG;have US:=h'.ext rG;have UQ:¬F' w3:=US.cF UR i33.2.1 (by decide) (by decide);have n1:w.heap.size≠w3:=by omega
   have n3:cY.heap.size≠w3:=by omega
   exact ⟨n-1,by omega,rfl,rfl,k+1,F',wk,by omega,rfl,rfl,rfl,rfl,rfl,rfl,US.same λi hi=>by rw [Fu,setRow_other _ _ _ _ (λq=>UQ (by rw [<-q];exact hi))],h65.same λi hp _=>⟨by rw [Fu,setRow_other _ _ _ _ hp.2.1],hp⟩,(UN.tr rG).ab Fu (by omega),UO,(UK.ext rG).same (by rw [Fu,setRow_other _ _ _ _ n1]),⟨_,by rw [Fu];exact Row.set UR _⟩,(Mw.ext rG).same (by rw [Fu,setRow_other _ _ _ _ n3])⟩
 replace hb:=eX hb;have hk5:k=5:=by omega
 subst hk5;refine (wZ hT aO).mono ?_;rintro e sJ ⟨s,Fs,rfl,hS,qO,fFs⟩;have z67:=qO.size;refine ⟨_,rfl,qO.k,qO.k,qO.k,(rp sd 5 (gy 0) sa sb sc ⟨none,0,0⟩ aO sJ).mono ?_⟩;rintro e jz ⟨rfl,mO⟩;have z69:=mO.size;refine ⟨_,_,_,_,_,sa,sb,sc,⟨none,0,0⟩,_,_,⟨none,0,0⟩,_,_,⟨none,0,0⟩,⟨none,0,0⟩,rfl,mO.k,mO.k,mO.k,λy3 zc lV rJ=> ?_⟩;have wC:Ext jz lV:=(bo zc).ab rJ (ax _);have z87:=jE zc rJ;have abN:∃cs,Row lV jz cs bG:=⟨_,by rw [rJ];exact Row.set (by rw [zc];exact Row.new jz [_,_,_,_,_,_,_,_,_,_,_,_,_,_,_,_] _) _⟩;obtain ⟨csx,abN⟩:=abN;have xx:=qO.tr (mO.tr wC);refine ⟨λa b c d e f g h i j k l m n o' p w'=>a=sd/\b=5/\c=(gy 0).room/\d=(gy 0).c9/\e=(gy 0).wait/\f=⟨sa.a,sa.n,sa.c⟩/\g=⟨sb.a,sb.n,sb.c⟩/\h=⟨sc.a,sc.n,sc.c⟩/\i=⟨none,0,0⟩/\j=4096/\k=0/\l=⟨none,0,0⟩/\m=min (max aO 1) 64/\n=0/\o'=⟨none,0,0⟩/\p=⟨none,0,0⟩/\w'=lV,⟨λq x a b c d e f g h i j k l m n o' p w'=>x=0/\a=sd/\b=5/\c=(gy 0).room/\d=(gy 0).c9/\e=(gy 0).wait/\f=⟨sa.a,sa.n,sa.c⟩/\g=⟨sb.a,sb.n,sb.c⟩/\h=⟨sc.a,sc.n,sc.c⟩/\i=⟨none,0,0⟩/\j=4096/\k=0/\l=⟨none,0,0⟩/\m=min (max aO 1) 64/\n=0/\o'=⟨none,0,0⟩/\p=⟨none,0,0⟩/\w'=lV,⟨0,rfl,rfl,rfl,rfl,rfl,rfl,rfl,rfl,rfl,rfl,rfl,rfl,rfl,rfl,rfl,rfl,rfl,rfl,rfl,rfl,rfl⟩,?_⟩,?_⟩
 ·rintro q us x a b c d e f g h i j k l m n o' p w' ⟨rfl,rfl,rfl,rfl,rfl,rfl,rfl,rfl,rfl,rfl,rfl,rfl,rfl,rfl,rfl,rfl,rfl,rfl⟩;refine Br.mk (λq=>by rw [j1] at q;simp at q) (λ_=>⟨rfl,rfl,rfl,rfl,rfl,rfl,rfl,rfl,rfl,rfl,rfl,rfl,rfl,rfl,rfl,rfl,rfl,rfl,rfl,rfl⟩)
 rintro us a b c d e f g h i j k l m n' o' p w' ⟨rfl,rfl,rfl,rfl,rfl,rfl,rfl,rfl,rfl,rfl,rfl,rfl,rfl,rfl,rfl,rfl,rfl⟩;refine yes rfl λFP Mx BC My=> ?_
 have uZ:Ext w' BC:=(bo Mx).ab My (ax _);have ajW:BC.heap.size=w'.heap.size+1:=by rw [My,Mx];simp
 have u4:∃τ,Row BC w'.heap.size [.slice none 0 0] τ/\oZ τ/\τ≠mE/\τ≠eH/\τ≠pc/\τ≠Q.ig/\τ≠Q.bT/\τ≠gz:=⟨37,by rw [My];exact Row.set (by rw [Mx];exact Row.new w' [_] _) _,by decide⟩;obtain ⟨τb,u4,ob⟩:=u4;have kC:=xx.tr uZ;have JH:=hS.ext (mO.tr (wC.tr uZ));refine (ub JH (.func 42) #[] #[.pointer (some ⟨w'.heap.size,0,none⟩)]).mono ?_;rintro e u5 ⟨rfl,⟨F2,te,ph⟩,mN⟩;obtain ⟨gS,sdS,hrS,-,hsF,-,-⟩:=JH.row;have hra141:=(Mv.ext kC);have hrr141:=(NM.ext kC);have hrp141:=(UJ.ext kC);have hrx141:=abN.ext uZ;have j1:wr.heap.size<=s\/F s:=(fFs s hsF).symm;have Qk:=hS.lt hsF;have od:bG≠pc/\Ck≠pc/\Yf≠pc/\bG≠Q.ig/\bG≠Q.bT/\bG≠gz:=by decide
 have ajX:=mN.size;refine ⟨rfl,mN.same _ hra141.lt (hra141.ne hrS od.1),mN.same _ hrr141.lt (hrr141.ne hrS od.2.1),mN.same _ hrp141.lt (hrp141.ne hrS od.2.2.1),mN.same _ hrx141.lt (hrx141.ne hrS od.1),λBz qv=> ?_⟩;have u6:=Ext.dr u5;have ae2:=kQ u5;have hra142:=(mN.row hra141 (hra141.ne hrS od.1)).ext u6;have JI:=(mN.row u4 (u4.ne hrS ob.2.2.2.1)).ext u6;have BD:=te.ext u6;have UQ:¬F2 w:=BD.oe hra142 i33.1 (by decide) (by decide) od.1 od.2.2.2.1 od.2.2.2.2.1 od.2.2.2.2.2;have hnb:¬F2 w'.heap.size:=BD.oe JI ob.1 ob.2.1 ob.2.2.1 ob.2.2.2.1 ob.2.2.2.2.1 ob.2.2.2.2.2.1 ob.2.2.2.2.2.2;have UT:SF F2 Bz s o t (M5 a aO) (.func (.func 42) #[] #[.pointer (some ⟨w'.heap.size,0,none⟩)]):=BD.same λi hi=>by rw [qv,setRow_other _ _ _ _ (λq=>UQ (by rw [<-q];exact hi))]
 have nbw:w'.heap.size≠w:=by have:=xx.size;omega
 have JK:Row Bz w'.heap.size [.slice none 0 0] τb:=JI.same (by rw [qv,setRow_other _ _ _ _ nbw]);have ajY:=mC qv;have hF2:∀i,F2 i->w.heap.size<=i:=λi hi=>by
  rcases ph.sub i hi with q|q
  ·rcases fFs i q with q|q
   ·exact fF i q
   ·omega
  ·have:=kC.size;omega
 have hFr:∀i,¬F i->i<wr.heap.size->¬F2 i:=λi hn hi q=>by
  have hx:=kC.size;rcases ph.sub i q with q|q
  ·exact (fFs i q).elim hn (by omega)
  ·omega
 refine ⟨s,o,t,F2,_,sa,sb,sc,rfl,UT,⟨λi=>i=w'.heap.size,λi hi=>⟨by rw [hi];exact JK.lt,by rw [hi];exact λq=>q.elim hnb (by have:=xx.size;have:=xw.size;omega)⟩,λw2 hk c hc=> ?_⟩,hR.same λi hp hi=>⟨?_,hFr i hp.1 hi⟩,?_,hF2⟩
 ·exact iA (by kernel_rfl) rfl (HV c (JK.same (hk _ rfl)))
 ·rw [qv,setRow_other _ _ _ _ hp.2.2];have hx:=kC.size;have hix:i≠s:=λq=>by
   rcases fFs s hsF with q2|q2
   ·exact hp.1 (q▸q2)
   ·omega
  exact (mN.same i (by omega) hix).trans (kC.heap hi)
 ·have abO:w.heap.size<=s:=by
   rcases fFs s hsF with q2|q2
   ·exact fF s q2
   ·omega
  exact ((mN.ext (xw.tr kC) λi hi=>hi▸abO).tr u6).ab qv (ax _)
end Go.Proofs.YtalpkjfpmdpbiaaGreatDoor
namespace Go.Proofs.YtalpkjfpmdpbiaaGreatDoor
open Go Go.Vc Go.RowKit Go.Proofs Go.dS Go.bh Go.Code Go.km Go.iQ
set_option maxRecDepth 100000
def MZ{c n:Ce}(h:n ∈ iI c):n≠c:=by unfold iI bz iw at h;simp only [bJ,fY,or_false] at h;intro q;subst q;rcases h with h|h|h|h|h|h<;>(have h1:=congrArg (·.1) h;have h2:=congrArg (·.2.1) h;have h3:=congrArg (·.2.2) h;simp only at h1 h2 h3;omega)
def na(V:Ce->Int)(c:Ce)(b:Int):nS V c b c=b:=if_pos rfl
def j8{V:Ce->Int}{c c':Ce}{b:Int}(h:c'≠c):nS V c b c'=V c':=if_neg h
def ahs:ba 0=true:=by decide+kernel
def aht:ba 3=true:=by decide+kernel
section
variable {M:Sm} {V:Ce->Int} {c:Ce} {O:Ce->Bool}
def M1{c:Ce}(hp:pos c=(0,0)):pos c ∈ fG:=by rw [hp];decide
def vw(hs:Hs M.T.2 V)(hp:pos c=(0,0))(hy:k8 c)(hn:∀n ∈ iI c,bQ (V n)=0):
  ∃l' ch',(cr M.T.2 c 3).2=0/\gw M c 3={M with T:=(M.T.1,l'),ch:=ch',q:=(fc M.q c (M.now+2)).1}/\Hs l' (nS V c 3)/\ch'.length<=M.ch.length+1:=by
 obtain ⟨e1,h1⟩:=hs.set (M1 hp) hy aht;have hf:eB (cr M.T.2 c 3).1=nS V c 3:=funext h1.v;have hw:iR (nS V c 3) c=[c]:=KH (by rw [na,zV];decide) λn hm=>by rw [j8 (MZ hm)];exact hn n hm
 refine ⟨_,_,e1,?_,h1,zW M.T.2 M.ch c 3⟩;unfold gw;rw [if_pos e1,hf];unfold oJ;rw [hw];show _=({M with T:=_,ch:=_,q:=_}:Sm);simp only [jL,List.foldl_nil,na,zV]
def RV(hs:Hs M.T.2 V)(hp:pos c=(0,0))(hy:k8 c)(hn:∀n ∈ iI c,bQ (V n)=0):
  ∃l',(cr M.T.2 c 0).2=0/\gw M c 0={M with T:=(M.T.1,l'),ch:=xE M.T.2 M.ch c 0}/\Hs l' (nS V c 0):=by
 obtain ⟨e1,h1⟩:=hs.set (M1 hp) hy ahs;have hf:eB (cr M.T.2 c 0).1=nS V c 0:=funext h1.v;have hw:iR (nS V c 0) c=[]:=G9 (by rw [na];exact nc) λn hm=>by rw [j8 (MZ hm)];exact hn n hm
 refine ⟨_,e1,?_,h1⟩;unfold gw;rw [if_pos e1,hf];unfold oJ;rw [hw];rfl
def ZY(c:Ce):bz c≠c:=MZ (by simp [iI])
def RX(hs:Hs M.T.2 V)(hp:pos c=(0,0))(hy:k8 c)(hy2:k8 (bz c))(hV:V c=3)(hl:V (bz c)=0)(hn:∀n ∈ iI c,bQ (V n)=0)(Ga:∀n ∈ iI (bz c),n≠c->bQ (V n)=0)(hO:O (bz c)=false):
  ∃l' ch',g9 O M c={M with T:=(M.T.1,l'),ch:=ch',q:=(fc M.q (bz c) (M.now+2)).1}/\Hs l' (nS (nS V c 0) (bz c) 3)/\ch'.length<=M.ch.length+2:=by
 have hf:eB M.T.2=V:=funext hs.v;have hr:=ZZ hs hp;have hnx:jq (eB M.T.2) c=[(c,0),(bz c,3)]:=by rw [hf];exact RZ hV hl
 have hh:¬pI O M c=true:=by unfold pI;rw [hO,Bool.and_false,Bool.and_false];decide
 obtain ⟨l1,a1,a2,a3⟩:=RV hs hp hy hn;have YV:bB M (c,0)=gw M c 0:=by unfold bB;rw [if_neg (by simp only;rw [hf,hV];decide)]
 have e1:bB M (c,0)={M with T:=(M.T.1,l1),ch:=xE M.T.2 M.ch c 0}:=YV.trans a2;have aiy:∀n ∈ iI (bz c),bQ (nS V c 0 n)=0:=λn hm=>by
  by_cases q:n=c
  ·rw [q,na];exact nc
  ·rw [j8 q];exact Ga n hm q
 obtain ⟨l2,NJ,b1,b2,b3,b4⟩:=vw (M:={M with T:=(M.T.1,l1),ch:=xE M.T.2 M.ch c 0}) (c:=bz c) a3 hp hy2 aiy;have jH:bB {M with T:=(M.T.1,l1),ch:=xE M.T.2 M.ch c 0} (bz c,3)=gw {M with T:=(M.T.1,l1),ch:=xE M.T.2 M.ch c 0} (bz c) 3:=by unfold bB;rw [if_neg (by simp only;rw [a3.v,j8 (ZY c),hl];decide)]
 refine ⟨l2,NJ,?_,b3,by have:=zW M.T.2 M.ch c 0;simp only at b4;omega⟩;unfold g9;rw [if_neg (by rw [hr];decide),if_neg hh,hnx];show bB (bB M (c,0)) (bz c,3)=_;rw [e1,jH,b2]
end
end Go.Proofs.YtalpkjfpmdpbiaaGreatDoor
namespace Go.Proofs.YtalpkjfpmdpbiaaGreatDoor
open Go Go.Vc Go.RowKit Go.Proofs Go.dS Go.bh Go.Code Go.km Go.iQ
set_option maxRecDepth 100000
def nr(c:Ce):Ce:=(5+c.1 % 6,14+c.2.1 % 9,5+c.2.2 % 6)
def Fc(c:Ce):(5<=(nr c).1/\(nr c).1<=10)/\(14<=(nr c).2.1/\(nr c).2.1<=22)/\5<=(nr c).2.2/\(nr c).2.2<=10:=by unfold nr;simp only;omega
def qg(c:Ce)(w:World):ah 12 #[iG c] w λe w'=>e=(iG (nr c))/\Ext w w':=by
 apply Ef.vc;intro w0 e0 w1 e1;have x1:Ext w w1.drew:=((bo e0).ay e1).tr (Ext.dr w1);have z0:=dt e0;have z1:w1.drew.heap.size=w.heap.size+2:=by show w1.heap.size=_;rw [e1];simp [z0]
 have r1:Row w1.drew w (dn c) gz:=((by rw [e0];exact Row.new w [_,_,_] _:Row w0 w _ gz).ext (bo e1)).ext (Ext.dr w1);have hb:=Fc c;unfold nr at hb ⊢;simp only at hb;refine (iZ c.1 6 aC aC w1.drew).mono ?_;rintro e w2 ⟨rfl,h2⟩;have x2:Ext w1.drew w2:=by rw [h2];exact Ext.bX _
 have z2:=x2.size;refine ⟨_,rfl,x2.heap aa,x2.heap aa,(r1.ext x2).aY (o:=2) (λj hj=>by
  match j,hj with
  |0,_=>rfl),(r1.ext x2).aY (o:=1) (λj hj=>by
  match j,hj with
  |0,_=>rfl),(iZ c.2.1 9 aC aC w2).mono ?_⟩
 rintro e w4 ⟨rfl,h4⟩;have x4:Ext w2 w4:=by rw [h4];exact Ext.bX _
 have z4:=x4.size;have de:=x2.tr x4;refine ⟨_,rfl,x4.heap aa,x4.heap aa,(r1.ext de).aY (o:=2) (λj hj=>by
  match j,hj with
  |0,_=>rfl),(iZ c.2.2 6 aC aC w4).mono ?_⟩
 rintro e w6 ⟨rfl,h6⟩;have x6:Ext w4 w6:=by rw [h6];exact Ext.bX _
 have z6:=x6.size;have q1:ai (5+c.1 % 6)=5+c.1 % 6:=wI;have q2:ai (14+c.2.1 % 9)=14+c.2.1 % 9:=wI;have q3:ai (5+c.2.2 % 6)=5+c.2.2 % 6:=wI;refine ⟨_,rfl,x6.heap aa,x6.heap aa,λw8 e8=> ?_⟩;rw [q1,q2,q3];exact ⟨rfl,(x1.tr (de.tr x6)).ab e8 aa⟩
def V0(ag:Int):Ce->Int:=eB (l5 ag 5)
def Fe(c:Ce):Prop:=(1<=c.1/\c.1<=14)/\(15<=c.2.1/\c.2.1<=30)/\1<=c.2.2/\c.2.2<=14
def Fe.pos{c:Ce}(h:Fe c):pos c=(0,0):=by unfold Fe at h;unfold Go.dS.pos;exact Prod.ext (by show c.1 / 16=0;omega) (by show c.2.2 / 16=0;omega)
def Fe.y{c:Ce}(h:Fe c):k8 c:=by unfold Fe at h;unfold k8;omega
def Fe.sml{c:Ce}(h:Fe c):nZ c:=by unfold Fe at h;unfold nZ;omega
def Fe.air{c:Ce}(h:Fe c)(ag:Int):V0 ag c=0:=Su ag (by unfold Fe at h;omega) (M1 h.pos)
def Fe.zQ{c:Ce}(h:Fe c)(ag:Int):∀n ∈ iI c,V0 ag n=0:=λn hn=>by
 unfold Fe at h
 unfold iI bz iw at hn
 simp only [bJ,fY,or_false] at hn
 have key:∀n:Ce,(0<=n.1/\n.1<=15)->(14<=n.2.1/\n.2.1<32)->(0<=n.2.2/\n.2.2<=15)->V0 ag n=0:=λn h1 h2 h3=>Su ag h2 (M1 (Prod.ext (by show n.1 / 16=0;omega) (by show n.2.2 / 16=0;omega)))
 rcases hn with rfl|rfl|rfl|rfl|rfl|rfl<;>exact key _ (by simp only;omega) (by simp only;omega) (by simp only;omega)
def F7:(1:Int)<=1/\(1:Int)<=64:=by decide
def n00:(0:Int)<=0/\(0:Int)<=((0:Nat):Int):=by decide
def n0t:(0:Int)<=0/\(0:Int)<=1099511627776:=by decide
def n1t:(0:Int)<=1/\(1:Int)<=1099511627776:=by decide
def n2t:(0:Int)<=2/\(2:Int)<=1099511627776:=by decide
def aav(ag aO:Int):ng (M5 ag aO) 0:=⟨n00,ax _,n0t,ax _⟩
section
variable {F F':Nat->Prop} {w w':World} {s o t:Nat} {M M':Sm} {occ:Value} {O:Ce->Bool}
def IQ(h:SF F w s o t M occ):ah 24 #[o] w λe w'=>∃sc:Sl,e=sc/\aj 0 eH 4 w' sc (M.ch.map FY)/\jM F w s o t {M with ch:=[]} occ w':=by obtain ⟨Fw,hW,eI,aR⟩:=h.world;refine (Lv hW).mono ?_;rintro e w' ⟨sc,F',rfl,ho,hW',hs,hm⟩;exact ⟨sc,rfl,ho,aR ⟨F',hW',hm.mono λi _ q=>q▸hW.ahw,λi hi=> .inl (hs i hi)⟩⟩
end
def up5:Fe (5,20,5)/\Fe (7,20,5)/\Fe (5,19,5):=by unfold Fe;decide
set_option maxHeartbeats 1000000 in
def Ff(w:World):ah 13 #[] w λe w'=>e=true/\Ext w w':=by
 apply II.vc;refine (LA 1 1 ⟨none,0,0⟩ rfl w).mono ?_;rintro e w0 ⟨s,o,t,F,occ,s1,s2,s3,rfl,hS,hO,-,x0,fF⟩;have hO:=hO.mono (F':=F) λi hi=> .inl hi
 have z0:=x0.size;refine ⟨_,_,_,_,_,_,s1,s2,s3,⟨none,0,0⟩,_,_,⟨none,0,0⟩,_,_,⟨none,0,0⟩,⟨none,0,0⟩,rfl,λdA JT ft uR=>pd rfl ?_⟩;have cK:Ext w0 ft:=(bo JT).ab uR (ax _);have z19:=jE JT uR;have nf:∀{F1 F2:Nat->Prop} {a b:World},aG F F1 ft a->aG F1 F2 a b->b.heap[w0.heap.size]? =a.heap[w0.heap.size]? :=λta tb=>tb.mod.same _ (by have:=ta.mod.size;omega) λhf=>by
  rcases ta.sub _ hf with q|q
  ·have:=hS.lt q;omega
  ·omega
 have mC:Hs (M5 1 1).T.2 (V0 1):=adN 1;obtain ⟨u1,u2,u3⟩:=up5;have d1:∀n ∈ iI (5,20,5),bQ (V0 1 n)=0:=λn hn=>by rw [u1.zQ 1 n hn];exact nc
 obtain ⟨l1,ch1,a1,a2,a3,a4⟩:=vw mC u1.pos u1.y d1;refine (lJ (hS.ext cK) (5,20,5) u1.sml.wide 3 ((aav 1 1).mono aa)).mono ?_;rintro e dY ⟨rfl,F1,hS1,t1⟩;rw [a2] at hS1;have d2:∀n ∈ iI (7,20,5),bQ (nS (V0 1) (5,20,5) 3 n)=0:=λn hn=>by
  rw [j8 (by
   rintro rfl;revert hn;decide),u2.zQ 1 n hn]
  exact nc
 obtain ⟨l2,NJ,b1,b2,b3,b4⟩:=vw (M:={M5 1 1 with T:=(gy 0,l1),ch:=ch1,q:=(fc (M5 1 1).q (5,20,5) ((M5 1 1).now+2)).1}) a3 u2.pos u2.y d2;refine ⟨_,rfl,nf (aG.refl _ _) t1,?_⟩;have k1:ng {M5 1 1 with T:=(gy 0,l1),ch:=ch1,q:=(fc (M5 1 1).q (5,20,5) ((M5 1 1).now+2)).1} 10:=by have:=(aav 1 1).edit (5,20,5) 3;rw [a2] at this;exact this.mono aa
 refine (lJ hS1 (7,20,5) u2.sml.wide 3 (k1.mono aa)).mono ?_;rintro e ct ⟨rfl,F2,te,t2⟩;have k2:=k1.edit (7,20,5) 3;have T2:=t1.trans t2;refine ⟨_,rfl,nf t1 t2,?_⟩;have e2:gw {M5 1 1 with T:=(gy 0,l1),ch:=ch1,q:=(fc (M5 1 1).q (5,20,5) ((M5 1 1).now+2)).1} (7,20,5) 3=⟨1,5,(gy 0,l2),NJ,⟨4096,0,[(2,(5,20,5)),(2,(7,20,5))]⟩,1,0,[]⟩:=by rw [b2];rfl
 rw [e2] at te k2;have k2:=k2.mono (show 10+7<=100 by decide);have hO2:=(hO.ext cK).iT T2;have c12:((5,20,5):Ce)≠(7,20,5):=by decide
 have g1:mH ⟨1,5,(gy 0,l2),NJ,⟨4096,0,[(2,(5,20,5)),(2,(7,20,5))]⟩,1,0,[]⟩=[]:=rfl;have g2:fN (λ_=>false) ⟨1,5,(gy 0,l2),NJ,⟨4096,0,[(2,(5,20,5)),(2,(7,20,5))]⟩,1,0,[]⟩=⟨1,5,(gy 0,l2),NJ,⟨4096,0,[(2,(5,20,5)),(2,(7,20,5))]⟩,1,1,[]⟩:=by unfold fN;rw [g1];rfl
 refine (nm te hO2 (by rw [g1];intro y hy;cases hy) (k2.mono aa) F7).mono ?_;rw [g2];rintro e fy ⟨rfl,F3,hS3,t3⟩;have T3:=T2.trans t3;have hO3:=hO2.iT t3;refine ⟨_,rfl,nf T2 t3,?_⟩;have g3:mH ⟨1,5,(gy 0,l2),NJ,⟨4096,0,[(2,(5,20,5)),(2,(7,20,5))]⟩,1,1,[]⟩=[(5,20,5)]:=rfl;have g4:jv ⟨1,5,(gy 0,l2),NJ,⟨4096,0,[(2,(5,20,5)),(2,(7,20,5))]⟩,1,1,[]⟩=⟨1,5,(gy 0,l2),NJ,⟨4096,0,[(2,(7,20,5))]⟩,1,2,[]⟩:=rfl;have v1:nS (nS (V0 1) (5,20,5) 3) (7,20,5) 3 (5,20,5)=3:=by rw [j8 c12,na]
 have vl:nS (nS (V0 1) (5,20,5) 3) (7,20,5) 3 (5,19,5)=0:=by rw [j8 aC,j8 aC];exact u3.air 1
 have far:∀{n:Ce},n≠(5,20,5)->n≠(7,20,5)->V0 1 n=0->bQ (nS (nS (V0 1) (5,20,5) 3) (7,20,5) 3 n)=0:=λh1 h2 h3=>by rw [j8 h2,j8 h1,h3];exact nc
 have k3:ng ⟨1,5,(gy 0,l2),NJ,⟨4096,0,[(2,(5,20,5)),(2,(7,20,5))]⟩,1,1,[]⟩ 100:=⟨k2.l,k2.c,n1t,k2.d⟩;have k3s:ng ⟨1,5,(gy 0,l2),NJ,⟨4096,0,[(2,(7,20,5))]⟩,1,2,[]⟩ 100:=⟨k2.l,k2.c,n2t,k2.d⟩;obtain ⟨l4,ch4,f1,f2,f3⟩:=RX (M:=⟨1,5,(gy 0,l2),NJ,⟨4096,0,[(2,(7,20,5))]⟩,1,2,[]⟩) (O:=λ_=>false) (c:=(5,20,5)) b3 u1.pos u1.y u3.y v1 vl (λn hn=>far (MZ hn) (by
  rintro rfl;revert hn;decide) (u1.zQ 1 n hn)) (λn hn dN=>far dN (by
  rintro rfl;revert hn;decide) (u3.zQ 1 n hn)) rfl
 have f1:g9 (λ_=>false) ⟨1,5,(gy 0,l2),NJ,⟨4096,0,[(2,(7,20,5))]⟩,1,2,[]⟩ (5,20,5)=⟨1,5,(gy 0,l4),ch4,⟨4096,0,[(2,(7,20,5)),(4,(5,19,5))]⟩,1,2,[]⟩:=f1;have g5:fN (λ_=>false) ⟨1,5,(gy 0,l2),NJ,⟨4096,0,[(2,(5,20,5)),(2,(7,20,5))]⟩,1,1,[]⟩=⟨1,5,(gy 0,l4),ch4,⟨4096,0,[(2,(7,20,5)),(4,(5,19,5))]⟩,1,2,[]⟩:=by unfold fN;rw [g3,g4];exact f1
 refine (nm hS3 hO3 (by
  rw [g3];intro y hy;rw [fB.1 hy];exact u1.sml) (k3.mono aa) F7).mono ?_
 rw [g5,g3];rintro e hZ ⟨rfl,F4,hS4,t4⟩;have T4:=T3.trans t4;have hO4:=hO3.iT t4;have k4:=k3s.upd (λ_=>false) (5,20,5);rw [f1] at k4;refine ⟨_,rfl,nf T3 t4,yes rfl ?_⟩;have g6:mH ⟨1,5,(gy 0,l4),ch4,⟨4096,0,[(2,(7,20,5)),(4,(5,19,5))]⟩,1,2,[]⟩=[(7,20,5)]:=rfl;refine (nm hS4 hO4 (by
  rw [g6];intro y hy;rw [fB.1 hy];exact u2.sml) (k4.mono aa) F7).mono ?_
 rw [g6];rintro e eN ⟨rfl,F5,hS5,t5⟩;have T5:=T4.trans t5;refine ⟨_,rfl,nf T4 t5,rfl,?_⟩;exact (T5.fresh (x0.tr cK) fF).1
end Go.Proofs.YtalpkjfpmdpbiaaGreatDoor
