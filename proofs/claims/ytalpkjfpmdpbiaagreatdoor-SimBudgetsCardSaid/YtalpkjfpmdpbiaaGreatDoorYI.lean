import Derived.Test.YtalpkjfpmdpbiaaGreatDoorYD
import Derived.Test.YtalpkjfpmdpbiaaGreatDoorWB
import Derived.Test.YtalpkjfpmdpbiaaGreatDoorRF
import Derived.Test.YtalpkjfpmdpbiaaGreatDoorGC
set_option linter.all false
namespace Go.Proofs.YtalpkjfpmdpbiaaGreatDoor
open Go Go.Vc Go.RowKit Go.Proofs Go.dQ Go.bf Go.Code Go.ks Go.jd
set_option maxRecDepth 100000
abbrev OA:TypeId:=33
abbrev tP5:TypeId:=89
abbrev bU:TypeId:=39
def Zn(ag limit room:Int){l:List En}(hl:(l.length:Int)<limit){p:Po}(hp:oA p)(hn:∀e ∈ l,e.1≠p):oD ag limit (jN room) l p=((jN room,l++ [(p,made ag p,false,0)]),0):=by
 have hr:cE limit (jN room) l=((jN room,l),0):=by unfold cE;rw [if_pos hl]
 have hd:(qh (jN room) (jQ p)).1=[]:=by unfold jN;rw [VI]
 have hf:bC (λe:En=>e.1==p) l= -1:=iW λy hy=>by simpa using hn y hy
 unfold oD;rw [if_neg (by simpa using hp),if_neg (by rw [hf];decide),hr,if_neg cy];simp only [hd,KM]
def R8(ag:Int){k:Nat}(hk:k<=5):(l5 ag k).length=k:=by unfold l5;rw [aB,bG];have:gl.length=5:=rfl;omega
def VP(ag:Int){k:Nat}{p:Po}(hp:gl[k]? =some p):l5 ag (k+1)=l5 ag k++ [(p,made ag p,false,0)]:=by unfold l5;rw [cu,hp,aT];rfl
def Mq{k:Nat}{p:Po}(hp:gl[k]? =some p):oA p/\p ∉ gl.take k:=by
 have hk:k<5:=(bF.1 hp).1;have:k=0\/k=1\/k=2\/k=3\/k=4:=by omega
 rcases this with rfl|rfl|rfl|rfl|rfl<;>(cases hp;decide)
def KN(ag:Int){k:Nat}{p:Po}(hp:gl[k]? =some p):∀e ∈ l5 ag k,e.1≠p:=λe he q=>by
 obtain ⟨x,hx,rfl⟩:=aR.1 he
 exact (Mq hp).2 (q▸hx)
def ac3(ag:Int){k:Nat}{p:Po}(hp:gl[k]? =some p):oD ag 5 (jN 0) (l5 ag k) p=((jN 0,l5 ag (k+1)),0):=by have hk:k<5:=(bF.1 hp).1;rw [Zn ag 5 0 (by rw [R8 ag aa];omega) (Mq hp).1 (KN ag hp),VP ag hp]
def BR(w:World):ah 84 #[(4096:Int)] w λe w'=>e=Value.agg #[(4096:Int),af,.slice none 0 0]/\Ext w w':=by apply OB.vc;intro w0 e0 w1 e1;exact ⟨rfl,(bq e0).ab e1 (ax _)⟩
abbrev xvL(ag cap:Int)(d:Dk)(s1 s2 s3 s4:Sl)(b:Int):List Value:=[.int .i64 ag,.int .i64 cap,.int .i64 d.room,.int .i64 d.dt,.int .i64 d.wait,.slice s1.a s1.n s1.c,.slice s2.a s2.n s2.c,.slice s3.a s3.n s3.c,.slice s4.a s4.n s4.c,.int .i64 4096,.int .i64 0,.slice none 0 0,.int .i64 (min (max b 1) 64),.int .i64 0,.slice none 0 0,.slice none 0 0]
def BS(ag cap:Int)(d:Dk)(s1 s2 s3 s4:Sl)(b:Int)(w:World):ah 41 #[wvR ag cap d s1 s2 s3 s4,b] w λe w'=>e=Value.agg (xvL ag cap d s1 s2 s3 s4 b).toArray/\Ext w w':=by
 apply (No.vc (aK:=s1) (aL:=s2) (aH:=s3) (bM:=s4));intro w0 e0 w1 e1;have x1:Ext w w1.drew:=((bq e0).ay e1).tr (Ext.dr w1);have z0:=du e0;have z1:w1.drew.heap.size=w.heap.size+2:=by show w1.heap.size=_;rw [e1];simp [z0]
 have r1:Row w1.drew w (wvL ag cap d s1 s2 s3 s4) OA:=((by rw [e0];exact Row.new w [_,_,_,_,_,_,_,_,_] _:Row w0 w _ OA).ext (bq e1)).ext (Ext.dr w1);refine (BR w1.drew).mono ?_;rintro e w2 ⟨rfl,x2⟩;have eb:(if 64<(if 1>b then 1 else b) then 64 else (if 1>b then 1 else b))=min (max b 1) 64:=by split<;>split<;>omega
 refine ⟨_,_,⟨none,0,0⟩,rfl,x2.k,x2.k,Lo.wv (r1.ext x2),λw6 e6=> ?_⟩;rw [eb];exact ⟨rfl,(x1.tr x2).ab e6 (by omega)⟩
def Ht(c:Ce){g:Nat}{w:World}{τ:TypeId}(hr:Row w g [.slice none 0 0] τ):ah 42 #[iS c,g] w λe w'=>e=false/\Ext w w':=by apply BC.vc;intro w0 e0;have x0:=bq e0;refine ⟨λn x w'=>n=0/\x=0/\w'=w0,⟨0,rfl,rfl,rfl,rfl⟩,?_⟩;rintro n us x w5 ⟨rfl,rfl,rfl⟩;have h1:=(hr.ext x0).at 0 rfl;rw [bZ] at h1;exact ⟨⟨none,0,0⟩,h1,Br.mk (λq=>by simp at q) (λ_=>⟨rfl,x0⟩)⟩
abbrev M5(ag aO:Int):Sm:=⟨ag,5,(jN 0,l5 ag 5),[],⟨4096,0,[]⟩,min (max aO 1) 64,0,[]⟩
abbrev R9:LV:=[.int .i64 0,.int .i64 0,(-1:Int),.int .i64 0,.int .i64 1,.int .i64 0,.int .i64 0,(-1:Int),.int .i64 0,.int .i64 1]
def Hu{w:World}{g:Nat}{τ:TypeId}(hr:Row w g R9 τ){k:Nat}{p:Po}(hp:gl[k]? =some p):av w (ae (bu g) (((k:Nat):Int).toNat*2)) 0 [p.1,p.2]:=by
 have hk:k<5:=(bF.1 hp).1;have h2:R9[k*2]? =some (.int .i64 p.1)/\R9[k*2+1]? =some (.int .i64 p.2):=by
  have:k=0\/k=1\/k=2\/k=3\/k=4:=by omega
  rcases this with rfl|rfl|rfl|rfl|rfl<;>(cases hp;exact ⟨rfl,rfl⟩)
 refine gC λi u hu=> ?_
 rw [eF,cO]
 match i,hu with
 |0,hu=>exact hr.at _ (by rw [<-hu];exact h2.1)
 |1,hu=>exact hr.at _ (by rw [<-hu];exact h2.2)
def Ad(ag aO:Int)(sl:Sl)(kI:sl.n=0)(w:World):ah 9 #[ag,aO,sl] w λe w'=>
  ∃(s o t:Nat)(F:Nat->Prop)(occ:Value)(s1 s2 s3:Sl),e=Value.tuple #[.pointer (some ⟨s,0,none⟩),.agg (xvL ag 5 (jN 0) s1 s2 s3 ⟨none,0,0⟩ aO).toArray]/\SF F w' s o t (M5 ag aO) occ/\Oc occ (λ_=>false) (λi=>F i\/i<w.heap.size) w'/\RT (λi=>¬F i) w' (jN 0,l5 ag 5) s1 s2 s3/\Ext w w'/\∀i,F i->w.heap.size<=i:=by
 apply (Hv.vc (a2:=sl));intro w0 e0;have x0:=bq e0;have z0:=du e0;have ra0:∃cs,Row w0 w cs bU:=⟨_,by rw [e0];exact Row.new w [_,_,_,_,_,_,_,_,_,_,_,_,_,_,_,_] _⟩;obtain ⟨csa,ra0⟩:=ra0;refine (Nk ag 5 0 w0).mono ?_;rintro e w1 ⟨o,t,F0,rfl,hF0,x1,fF0⟩;have LF:(min (max (5:Int) 1) 16)=5:=by decide
 rw [LF] at hF0;have z1:=x1.size;refine ⟨_,rfl,x1.k,(Hw (P:=λi=>¬F0 i/\i≠w.heap.size) ag 5 0 w1).mono ?_⟩;rw [LF];rintro e w3 ⟨sa0,sb0,sc0,rfl,h3,x3⟩;have z3:=x3.size;refine ⟨_,_,_,_,_,sa0,sb0,sc0,⟨none,0,0⟩,rfl,x3.k,λcA ud cm nu=> ?_⟩;have cl:Ext w3 cm:=(bq ud).ab nu (ax _);have Wx:=kC ud nu;have ajg:Row cm w3 (wvL ag 5 (jN 0) sa0 sb0 sc0 ⟨none,0,0⟩) OA:=by rw [nu];exact Row.set (by rw [ud];exact Row.new w3 [_,_,_,_,_,_,_,_,_] _) _
 refine Ej rfl ((vX (hF0.ext (x3.tr cl))).mono ?_);rintro e dy ⟨rfl,hw⟩;subst hw;refine ⟨_,rfl,rfl,rfl,Ej rfl λfD yh=> ?_⟩;have cN:=bq yh;have z19:=du yh;have ajh:Row fD dy R9 tP5:=Row.nw yh;have uv:=x3.tr (cl.tr cN);have aji:RT (Nf (λi=>i≠w3.heap.size/\i≠w.heap.size) F0) fD (jN 0,l5 ag 0) sa0 sb0 sc0:=h3.same λi hp hi=>⟨(cl.tr cN).heap hi,hp.1,by omega,hp.2⟩
 refine ⟨λn x sd cp ro fl wt sa sb sc sdd wr=>∃(k:Nat)(F:Nat->Prop),x=k/\k+n=5/\sd=ag/\cp=5/\ro=(jN 0).room/\fl=(jN 0).dt/\wt=(jN 0).wait/\sdd=⟨none,0,0⟩/\WF F wr o t ag 5 (jN 0,l5 ag k) []/\RT (Nf (λi=>i≠w3.heap.size/\i≠w.heap.size) F) wr (jN 0,l5 ag k) sa sb sc/\Ext w wr/\(∀i,F i->w.heap.size<=i)/\Row wr w csa bU/\(∃cs,Row wr w3 cs OA)/\Row wr dy R9 tP5,⟨5,rfl,rfl,0,F0,rfl,rfl,rfl,rfl,rfl,rfl,rfl,rfl,hF0.ext uv,aji,x0.tr (x1.tr uv),λi hi=>by have:=fF0 i hi;omega,ra0.ext (x1.tr uv),⟨_,ajg.ext cN⟩,ajh⟩,?_⟩;rintro n us x sd cp ro fl wt sa sb sc sdd wr ⟨k,F,rfl,Fq,rfl,rfl,rfl,rfl,rfl,rfl,hT,hR,xw,fF,Vh,⟨csr,WL⟩,hrp⟩;have l1:=Vh.lt;have l2:=WL.lt;have l3:=hrp.lt;have i33:uK bU/\uK OA/\uK tP5:=by decide
 apply Br.mk<;>intro hb
 ·replace hb:=fj hb;have hk:k<5:=by omega
  obtain ⟨p,hp⟩:=bh (l:=gl) (i:=k) (by have:gl.length=5:=rfl;omega);have mH:=ac3 sd hp;have hl5:=R8 sd (k:=k) (by omega);have wk:=lD (j:=k);refine ⟨⟨rfl,by omega,hb⟩,p.1,p.2,Hu hrp hp,(wE hT (Nat.zero_le _) p).mono ?_⟩;rintro e jj ⟨rfl,hr⟩;rw [mH] at hr;obtain ⟨F',h',ht⟩:=hr;have kp:∀{j:Nat} {cs:List Value} {τ:TypeId},Row wr j cs τ->uK τ->τ≠pj->τ≠eT->jj.heap[j]? =wr.heap[j]? :=λhr q1 q2 q3=>ht.mod.same _ hr.lt (hT.cX hr q1 q2 q3)
  have ka:=kp Vh i33.1 (by decide) (by decide);have kr:=kp WL i33.2.1 (by decide) (by decide);have kp5:=kp hrp i33.2.2 (by decide) (by decide);have aef:=Vh.same ka;have aeg:=WL.same kr;have aa2:=hrp.same kp5;have z37:=ht.mod.size;have aeh:RT (Nf (λi=>i≠w3.heap.size/\i≠w.heap.size) F') jj (jN 0,l5 sd k) sa sb sc:=hR.same λi hp hi=>⟨ht.mod.same i hi hp.1,λq=>(ht.sub i q).elim hp.1 (by omega),hp.2⟩
  obtain ⟨aei,aej⟩:=ht.fresh xw fF;have xd:=Ext.dr jj;have zd:=lW jj;have ho:qS (jN 0,l5 sd k):=hT.okt (m:=0) (n:=0) ⟨Nat.zero_le _,(λe he=>by
   obtain ⟨x,hx,rfl⟩:=aR.1 he;exact ⟨Int.le_refl _,Int.le_refl _⟩),(by
   have h5:=Ei sd;unfold je at h5 ⊢;have e5:(l5 sd 5).map (·.1)=(l5 sd k).map (·.1)++((gl.drop k).map λp:Po=>((p,made sd p,false,(0:Int)):En)).map (·.1):=by rw [<-aT,l5,l5,<-aT,List.take_append_drop];rfl
   rw [e5] at h5;exact (List.nodup_append.1 h5).1)⟩ (by omega)
  have hin5:inI 5:=by unfold inI;omega
  refine ⟨_,rfl,ka,kr,kp5,⟨rfl,by omega,hb⟩,p.1,p.2,Hu (aa2.ext xd) hp,?_,λye Yb=> ?_⟩
  ·refine (qU (ag:=sd) (cap:=5) (aeh.ext xd) ((h'.fw (N:=λi=>i≠w3.heap.size/\i≠w.heap.size) (λi hi=>⟨by omega,by omega⟩)).ext xd) ho (Nat.zero_le _) hin5 p (by simp only;omega) (KN sd hp)).mono ?_;rintro e j7 ⟨ta,tb,tc,rfl,h41,kK⟩;rw [mH] at h41 ⊢;have z41:=kK.size;refine ⟨_,_,_,_,_,ta,tb,tc,_,rfl,kK.k,kK.k,kK.k,λw51 e51 Jr e52 Ya Jn=> ?_⟩;have wS:Ext j7 Jr:=(bq e51).ab e52 (ax _);have xx:=xd.tr (kK.tr wS);have aek:=aeg.ext xx;have h52:=h'.ext xx;have hnw:¬F' w3:=h52.cX aek i33.2.1 (by decide) (by decide);have n1:w.heap.size≠w3:=by omega
   have n3:dy.heap.size≠w3:=by omega
   exact ⟨n-1,by omega,rfl,rfl,k+1,F',wk,by omega,rfl,rfl,rfl,rfl,rfl,rfl,h52.same λi hi=>by rw [Jn,setRow_other _ _ _ _ (λq=>hnw (by rw [<-q];exact hi))],(h41.ext wS).same λi hp _=>⟨by rw [Jn,setRow_other _ _ _ _ hp.2.1],hp⟩,(aei.tr xx).ab Jn (by omega),aej,(aef.ext xx).same (by rw [Jn,setRow_other _ _ _ _ n1]),⟨_,by rw [Jn];exact Row.set aek _⟩,(aa2.ext xx).same (by rw [Jn,setRow_other _ _ _ _ n3])⟩
  ·have wW:Ext jj ye:=xd.ay Yb;have z54:=du Yb;refine (qU (ag:=sd) (cap:=5) (P:=Nf (λi=>i≠w3.heap.size/\i≠w.heap.size/\i≠jj.drew.heap.size) F') (aeh.same λi hp hi=>⟨wW.heap hi,hp.1,hp.2.1,hp.2.2,by omega⟩) (λi hi=>⟨λq=>by have:=h'.lt q;omega,by omega,by omega,by omega⟩) ho (Nat.zero_le _) hin5 p (by simp only;omega) (KN sd hp)).mono ?_;rintro e A5 ⟨ta,tb,tc,rfl,h55,FE⟩;rw [mH] at h55 ⊢;have z55:=FE.size;refine ⟨_,_,_,_,_,ta,tb,tc,_,rfl,FE.k,FE.k,FE.k,FE.k,λJp e65 sy Qh=> ?_⟩;have xx:=wW.tr FE;have wX:Ext jj Jp:=xx.ab e65 (by omega);have h65:RT (Nf (λi=>i≠w3.heap.size/\i≠w.heap.size) F') Jp (jN 0,l5 sd (k+1)) ta tb tc:=h55.same λi hp _=>⟨by rw [e65,setRow_other _ _ _ _ hp.2.2.2],hp.1,hp.2.1,hp.2.2.1⟩
   have aen:=aeg.ext wX;have aeo:=h'.ext wX;have hnw:¬F' w3:=aeo.cX aen i33.2.1 (by decide) (by decide);have n1:w.heap.size≠w3:=by omega
   have n3:dy.heap.size≠w3:=by omega
   exact ⟨n-1,by omega,rfl,rfl,k+1,F',wk,by omega,rfl,rfl,rfl,rfl,rfl,rfl,aeo.same λi hi=>by rw [Qh,setRow_other _ _ _ _ (λq=>hnw (by rw [<-q];exact hi))],h65.same λi hp _=>⟨by rw [Qh,setRow_other _ _ _ _ hp.2.1],hp⟩,(aei.tr wX).ab Qh (by omega),aej,(aef.ext wX).same (by rw [Qh,setRow_other _ _ _ _ n1]),⟨_,by rw [Qh];exact Row.set aen _⟩,(aa2.ext wX).same (by rw [Qh,setRow_other _ _ _ _ n3])⟩
 replace hb:=fh hb;have hk5:k=5:=by omega
 subst hk5;refine (Hb hT aO).mono ?_;rintro e um ⟨s,Fs,rfl,hS,wN,fFs⟩;have z67:=wN.size;refine ⟨_,rfl,wN.k,wN.k,wN.k,(BS sd 5 (jN 0) sa sb sc ⟨none,0,0⟩ aO um).mono ?_⟩;rintro e lA ⟨rfl,qG⟩;have z69:=qG.size;refine ⟨_,_,_,_,_,sa,sb,sc,⟨none,0,0⟩,_,_,⟨none,0,0⟩,_,_,⟨none,0,0⟩,⟨none,0,0⟩,rfl,qG.k,qG.k,qG.k,λAZ Du pZ uG=> ?_⟩;have yL:Ext lA pZ:=(bq Du).ab uG (ax _);have z87:=kC Du uG;have aa3:∃cs,Row pZ lA cs bU:=⟨_,by rw [uG];exact Row.set (by rw [Du];exact Row.new lA [_,_,_,_,_,_,_,_,_,_,_,_,_,_,_,_] _) _⟩;obtain ⟨csx,aa3⟩:=aa3;have xx:=wN.tr (qG.tr yL);refine ⟨λa b c d e f g h i j k l m n o' p w'=>a=sd/\b=5/\c=(jN 0).room/\d=(jN 0).dt/\e=(jN 0).wait/\f=⟨sa.a,sa.n,sa.c⟩/\g=⟨sb.a,sb.n,sb.c⟩/\h=⟨sc.a,sc.n,sc.c⟩/\i=⟨none,0,0⟩/\j=4096/\k=0/\l=⟨none,0,0⟩/\m=min (max aO 1) 64/\n=0/\o'=⟨none,0,0⟩/\p=⟨none,0,0⟩/\w'=pZ,⟨λq x a b c d e f g h i j k l m n o' p w'=>x=0/\a=sd/\b=5/\c=(jN 0).room/\d=(jN 0).dt/\e=(jN 0).wait/\f=⟨sa.a,sa.n,sa.c⟩/\g=⟨sb.a,sb.n,sb.c⟩/\h=⟨sc.a,sc.n,sc.c⟩/\i=⟨none,0,0⟩/\j=4096/\k=0/\l=⟨none,0,0⟩/\m=min (max aO 1) 64/\n=0/\o'=⟨none,0,0⟩/\p=⟨none,0,0⟩/\w'=pZ,⟨0,rfl,rfl,rfl,rfl,rfl,rfl,rfl,rfl,rfl,rfl,rfl,rfl,rfl,rfl,rfl,rfl,rfl,rfl,rfl,rfl,rfl⟩,?_⟩,?_⟩
 ·rintro q us x a b c d e f g h i j k l m n o' p w' ⟨rfl,rfl,rfl,rfl,rfl,rfl,rfl,rfl,rfl,rfl,rfl,rfl,rfl,rfl,rfl,rfl,rfl,rfl⟩;refine Br.mk (λq=>by rw [kI] at q;simp at q) (λ_=>⟨rfl,rfl,rfl,rfl,rfl,rfl,rfl,rfl,rfl,rfl,rfl,rfl,rfl,rfl,rfl,rfl,rfl,rfl,rfl,rfl⟩)
 rintro us a b c d e f g h i j k l m n' o' p w' ⟨rfl,rfl,rfl,rfl,rfl,rfl,rfl,rfl,rfl,rfl,rfl,rfl,rfl,rfl,rfl,rfl,rfl⟩;refine yes rfl λaep aa4 Ba aa5=> ?_
 have A9:Ext w' Ba:=(bq aa4).ab aa5 (ax _);have apj:Ba.heap.size=w'.heap.size+1:=by rw [aa5,aa4];simp
 have M7:∃τ,Row Ba w'.heap.size [.slice none 0 0] τ/\uK τ/\τ≠pj/\τ≠eT/\τ≠tw/\τ≠Q.jw/\τ≠Q.bS/\τ≠iE:=⟨37,by rw [aa5];exact Row.set (by rw [aa4];exact Row.new w' [_] _) _,by decide⟩;obtain ⟨τb,M7,ob⟩:=M7;have wZ:=xx.tr A9;have Yh:=hS.ext (qG.tr (yL.tr A9));refine (Ee Yh (.func 42) #[] #[.pointer (some ⟨w'.heap.size,0,none⟩)]).mono ?_;rintro e Ui ⟨rfl,⟨F2,uw,qH⟩,rU⟩;obtain ⟨gS,sdS,hrS,-,hsF,-,-⟩:=Yh.row;have hra141:=(Vh.ext wZ);have hrr141:=(WL.ext wZ);have hrp141:=(hrp.ext wZ);have hrx141:=aa3.ext A9;have kI:wr.heap.size<=s\/F s:=(fFs s hsF).symm;have Qk:=hS.lt hsF;have od:bU≠tw/\OA≠tw/\tP5≠tw/\bU≠Q.jw/\bU≠Q.bS/\bU≠iE:=by decide
 have apk:=rU.size;refine ⟨rfl,rU.same _ hra141.lt (hra141.ne hrS od.1),rU.same _ hrr141.lt (hrr141.ne hrS od.2.1),rU.same _ hrp141.lt (hrp141.ne hrS od.2.2.1),rU.same _ hrx141.lt (hrx141.ne hrS od.1),λLL Ch=> ?_⟩;have M8:=Ext.dr Ui;have amD:=lW Ui;have hra142:=(rU.row hra141 (hra141.ne hrS od.1)).ext M8;have Yi:=(rU.row M7 (M7.ne hrS ob.2.2.2.1)).ext M8;have Uj:=uw.ext M8;have hnw:¬F2 w:=Uj.yA hra142 i33.1 (by decide) (by decide) od.1 od.2.2.2.1 od.2.2.2.2.1 od.2.2.2.2.2;have hnb:¬F2 w'.heap.size:=Uj.yA Yi ob.1 ob.2.1 ob.2.2.1 ob.2.2.2.1 ob.2.2.2.2.1 ob.2.2.2.2.2.1 ob.2.2.2.2.2.2;have aeq:SF F2 LL s o t (M5 a aO) (.func (.func 42) #[] #[.pointer (some ⟨w'.heap.size,0,none⟩)]):=Uj.same λi hi=>by rw [Ch,setRow_other _ _ _ _ (λq=>hnw (by rw [<-q];exact hi))]
 have nbw:w'.heap.size≠w:=by have:=xx.size;omega
 have Yj:Row LL w'.heap.size [.slice none 0 0] τb:=Yi.same (by rw [Ch,setRow_other _ _ _ _ nbw]);have apl:=mL Ch;have hF2:∀i,F2 i->w.heap.size<=i:=λi hi=>by
  rcases qH.sub i hi with q|q
  ·rcases fFs i q with q|q
   ·exact fF i q
   ·omega
  ·have:=wZ.size;omega
 have hFr:∀i,¬F i->i<wr.heap.size->¬F2 i:=λi hn hi q=>by
  have hx:=wZ.size;rcases qH.sub i q with q|q
  ·exact (fFs i q).elim hn (by omega)
  ·omega
 refine ⟨s,o,t,F2,_,sa,sb,sc,rfl,aeq,⟨λi=>i=w'.heap.size,λi hi=>⟨by rw [hi];exact Yj.lt,by rw [hi];exact λq=>q.elim hnb (by have:=xx.size;have:=xw.size;omega)⟩,λw2 hk c hc=> ?_⟩,hR.same λi hp hi=>⟨?_,hFr i hp.1 hi⟩,?_,hF2⟩
 ·exact jt (by kernel_rfl) rfl (Ht c (Yj.same (hk _ rfl)))
 ·rw [Ch,setRow_other _ _ _ _ hp.2.2];have hx:=wZ.size;have hix:i≠s:=λq=>by
   rcases fFs s hsF with q2|q2
   ·exact hp.1 (q▸q2)
   ·omega
  exact (rU.same i (by omega) hix).trans (wZ.heap hi)
 ·have ajl:w.heap.size<=s:=by
   rcases fFs s hsF with q2|q2
   ·exact fF s q2
   ·omega
  exact ((rU.ext (xw.tr wZ) λi hi=>hi▸ajl).tr M8).ab Ch (ax _)
end Go.Proofs.YtalpkjfpmdpbiaaGreatDoor
namespace Go.Proofs.YtalpkjfpmdpbiaaGreatDoor
open Go Go.Vc Go.RowKit Go.Proofs Go.dQ Go.bf Go.Code Go.ks Go.jd
set_option maxRecDepth 100000
def Mh{c n:Ce}(h:n ∈ iF c):n≠c:=by unfold iF bz ir at h;simp only [bI,fS,or_false] at h;intro q;subst q;rcases h with h|h|h|h|h|h<;>(have h1:=congrArg (·.1) h;have h2:=congrArg (·.2.1) h;have h3:=congrArg (·.2.2) h;simp only at h1 h2 h3;omega)
def mY(V:Ce->Int)(c:Ce)(b:Int):nM V c b c=b:=if_pos rfl
def j2{V:Ce->Int}{c c':Ce}{b:Int}(h:c'≠c):nM V c b c'=V c':=if_neg h
def agS:aY 0=true:=by decide+kernel
def agT:aY 3=true:=by decide+kernel
section
variable {M:Sm} {V:Ce->Int} {c:Ce} {O:Ce->Bool}
def Mi{c:Ce}(hp:pos c=(0,0)):pos c ∈ gl:=by rw [hp];decide
def uU(hs:Hs M.T.2 V)(hp:pos c=(0,0))(hy:kX c)(hn:∀n ∈ iF c,bO (V n)=0):
  ∃l' ch',(cj M.T.2 c 3).2=0/\gm M c 3={M with T:=(M.T.1,l'),ch:=ch',q:=(eX M.q c (M.now+2)).1}/\Hs l' (nM V c 3)/\ch'.length<=M.ch.length+1:=by
 obtain ⟨e1,h1⟩:=hs.set (Mi hp) hy agT;have hf:ey (cj M.T.2 c 3).1=nM V c 3:=funext h1.v;have hw:iN (nM V c 3) c=[c]:=J6 (by rw [mY,zA];decide) λn hm=>by rw [j2 (Mh hm)];exact hn n hm
 refine ⟨_,_,e1,?_,h1,zB M.T.2 M.ch c 3⟩;unfold gm;rw [if_pos e1,hf];unfold oB;rw [hw];show _=({M with T:=_,ch:=_,q:=_}:Sm);simp only [jI,List.foldl_nil,mY,zA]
def Q1(hs:Hs M.T.2 V)(hp:pos c=(0,0))(hy:kX c)(hn:∀n ∈ iF c,bO (V n)=0):
  ∃l',(cj M.T.2 c 0).2=0/\gm M c 0={M with T:=(M.T.1,l'),ch:=xe M.T.2 M.ch c 0}/\Hs l' (nM V c 0):=by
 obtain ⟨e1,h1⟩:=hs.set (Mi hp) hy agS;have hf:ey (cj M.T.2 c 0).1=nM V c 0:=funext h1.v;have hw:iN (nM V c 0) c=[]:=Gs (by rw [mY];exact mZ) λn hm=>by rw [j2 (Mh hm)];exact hn n hm
 refine ⟨_,e1,?_,h1⟩;unfold gm;rw [if_pos e1,hf];unfold oB;rw [hw];rfl
def Ze(c:Ce):bz c≠c:=Mh (by simp [iF])
def Q2(hs:Hs M.T.2 V)(hp:pos c=(0,0))(hy:kX c)(hy2:kX (bz c))(hV:V c=3)(hl:V (bz c)=0)(hn:∀n ∈ iF c,bO (V n)=0)(Fu:∀n ∈ iF (bz c),n≠c->bO (V n)=0)(hO:O (bz c)=false):
  ∃l' ch',fU O M c={M with T:=(M.T.1,l'),ch:=ch',q:=(eX M.q (bz c) (M.now+2)).1}/\Hs l' (nM (nM V c 0) (bz c) 3)/\ch'.length<=M.ch.length+2:=by
 have hf:ey M.T.2=V:=funext hs.v;have hr:=Zf hs hp;have hnx:jq (ey M.T.2) c=[(c,0),(bz c,3)]:=by rw [hf];exact Q3 hV hl
 have hh:¬pB O M c=true:=by unfold pB;rw [hO,Bool.and_false,Bool.and_false];decide
 obtain ⟨l1,a1,a2,a3⟩:=Q1 hs hp hy hn;have X4:bw M (c,0)=gm M c 0:=by unfold bw;rw [if_neg (by simp only;rw [hf,hV];decide)]
 have e1:bw M (c,0)={M with T:=(M.T.1,l1),ch:=xe M.T.2 M.ch c 0}:=X4.trans a2;have ahU:∀n ∈ iF (bz c),bO (nM V c 0 n)=0:=λn hm=>by
  by_cases q:n=c
  ·rw [q,mY];exact mZ
  ·rw [j2 q];exact Fu n hm q
 obtain ⟨l2,MT,b1,b2,b3,b4⟩:=uU (M:={M with T:=(M.T.1,l1),ch:=xe M.T.2 M.ch c 0}) (c:=bz c) a3 hp hy2 ahU;have jE:bw {M with T:=(M.T.1,l1),ch:=xe M.T.2 M.ch c 0} (bz c,3)=gm {M with T:=(M.T.1,l1),ch:=xe M.T.2 M.ch c 0} (bz c) 3:=by unfold bw;rw [if_neg (by simp only;rw [a3.v,j2 (Ze c),hl];decide)]
 refine ⟨l2,MT,?_,b3,by have:=zB M.T.2 M.ch c 0;simp only at b4;omega⟩;unfold fU;rw [if_neg (by rw [hr];decide),if_neg hh,hnx];show bw (bw M (c,0)) (bz c,3)=_;rw [e1,jE,b2]
end
end Go.Proofs.YtalpkjfpmdpbiaaGreatDoor
namespace Go.Proofs.YtalpkjfpmdpbiaaGreatDoor
open Go Go.Vc Go.RowKit Go.Proofs Go.dQ Go.bf Go.Code Go.ks Go.jd
set_option maxRecDepth 100000
def AE(c:Ce):Ce:=(5+c.1 % 6,14+c.2.1 % 9,5+c.2.2 % 6)
def MI(c:Ce):(5<=(AE c).1/\(AE c).1<=10)/\(14<=(AE c).2.1/\(AE c).2.1<=22)/\5<=(AE c).2.2/\(AE c).2.2<=10:=by unfold AE;simp only;omega
def Im(c:Ce)(w:World):ah 12 #[iS c] w λe w'=>e=(iS (AE c))/\Ext w w':=by
 apply DM.vc;intro w0 e0 w1 e1;have x1:Ext w w1.drew:=((bq e0).ay e1).tr (Ext.dr w1);have z0:=du e0;have z1:w1.drew.heap.size=w.heap.size+2:=by show w1.heap.size=_;rw [e1];simp [z0]
 have r1:Row w1.drew w (ef c) iE:=((by rw [e0];exact Row.new w [_,_,_] _:Row w0 w _ iE).ext (bq e1)).ext (Ext.dr w1);have hb:=MI c;unfold AE at hb ⊢;simp only at hb;refine (iV c.1 6 aE aE w1.drew).mono ?_;rintro e w2 ⟨rfl,h2⟩;have x2:Ext w1.drew w2:=by rw [h2];exact Ext.ck _
 have z2:=x2.size;refine ⟨_,rfl,x2.heap aa,x2.heap aa,(r1.ext x2).bk (o:=2) (λj hj=>by
  match j,hj with
  |0,_=>rfl),(r1.ext x2).bk (o:=1) (λj hj=>by
  match j,hj with
  |0,_=>rfl),(iV c.2.1 9 aE aE w2).mono ?_⟩
 rintro e w4 ⟨rfl,h4⟩;have x4:Ext w2 w4:=by rw [h4];exact Ext.ck _
 have z4:=x4.size;have di:=x2.tr x4;refine ⟨_,rfl,x4.heap aa,x4.heap aa,(r1.ext di).bk (o:=2) (λj hj=>by
  match j,hj with
  |0,_=>rfl),(iV c.2.2 6 aE aE w4).mono ?_⟩
 rintro e w6 ⟨rfl,h6⟩;have x6:Ext w4 w6:=by rw [h6];exact Ext.ck _
 have z6:=x6.size;have q1:ai (5+c.1 % 6)=5+c.1 % 6:=wI;have q2:ai (14+c.2.1 % 9)=14+c.2.1 % 9:=wI;have q3:ai (5+c.2.2 % 6)=5+c.2.2 % 6:=wI;refine ⟨_,rfl,x6.heap aa,x6.heap aa,λw8 e8=> ?_⟩;rw [q1,q2,q3];exact ⟨rfl,(x1.tr (di.tr x6)).ab e8 aa⟩
def V0(ag:Int):Ce->Int:=ey (l5 ag 5)
def EN(c:Ce):Prop:=(1<=c.1/\c.1<=14)/\(15<=c.2.1/\c.2.1<=30)/\1<=c.2.2/\c.2.2<=14
def EN.pos{c:Ce}(h:EN c):pos c=(0,0):=by unfold EN at h;unfold Go.dQ.pos;exact Prod.ext (by show c.1 / 16=0;omega) (by show c.2.2 / 16=0;omega)
def EN.y{c:Ce}(h:EN c):kX c:=by unfold EN at h;unfold kX;omega
def EN.sml{c:Ce}(h:EN c):nS c:=by unfold EN at h;unfold nS;omega
def EN.air{c:Ce}(h:EN c)(ag:Int):V0 ag c=0:=RV ag (by unfold EN at h;omega) (Mi h.pos)
def EN.zt{c:Ce}(h:EN c)(ag:Int):∀n ∈ iF c,V0 ag n=0:=λn hn=>by
 unfold EN at h
 unfold iF bz ir at hn
 simp only [bI,fS,or_false] at hn
 have key:∀n:Ce,(0<=n.1/\n.1<=15)->(14<=n.2.1/\n.2.1<32)->(0<=n.2.2/\n.2.2<=15)->V0 ag n=0:=λn h1 h2 h3=>RV ag h2 (Mi (Prod.ext (by show n.1 / 16=0;omega) (by show n.2.2 / 16=0;omega)))
 rcases hn with rfl|rfl|rfl|rfl|rfl|rfl<;>exact key _ (by simp only;omega) (by simp only;omega) (by simp only;omega)
def Fo:(1:Int)<=1/\(1:Int)<=64:=by decide
def n00:(0:Int)<=0/\(0:Int)<=((0:Nat):Int):=by decide
def n0t:(0:Int)<=0/\(0:Int)<=1099511627776:=by decide
def n1t:(0:Int)<=1/\(1:Int)<=1099511627776:=by decide
def n2t:(0:Int)<=2/\(2:Int)<=1099511627776:=by decide
def ZV(ag aO:Int):m8 (M5 ag aO) 0:=⟨n00,ax _,n0t,ax _⟩
def up5:EN (5,20,5)/\EN (7,20,5)/\EN (5,19,5):=by unfold EN;decide
set_option maxHeartbeats 1000000 in
def EO(w:World):ah 13 #[] w λe w'=>e=true/\Ext w w':=by
 apply Ie.vc;refine (Ad 1 1 ⟨none,0,0⟩ rfl w).mono ?_;rintro e w0 ⟨s,o,t,F,occ,s1,s2,s3,rfl,hS,hO,-,x0,fF⟩;have hO:=hO.mono (F':=F) λi hi=> .inl hi
 have z0:=x0.size;refine ⟨_,_,_,_,_,_,s1,s2,s3,⟨none,0,0⟩,_,_,⟨none,0,0⟩,_,_,⟨none,0,0⟩,⟨none,0,0⟩,rfl,λdJ Jg fD yh=>Ej rfl ?_⟩;have cN:Ext w0 fD:=(bq Jg).ab yh (ax _);have z19:=kC Jg yh;have nf:∀{F1 F2:Nat->Prop} {a b:World},aG F F1 fD a->aG F1 F2 a b->b.heap[w0.heap.size]? =a.heap[w0.heap.size]? :=λta tb=>tb.mod.same _ (by have:=ta.mod.size;omega) λhf=>by
  rcases ta.sub _ hf with q|q
  ·have:=hS.lt q;omega
  ·omega
 have mL:Hs (M5 1 1).T.2 (V0 1):=acZ 1;obtain ⟨u1,u2,u3⟩:=up5;have d1:∀n ∈ iF (5,20,5),bO (V0 1 n)=0:=λn hn=>by rw [u1.zt 1 n hn];exact mZ
 obtain ⟨l1,ch1,a1,a2,a3,a4⟩:=uU mL u1.pos u1.y d1;refine (lJ (hS.ext cN) (5,20,5) u1.sml.wide 3 ((ZV 1 1).mono aa)).mono ?_;rintro e eC ⟨rfl,F1,hS1,t1⟩;rw [a2] at hS1;have d2:∀n ∈ iF (7,20,5),bO (nM (V0 1) (5,20,5) 3 n)=0:=λn hn=>by
  rw [j2 (by
   rintro rfl;revert hn;decide),u2.zt 1 n hn]
  exact mZ
 obtain ⟨l2,MT,b1,b2,b3,b4⟩:=uU (M:={M5 1 1 with T:=(jN 0,l1),ch:=ch1,q:=(eX (M5 1 1).q (5,20,5) ((M5 1 1).now+2)).1}) a3 u2.pos u2.y d2;refine ⟨_,rfl,nf (aG.refl _ _) t1,?_⟩;have k1:m8 {M5 1 1 with T:=(jN 0,l1),ch:=ch1,q:=(eX (M5 1 1).q (5,20,5) ((M5 1 1).now+2)).1} 10:=by have:=(ZV 1 1).edit (5,20,5) 3;rw [a2] at this;exact this.mono aa
 refine (lJ hS1 (7,20,5) u2.sml.wide 3 (k1.mono aa)).mono ?_;rintro e cx ⟨rfl,F2,uw,t2⟩;have k2:=k1.edit (7,20,5) 3;have T2:=t1.trans t2;refine ⟨_,rfl,nf t1 t2,?_⟩;have e2:gm {M5 1 1 with T:=(jN 0,l1),ch:=ch1,q:=(eX (M5 1 1).q (5,20,5) ((M5 1 1).now+2)).1} (7,20,5) 3=⟨1,5,(jN 0,l2),MT,⟨4096,0,[(2,(5,20,5)),(2,(7,20,5))]⟩,1,0,[]⟩:=by rw [b2];rfl
 rw [e2] at uw k2;have k2:=k2.mono (show 10+7<=100 by decide);have hO2:=(hO.ext cN).ib T2;have c12:((5,20,5):Ce)≠(7,20,5):=by decide
 have g1:k7 ⟨1,5,(jN 0,l2),MT,⟨4096,0,[(2,(5,20,5)),(2,(7,20,5))]⟩,1,0,[]⟩=[]:=rfl;have g2:fo (λ_=>false) ⟨1,5,(jN 0,l2),MT,⟨4096,0,[(2,(5,20,5)),(2,(7,20,5))]⟩,1,0,[]⟩=⟨1,5,(jN 0,l2),MT,⟨4096,0,[(2,(5,20,5)),(2,(7,20,5))]⟩,1,1,[]⟩:=by unfold fo;rw [g1];rfl
 refine (lu uw hO2 (by rw [g1];intro y hy;cases hy) (k2.mono aa) Fo).mono ?_;rw [g2];rintro e fu ⟨rfl,F3,hS3,t3⟩;have T3:=T2.trans t3;have hO3:=hO2.ib t3;refine ⟨_,rfl,nf T2 t3,?_⟩;have g3:k7 ⟨1,5,(jN 0,l2),MT,⟨4096,0,[(2,(5,20,5)),(2,(7,20,5))]⟩,1,1,[]⟩=[(5,20,5)]:=rfl;have g4:iO ⟨1,5,(jN 0,l2),MT,⟨4096,0,[(2,(5,20,5)),(2,(7,20,5))]⟩,1,1,[]⟩=⟨1,5,(jN 0,l2),MT,⟨4096,0,[(2,(7,20,5))]⟩,1,2,[]⟩:=rfl;have v1:nM (nM (V0 1) (5,20,5) 3) (7,20,5) 3 (5,20,5)=3:=by rw [j2 c12,mY]
 have vl:nM (nM (V0 1) (5,20,5) 3) (7,20,5) 3 (5,19,5)=0:=by rw [j2 aE,j2 aE];exact u3.air 1
 have far:∀{n:Ce},n≠(5,20,5)->n≠(7,20,5)->V0 1 n=0->bO (nM (nM (V0 1) (5,20,5) 3) (7,20,5) 3 n)=0:=λh1 h2 h3=>by rw [j2 h2,j2 h1,h3];exact mZ
 have k3:m8 ⟨1,5,(jN 0,l2),MT,⟨4096,0,[(2,(5,20,5)),(2,(7,20,5))]⟩,1,1,[]⟩ 100:=⟨k2.l,k2.c,n1t,k2.d⟩;have k3s:m8 ⟨1,5,(jN 0,l2),MT,⟨4096,0,[(2,(7,20,5))]⟩,1,2,[]⟩ 100:=⟨k2.l,k2.c,n2t,k2.d⟩;obtain ⟨l4,ch4,f1,f2,f3⟩:=Q2 (M:=⟨1,5,(jN 0,l2),MT,⟨4096,0,[(2,(7,20,5))]⟩,1,2,[]⟩) (O:=λ_=>false) (c:=(5,20,5)) b3 u1.pos u1.y u3.y v1 vl (λn hn=>far (Mh hn) (by
  rintro rfl;revert hn;decide) (u1.zt 1 n hn)) (λn hn dI=>far dI (by
  rintro rfl;revert hn;decide) (u3.zt 1 n hn)) rfl
 have f1:fU (λ_=>false) ⟨1,5,(jN 0,l2),MT,⟨4096,0,[(2,(7,20,5))]⟩,1,2,[]⟩ (5,20,5)=⟨1,5,(jN 0,l4),ch4,⟨4096,0,[(2,(7,20,5)),(4,(5,19,5))]⟩,1,2,[]⟩:=f1;have g5:fo (λ_=>false) ⟨1,5,(jN 0,l2),MT,⟨4096,0,[(2,(5,20,5)),(2,(7,20,5))]⟩,1,1,[]⟩=⟨1,5,(jN 0,l4),ch4,⟨4096,0,[(2,(7,20,5)),(4,(5,19,5))]⟩,1,2,[]⟩:=by unfold fo;rw [g3,g4];exact f1
 refine (lu hS3 hO3 (by
  rw [g3];intro y hy;rw [fH.1 hy];exact u1.sml) (k3.mono aa) Fo).mono ?_
 rw [g5,g3];rintro e g7 ⟨rfl,F4,hS4,t4⟩;have T4:=T3.trans t4;have hO4:=hO3.ib t4;have k4:=k3s.upd (λ_=>false) (5,20,5);rw [f1] at k4;refine ⟨_,rfl,nf T3 t4,yes rfl ?_⟩;have g6:k7 ⟨1,5,(jN 0,l4),ch4,⟨4096,0,[(2,(7,20,5)),(4,(5,19,5))]⟩,1,2,[]⟩=[(7,20,5)]:=rfl;refine (lu hS4 hO4 (by
  rw [g6];intro y hy;rw [fH.1 hy];exact u2.sml) (k4.mono aa) Fo).mono ?_
 rw [g6];rintro e eI ⟨rfl,F5,hS5,t5⟩;have T5:=T4.trans t5;refine ⟨_,rfl,nf T4 t5,rfl,?_⟩;exact (T5.fresh (x0.tr cN) fF).1
end Go.Proofs.YtalpkjfpmdpbiaaGreatDoor
