import Derived.Test.YtalpkjfpmdpbiaaGreatDoorRL
import Derived.Test.YtalpkjfpmdpbiaaGreatDoorGW
set_option linter.all false
namespace Go.Proofs.YtalpkjfpmdpbiaaGreatDoor
open Go Go.Vc Go.RowKit Go.Proofs Go.dS Go.bh Go.Code
abbrev mE:TypeId:=100
abbrev eH:TypeId:=71
abbrev Cg:=Ce × Int
abbrev FY(x:Cg):LV:=[.int .i64 x.1.1,.int .i64 x.1.2.1,.int .i64 x.1.2.2,.int .i64 x.2]
def WF(F:Nat->Prop)(w:World)(o t:Nat)(ag limit:Int)(T:Tb)(ch:List Cg):Prop:=
 ∃F1 sc,TF F1 w t ag limit T/\Row w o [t,.slice sc.a sc.n sc.c] mE/\aj 0 eH 4 w sc (ch.map FY)/\F=λi=>F1 i\/i=o\/sc.bj=some i
def WF.lt{F:Nat->Prop}{w:World}{o t:Nat}{ag limit:Int}{T:Tb}{ch:List Cg}(h:WF F w o t ag limit T ch){i:Nat}(hi:F i):i<w:=by
 obtain ⟨F1,sc,h1,h2,h3,rfl⟩:=h;rcases hi with hi|rfl|hi
 ·exact h1.lt hi
 ·exact h2.lt
 ·exact (h3.own.lt hi).2
def WF.same{F:Nat->Prop}{w w':World}{o t:Nat}{ag limit:Int}{T:Tb}{ch:List Cg}(h:WF F w o t ag limit T ch)(hs:∀i,F i->w'.heap[i]? =w.heap[i]?):WF F w' o t ag limit T ch:=by obtain ⟨F1,sc,h1,h2,h3,rfl⟩:=h;exact ⟨F1,sc,h1.same λi hi=>hs i (.inl hi),h2.same (hs o (.inr (.inl rfl))),aj.bM h3 λb hb=>hs b (.inr (.inr hb)),rfl⟩
def WF.ext{F:Nat->Prop}{w w':World}{o t:Nat}{ag limit:Int}{T:Tb}{ch:List Cg}(h:WF F w o t ag limit T ch)(x:Ext w w'):WF F w' o t ag limit T ch:=h.same λ_ hi=>x.heap (h.lt hi)
def WF.bM{F G:Nat->Prop}{w w':World}{o t:Nat}{ag limit:Int}{T:Tb}{ch:List Cg}(h:WF F w o t ag limit T ch)(hm:Mod G w w')(hn:∀i,F i->¬G i):WF F w' o t ag limit T ch:=h.same λi hi=>hm.same i (h.lt hi) (hn i hi)
def WF.cF{F:Nat->Prop}{w:World}{o t:Nat}{ag limit:Int}{T:Tb}{ch:List Cg}(h:WF F w o t ag limit T ch){j:Nat}{cs:LV}{τ:TypeId}(hr:Row w j cs τ)(hτ:oZ τ)(hw:τ≠mE)(hc:τ≠eH):¬F j:=by
 obtain ⟨F1,sc,h1,h2,h3,rfl⟩:=h;rintro (hi|rfl|hi)
 ·exact h1.cF hr hτ hi
 ·exact hr.ne h2 hw rfl
 ·obtain ⟨cs',hr'⟩:=aM h3 aC hi;exact hr.ne hr' hc rfl
abbrev Q6(F:Nat->Prop)(w:World)(o t:Nat)(ag limit:Int)(T:Tb)(ch:List Cg)(w':World):Prop:=∃F',WF F' w' o t ag limit T ch/\aG F F' w w'
def WF.table{F:Nat->Prop}{w:World}{o t:Nat}{ag limit:Int}{T:Tb}{ch:List Cg}(h:WF F w o t ag limit T ch):∃F1,TF F1 w t ag limit T/\(∀i,F1 i->F i)/\∀{w':World} {T':Tb},Q7 F1 w t ag limit T' w'->Q6 F w o t ag limit T' ch w':=by
 obtain ⟨F1,sc,h1,h2,h3,rfl⟩:=h;refine ⟨F1,h1,λi hi=> .inl hi,?_⟩;rintro w' T' ⟨F',h',ht⟩;have n2:=h1.cF h2 aC;have n3:∀b,sc.bj=some b->¬F1 b:=λb hb=>by obtain ⟨cs',hr'⟩:=aM h3 aC hb;exact h1.cF hr' aC
 refine ⟨_,⟨F',sc,h',ht.mod.row h2 n2,ht.mod.gK h3 n3,rfl⟩,ht.mod.mono λi _ hi=> .inl hi,λi hi=> ?_⟩;rcases hi with hi|hi|hi
 ·exact (ht.sub i hi).imp .inl id
 ·exact .inl (.inr (.inl hi))
 ·exact .inl (.inr (.inr hi))
def CZ(ag limit room:Int)(w:World):ah 35 #[ag,limit,room] w λe w'=>∃o t F,e=Value.pointer (bu o)/\WF F w' o t ag (min (max limit 1) 16) (gy room,[]) []/\Ext w w'/\∀i,F i->w.heap.size<=i:=by
 apply N3.vc;refine (Kg ag limit room w).mono ?_;rintro e w0 ⟨t,F1,rfl,h0,x0,f0⟩;refine ⟨_,rfl,λw2 e2=>⟨w0.heap.size,t,_,rfl,⟨F1,⟨none,0,0⟩,h0.ext (bo e2),?_,aj.nil,rfl⟩,x0.ay e2,λi hi=> ?_⟩⟩
 ·rw [e2];exact Row.new w0 [_,_] _
 ·rcases hi with hi|hi|hi
  ·exact f0 i hi
  ·have:=x0.size;omega
  ·cases hi
def py{F:Nat->Prop}{w:World}{o t:Nat}{ag limit:Int}{T:Tb}{ch:List Cg}(h:WF F w o t ag limit T ch):ah 37 #[o] w λe w'=>e=Value.pointer (bu t)/\w'=w:=by obtain ⟨F1,sc,h1,h2,h3,rfl⟩:=h;apply tm.vc;exact ⟨_,h2.at 0 rfl,rfl,rfl⟩
def nM{F:Nat->Prop}{w:World}{o t:Nat}{ag limit:Int}{T:Tb}{ch:List Cg}(h:WF F w o t ag limit T ch):ah 11 #[o] w λe w'=>e=Value.func (.func 43) #[t] #[]/\w'=w:=by obtain ⟨F1,sc,h1,h2,h3,rfl⟩:=h;apply vk.vc;exact ⟨_,h2.at 0 rfl,rfl,rfl⟩
def xE(l:List En)(ch:List Cg)(c:Ce)(b:Int):List Cg:=if (cr l c b).2=0/\eB l c≠b then ch++ [(c,b)] else ch
def Q8(a b c d:Int):One [Value.int .i64 a,b,c,d]:=by intro v hv;simp at hv;rcases hv with rfl|rfl|rfl|rfl<;>rfl
def N4{F:Nat->Prop}{w:World}{o t:Nat}{ag limit:Int}{T:Tb}{ch:List Cg}(h:WF F w o t ag limit T ch)(c:Ce)(hc:lY c)(b:Int)(hn:ch.length<=1000000):
  ah 27 #[o,iG c,.int .i64 b] w λe w'=>e=Value.int .i64 (cr T.2 c b).2/\Q6 F w o t ag limit (T.1,(cr T.2 c b).1) (xE T.2 ch c b) w':=by
 have hF:=λ{i}=>h.lt (i:=i)
 have hh:=h;obtain ⟨F1,sc,h1,h2,h3,rfl⟩:=h;apply xF.vc;intro w0 e0;have z0:=dt e0;have x0:Ext w w0.drew:=(bo e0).drew;have zd:=kQ w0;refine ⟨_,(h2.ext x0).at 0 rfl,(C0 (h1.ext x0) c hc).mono ?_⟩;rintro e w2 ⟨rfl,x2⟩;have z2:=x2.size;have DP:=(x0.tr x2).drew;have zd2:=kQ w2;refine ⟨_,rfl,x2.heap aa,_,(h2.ext DP).at 0 rfl,(Kh (h1.ext DP) c hc b).mono ?_⟩;rintro e w5 ⟨rfl,hT⟩;obtain ⟨F',hF',ht'⟩:=hT;have z5:=ht'.mod.size;have n2:=(h1.ext DP).cF (h2.ext DP) aC;have n3:∀b,sc.bj=some b->¬F1 b:=λb hb=>by obtain ⟨cs',hr'⟩:=aM (h3.ext DP) aC hb;exact (h1.ext DP).cF hr' aC
 have Vt:=ht'.mod.row (h2.ext DP) n2;have Yx:aj 0 eH 4 w5 sc (ch.map FY):=ht'.mod.gK (h3.ext DP) n3;have nb:¬F1 w:=λhf=>by have:=hF (.inl hf);omega
 have tt:aG (λi=>F1 i\/i=o\/sc.bj=some i) (λi=>F' i\/i=o\/sc.bj=some i) w w5:=by
  refine (aG.aN DP).trans ⟨ht'.mod.mono λi _ hi=> .inl hi,λi hi=> ?_⟩;rcases hi with hi|hi|hi
  ·exact (ht'.sub i hi).imp .inl id
  ·exact .inl (.inr (.inl hi))
  ·exact .inl (.inr (.inr hi))
 refine ⟨_,rfl,ht'.mod.same _ aa nb,Br.mk (λhb=>Br.mk (λeF=> ?_) (λeF=> ?_)) (λhb=> ?_)⟩
 ·simp only [beq_iff_eq] at hb;simp only [bne_iff_ne] at eF;have ec:xE T.2 ch c b=ch++ [(c,b)]:=by unfold xE;rw [if_pos ⟨hb,eF⟩]
  rw [ec];have h2d:=Vt.ext (Ext.dr w5);have kf:sc.n=ch.length:=by have:=(h3.rd (show 0<4 by decide)).n;rwa [aB] at this
  refine ⟨sc,h2d.at 1 rfl,λw8 e8=> ?_⟩;subst e8;obtain ⟨hp,aR⟩:=(Yx.ext (Ext.dr w5)).kJ (bytes:=32) (news:=FY (c,b)) (.cells #[c.1,c.2.1,c.2.2,.int .i64 b] eH) (eC _) rfl (Q8 _ _ _ _) aa aa;refine ⟨hp,λs9 bL hr=> ?_⟩;obtain ⟨f1,Mh,ad5,xb,ahT,hM⟩:=aR s9 bL hr;have zd5:=kQ w5;have yk:=h2.lt;have ahU:∀b,sc.bj=some b->b<w.heap.size:=λb hb=>(h3.own.lt hb).2
  have Vu:Mod (λj=>sc.bj=some j) w5 bL:=(Mod.aN (Ext.dr w5)).trans (Mod.rK xb ahT);have no:¬sc.bj=some o:=λe=>by obtain ⟨cs',hr'⟩:=aM h3 aC e;exact hr'.ne h2 aC rfl
  have ad6:=Vu.row Vt no;obtain ⟨p1,p2⟩:=ad6.jR (j:=1) (v:=.slice s9.a s9.n s9.c) cx rfl;have z10:=Vu.size;have pb:∀j:Nat,o<j->cS (ae (bu o) 1)≠some j:=λj hj e=>by
   rw [dj] at e;have:o=j:=by simpa [cS] using e
   omega
  refine ⟨(Vu.same w aa (λe=>by have:=ahU _ e;omega)).trans ((Ext.al w5.drew _).heap (show w.heap.size<w5 by omega)).symm,f1,⟨rfl,p1⟩,pb _ aa,pb _ (show o<w5 by omega),λcB yl=>⟨rfl,?_⟩⟩;obtain ⟨q1,q2⟩:=p2 cB yl;have P9:∀b,s9.bj=some b->b≠o:=λb hb=>by obtain ⟨cs',hr'⟩:=aM Mh aC hb;exact hr'.ne ad6 aC
  have m11:Mod (λj=>j=o\/sc.bj=some j) w5 cB:=(Vu.mono λi _ hi=> .inr hi).trans (q2.mono λi _ hi=> .inl hi);have ahV:TF F' cB t ag limit (T.1,(cr T.2 c b).1):=hF'.bM m11 λi hi e=>by
   rcases e with e|e
   ·exact hF'.cF Vt aC (e▸hi)
   ·obtain ⟨cs',hr'⟩:=aM Yx aC e;exact hF'.cF hr' aC hi
  refine ⟨_,⟨F',s9,ahV,q1,?_,rfl⟩,tt.trans ⟨m11.mono λi _ hi=> .inr hi,λi hi=> ?_⟩⟩
  ·rw [aT];exact q2.gK Mh P9
  ·rcases hi with hi|hi|hi
   ·exact .inl (.inl hi)
   ·exact .inl (.inr (.inl hi))
   ·rcases hM with e|e
    ·exact .inl (.inr (.inr (by rw [<-e];exact hi)))
    ·rw [e] at hi;cases hi;exact .inr (show w5.heap.size<=w5.heap.size+1 by omega)
 ·simp only [bne_eq_false_iff_eq] at eF;have ec:xE T.2 ch c b=ch:=by unfold xE;rw [if_neg λh=>h.2 eF]
  rw [ec];exact ⟨rfl,_,⟨F',sc,hF',Vt,Yx,rfl⟩,tt⟩
 ·simp only [beq_eq_false_iff_ne] at hb;have ec:xE T.2 ch c b=ch:=by unfold xE;rw [if_neg λh=>hb h.1]
  rw [ec];exact ⟨rfl,_,⟨F',sc,hF',Vt,Yx,rfl⟩,tt⟩
def V6(l:List En)(ch:List Cg)(c:Ce)(b:Int):(xE l ch c b).length<=ch.length+1:=by
 unfold xE;split
 ·simp
 ·omega
abbrev rQ(q:Po):LV:=[.int .i64 q.1,.int .i64 q.2]
def g8(p:Po):List Po:=[p,(p.1-1,p.2),(p.1+1,p.2),(p.1,p.2-1),(p.1,p.2+1)]
def D9(p:Po)(hp:FZ p)(w:World):ah 136 #[pv p] w λe w'=>e=Value.agg #[p.1,p.2,.int .i64 (p.1-1),p.2,.int .i64 (p.1+1),p.2,p.1,.int .i64 (p.2-1),p.1,.int .i64 (p.2+1)]/\Ext w w':=by
 apply Gw.vc;obtain ⟨⟨p1,p2⟩,p3,p4⟩:=hp;have q1:ai (p.1-1)=p.1-1:=wI;have q2:ai (p.1+1)=p.1+1:=wI;have q3:ai (p.2-1)=p.2-1:=wI;have q4:ai (p.2+1)=p.2+1:=wI;rw [q1,q2,q3,q4];intro w0 e0 w1 e1;have z0:=dt e0;have x1:Ext w w1:=(bo e0).ay e1;have hr:Row w1 w0 [af,af,af,af,af,af,af,af,af,af] 202:=Row.nw e1;refine ⟨⟨rfl,hr.wr cx⟩,λe=>by
  have:w0.heap.size=w.heap.size:=by simpa [cS] using e
  omega,λw2 e2=> ?_⟩
 have h1:One [Value.int .i64 p.1,p.2,.int .i64 (p.1-1),p.2,.int .i64 (p.1+1),p.2,p.1,.int .i64 (p.2-1),p.1,.int .i64 (p.2+1)]:=by intro v hv;simp only [bJ,fY,or_false] at hv;rcases hv with rfl|rfl|rfl|rfl|rfl|rfl|rfl|rfl|rfl|rfl<;>rfl
 rw [hr.bc cx h1] at e2;have mM:Row w2 w0 [p.1,p.2,.int .i64 (p.1-1),p.2,.int .i64 (p.1+1),p.2,p.1,.int .i64 (p.2-1),p.1,.int .i64 (p.2+1)] 202:=hr.st e2;exact ⟨_,_,_,_,_,_,_,_,_,_,mM.aY (λj hj=>by rw [cP]),rfl,x1.ab e2 aa⟩
def BZ(s:Sl)(ps:List Po)(p:Po)(w:World)(hs:RdK w s 2 (ps.map rQ))(hn:ps.length<=1000):
  ah 184 #[s,pv p] w λe w'=>(∃r:Int,e=r/\(0<=r ↔ p ∈ ps))/\Ext w w':=by
 apply vm.vc;have kf:=hs.n;rw [aB] at kf;intro w0 e0;have x0:=bo e0;refine ⟨λn x w'=>∃j:Nat,x=j/\j+n=ps.length/\Ext w w'/\p ∉ ps.take j,⟨ps.length,rfl,0,rfl,by omega,x0,by simp⟩,?_⟩;rintro n us x w5 ⟨j,rfl,hj,x5,hnp⟩;apply Br.mk<;>intro hb
 ·replace hb:=fe hb;obtain ⟨y,hy⟩:=aZ (l:=ps) (i:=j) aa;have fq:=hs.ext (x5.tr (Ext.dr _));refine ⟨hs.fp (i:=(j:Int)) aC aa hb,y.1,y.2,fq.aY (i:=j) (r:=rQ y) (by rw [aV,hy];rfl),Br.mk (λh1=> ?_) (λh1=> ?_)⟩
  ·simp only [gr,beq_iff_eq] at h1;have:p=y:=Prod.ext h1.1 h1.2;exact ⟨⟨_,rfl,λ_=>by rw [this];exact bf hy,λ_=>by omega⟩,x5.tr (Ext.dr _)⟩
  ·have wk:=kK (j:=j);refine ⟨n-1,by omega,rfl,j+1,wk,by omega,x5.tr (Ext.dr _),?_⟩;rw [cm,hy];intro hm;rcases cu.1 hm with hm|hm
   ·exact hnp hm
   ·simp only [Option.toList_some,fB] at hm;subst hm;simp at h1
 ·replace hb:=eX hb;rw [cZ aa] at hnp;exact ⟨⟨-1,rfl,λh=>by omega,λh=>absurd h hnp⟩,x5⟩
def vo(s:Sl)(ps:List Po)(p:Po)(w:World)(hs:RdK w s 2 (ps.map rQ))(hn:ps.length<=1000):
  ah 137 #[s,pv p] w λe w'=>e=Value.bool (decide (p ∈ ps))/\Ext w w':=by
 apply qR.vc;intro w0 e0;have z0:=dt e0;have x0:=bo e0;refine (BZ s ps p w0 (hs.ext x0) hn).mono ?_;rintro e w1 ⟨⟨r,rfl,hr⟩,x1⟩;refine ⟨r,rfl,x1.heap aa,?_,x0.tr x1⟩;have:decide (r>=0)=decide (p ∈ ps):=by rw [decide_eq_decide];exact hr
 rw [this]
def V7{c:Ce}(hc: -1000000000<=c.1/\c.1<=1000000000)(hz: -1000000000<=c.2.2/\c.2.2<=1000000000):FZ (pos c):=by unfold FZ pos;simp only;omega
def lD(l:List En)(c:Ce):Bool:=(g8 (pos c)).all λq=>decide (q ∈ l.map (·.1))
def Gx{F:Nat->Prop}{w:World}{o t:Nat}{ag limit:Int}{T:Tb}{ch:List Cg}(h:WF F w o t ag limit T ch)(c:Ce)(hc:lY c)(hp:FZ (pos c)):
  ah 91 #[o,iG c] w λe w'=>e=Value.bool (lD T.2 c)/\Ext w w':=by
 obtain ⟨F1,sc,hT,hR,hO,rfl⟩:=h;apply tn.vc;have ed:=hT.len;intro w1 e1;have z1:=dt e1;have x1:=bo e1;refine ⟨_,(hR.ext x1).at 0 rfl,(Gy (hT.ext x1)).mono ?_⟩;rintro e w2 ⟨s',rfl,ho,x2⟩;have z2:=x2.size;have fq:RdK w2 s' 2 ((T.2.map (·.1)).map rQ):=by rw [kj];exact ho.rd (show 0<2 by decide)
 refine ⟨s',rfl,x2.heap aa,(ml c hc w2).mono ?_⟩;rintro e w4 ⟨rfl,x4⟩;have z4:=x4.size;refine ⟨_,_,rfl,x4.heap aa,(D9 (pos c) hp w4).mono ?_⟩;rintro e w7 ⟨rfl,x7⟩;have z7:=x7.size;have cR:=x1.tr (x2.tr (x4.tr x7));unfold lD;generalize pos c=p at*;have hpl:(T.2.map (·.1)).length<=1000:=by rw [aB];omega
 generalize T.2.map (·.1)=ps at*;refine ⟨_,_,_,_,_,_,_,_,_,_,rfl,x7.heap aa,λn x w'=>∃j:Nat,x=j/\j+n=5/\Ext w7 w'/\∀q ∈(g8 p).take j,q ∈ ps,⟨5,rfl,0,rfl,rfl,Ext.bX _,by simp⟩,?_⟩;rintro n us x eh ⟨j,rfl,hj,da,jG⟩;have z25:=da.size;apply Br.mk<;>intro hb
 ·replace hb:=fe hb;have hex:∃q:Po,(([p.1,p.2,.int .i64 (p.1-1),p.2,.int .i64 (p.1+1),p.2,p.1,.int .i64 (p.2-1),p.1,.int .i64 (p.2+1)]:LV).drop (((j:Nat):Int).toNat*2)).take 2=[.int .i64 q.1,.int .i64 q.2]/\(g8 p)[j]? =some q:=by
   have:j=0\/j=1\/j=2\/j=3\/j=4:=by omega
   rcases this with rfl|rfl|rfl|rfl|rfl
   ·exact ⟨p,rfl,rfl⟩
   ·exact ⟨(p.1-1,p.2),rfl,rfl⟩
   ·exact ⟨(p.1+1,p.2),rfl,rfl⟩
   ·exact ⟨(p.1,p.2-1),rfl,rfl⟩
   ·exact ⟨(p.1,p.2+1),rfl,rfl⟩
  obtain ⟨q,hq1,hq2⟩:=hex;refine ⟨⟨by omega,by omega⟩,q.1,q.2,hq1,λfP NF ia e30=> ?_⟩;have oT:Ext eh ia:=(bo NF).ab e30 (ax _);have z30:ia.heap.size=eh.heap.size+1:=by rw [e30,setRow_size,NF];simp
  have xx:Ext w2 ia:=x4.tr (x7.tr (da.tr oT));refine (vo s' ps q ia (fq.ext xx) hpl).mono ?_;rintro e ik ⟨rfl,iN⟩;have wk:=kK (j:=j);refine ⟨_,rfl,iN.heap aa,iN.heap aa,Br.mk (λh1=> ?_) (λh1=> ?_)⟩
  ·refine ⟨?_,cR.tr ((da.tr oT).tr iN)⟩;have hnq:q ∉ ps:=by simpa using h1
   have:((g8 p).all λq=>decide (q ∈ ps))=false:=by rw [List.all_eq_false];exact ⟨q,bf hq2,by simpa using hnq⟩
   rw [this]
  ·have hyq:q ∈ ps:=by simpa using h1
   refine ⟨n-1,by omega,rfl,j+1,wk,by omega,(da.tr oT).tr iN,?_⟩;rw [cm,hq2];intro y hy;rcases cu.1 hy with hy|hy
   ·exact jG y hy
   ·simp only [Option.toList_some,fB] at hy;subst hy;exact hyq
 ·replace hb:=eX hb;refine ⟨?_,cR.tr da⟩;rw [cZ (show (g8 p).length<=j by unfold g8;simp;omega)] at jG;have:((g8 p).all λq=>decide (q ∈ ps))=true:=by rw [zw];exact λq hq=>by simpa using jG q hq
  rw [this]
end Go.Proofs.YtalpkjfpmdpbiaaGreatDoor
namespace Go.Proofs.YtalpkjfpmdpbiaaGreatDoor
open Go Go.Vc Go.RowKit Go.Proofs Go.dS Go.bh Go.Code
section
variable {N F F':Nat->Prop} {w w' v v':World} {s1 s2 s3 s4:Sl} {T T':Tb} {ch ch':List Cg} {ag cap limit:Int} {o t a b m n k:Nat}
def Lv(h:WF F w o t ag limit T ch):ah 24 #[o] w λe w'=>∃sc F',e=Value.slice sc.a sc.n sc.c/\aj 0 eH 4 w' sc (ch.map FY)/\WF F' w' o t ag limit T []/\(∀i,F' i->F i)/\Mod (λj=>j=o) w w':=by
 obtain ⟨F1,sc,h1,h2,h3,rfl⟩:=h;apply vA.vc;obtain ⟨p1,p2⟩:=h2.jR (j:=1) (v:=.slice none 0 0) cx rfl;refine ⟨sc,h2.at 1 rfl,⟨rfl,p1⟩,λw1 e1=> ?_⟩;obtain ⟨q1,q2⟩:=p2 w1 e1;have lA:∀b,sc.bj=some b->b≠o:=λb hb=>by obtain ⟨cs',hr'⟩:=aM h3 aC hb;exact hr'.ne h2 aC
 refine ⟨sc,_,rfl,q2.gK h3 lA,⟨F1,⟨none,0,0⟩,h1.bM q2 λi hi e=>h1.cF h2 aC (e▸hi),q1,aj.nil,rfl⟩,λi hi=> ?_,q2⟩;rcases hi with hi|hi|hi
 ·exact .inl hi
 ·exact .inr (.inl hi)
 ·cases hi
def WF.ahw(h:WF F w o t ag limit T ch):F o:=by obtain ⟨F1,s,-,-,-,rfl⟩:=h;exact .inr (.inl rfl)
def WF.Z7(h:WF F w o t ag cap T ch)(hi:Iv m n T)(hm:m<=400000):qH T:=by obtain ⟨F1,hT,-⟩:=h.table;exact hT.Z7 hi hm
def pS(h:WF F w o t ag limit T ch)(hW:T.1.l.length<=1000000)(p:Po):
  ah 38 #[t,pv p] w λe w'=>e=Value.int .i64 (oL ag limit T.1 T.2 p).2/\Q6 F w o t ag limit (oL ag limit T.1 T.2 p).1 ch w':=by
 obtain ⟨F1,hT,-,aR⟩:=h.table;refine (HS hT hW p).mono ?_;rintro e w' ⟨rfl,hr⟩;exact ⟨rfl,aR hr⟩
def Cd(h:WF F w o t ag limit T ch)(hW:T.1.l.length<=1000000)(p:Po):
  ah 65 #[t,pv p] w λe w'=>e=Value.int .i64 (fO T.1 T.2 p).2/\Q6 F w o t ag limit (fO T.1 T.2 p).1 ch w':=by
 obtain ⟨F1,hT,-,aR⟩:=h.table;refine (Cf hT hW p).mono ?_;rintro e w' ⟨rfl,hr⟩;exact ⟨rfl,aR hr⟩
def Pc(h:WF F w o t ag limit T ch)(c:Ce)(hc:lY c):
  ah 43 #[t,iG c] w λe w'=>e=Value.int .i64 (eB T.2 c)/\Ext w w':=by
 obtain ⟨F1,hT,-⟩:=h.table;exact C0 hT c hc
def WF.fw(h:WF F w o t ag cap T ch)(hN:Fw N w):Fw (Nf N F) w:=λi hi=>⟨λq=>by have:=h.lt q;omega,hN i hi⟩
set_option maxRecDepth 100000 in
def WF.adL{F:Nat->Prop}{w:World}{T:Tb}{ch:List Cg}{ag limit:Int}{o t:Nat}(h:WF F w o t ag limit T ch){w':World}(hk:∀i,F i->w'.heap[i]? =w.heap[i]?)(c:Ce)(hc:lY c):
  dJ Tryz.prog (.func (.func 43) #[t] #[]) [iG c] w' λe w''=>e=Value.int .i64 (eB T.2 c)/\Ext w' w'':=
 iA (by kernel_rfl) rfl (Pc (h.same hk) c hc)
end
def Lo.wv{w:World}{g:Nat}{cs:LV}{τ:TypeId}(h:Row w g cs τ):au w (bu g) 0 cs:=h.aY (λj hj=>by rw [cP])
end Go.Proofs.YtalpkjfpmdpbiaaGreatDoor
