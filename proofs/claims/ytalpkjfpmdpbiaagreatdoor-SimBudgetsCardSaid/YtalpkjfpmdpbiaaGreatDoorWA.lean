import Derived.Test.YtalpkjfpmdpbiaaGreatDoorRL
import Derived.Test.YtalpkjfpmdpbiaaGreatDoorGW
set_option linter.all false
namespace Go.Proofs.YtalpkjfpmdpbiaaGreatDoor
open Go Go.Vc Go.RowKit Go.Proofs Go.dQ Go.bf Go.Code
abbrev pj:TypeId:=100
abbrev eT:TypeId:=71
abbrev Cg:=Ce × Int
abbrev Qb(x:Cg):LV:=[.int .i64 x.1.1,.int .i64 x.1.2.1,.int .i64 x.1.2.2,.int .i64 x.2]
def WF(F:Nat->Prop)(w:World)(o t:Nat)(ag limit:Int)(T:Tb)(ch:List Cg):Prop:=
 ∃F1 sc,TF F1 w t ag limit T/\Row w o [t,.slice sc.a sc.n sc.c] pj/\ak 0 eT 4 w sc (ch.map Qb)/\F=λi=>F1 i\/i=o\/sc.bg=some i
def WF.lt{F:Nat->Prop}{w:World}{o t:Nat}{ag limit:Int}{T:Tb}{ch:List Cg}(h:WF F w o t ag limit T ch){i:Nat}(hi:F i):i<w:=by
 obtain ⟨F1,sc,h1,h2,h3,rfl⟩:=h;rcases hi with hi|rfl|hi
 ·exact h1.lt hi
 ·exact h2.lt
 ·exact (h3.own.lt hi).2
def WF.same{F:Nat->Prop}{w w':World}{o t:Nat}{ag limit:Int}{T:Tb}{ch:List Cg}(h:WF F w o t ag limit T ch)(hs:∀i,F i->w'.heap[i]? =w.heap[i]?):WF F w' o t ag limit T ch:=by obtain ⟨F1,sc,h1,h2,h3,rfl⟩:=h;exact ⟨F1,sc,h1.same λi hi=>hs i (.inl hi),h2.same (hs o (.inr (.inl rfl))),ak.bP h3 λb hb=>hs b (.inr (.inr hb)),rfl⟩
def WF.ext{F:Nat->Prop}{w w':World}{o t:Nat}{ag limit:Int}{T:Tb}{ch:List Cg}(h:WF F w o t ag limit T ch)(x:Ext w w'):WF F w' o t ag limit T ch:=h.same λ_ hi=>x.heap (h.lt hi)
def WF.bP{F G:Nat->Prop}{w w':World}{o t:Nat}{ag limit:Int}{T:Tb}{ch:List Cg}(h:WF F w o t ag limit T ch)(hm:Mod G w w')(hn:∀i,F i->¬G i):WF F w' o t ag limit T ch:=h.same λi hi=>hm.same i (h.lt hi) (hn i hi)
def WF.cX{F:Nat->Prop}{w:World}{o t:Nat}{ag limit:Int}{T:Tb}{ch:List Cg}(h:WF F w o t ag limit T ch){j:Nat}{cs:LV}{τ:TypeId}(hr:Row w j cs τ)(hτ:uK τ)(hw:τ≠pj)(hc:τ≠eT):¬F j:=by
 obtain ⟨F1,sc,h1,h2,h3,rfl⟩:=h;rintro (hi|rfl|hi)
 ·exact h1.cX hr hτ hi
 ·exact hr.ne h2 hw rfl
 ·obtain ⟨cs',hr'⟩:=aN h3 aE hi;exact hr.ne hr' hc rfl
abbrev QB(F:Nat->Prop)(w:World)(o t:Nat)(ag limit:Int)(T:Tb)(ch:List Cg)(w':World):Prop:=∃F',WF F' w' o t ag limit T ch/\aG F F' w w'
def WF.table{F:Nat->Prop}{w:World}{o t:Nat}{ag limit:Int}{T:Tb}{ch:List Cg}(h:WF F w o t ag limit T ch):∃F1,TF F1 w t ag limit T/\(∀i,F1 i->F i)/\∀{w':World} {T':Tb},QC F1 w t ag limit T' w'->QB F w o t ag limit T' ch w':=by
 obtain ⟨F1,sc,h1,h2,h3,rfl⟩:=h;refine ⟨F1,h1,λi hi=> .inl hi,?_⟩;rintro w' T' ⟨F',h',ht⟩;have n2:=h1.cX h2 aE;have n3:∀b,sc.bg=some b->¬F1 b:=λb hb=>by obtain ⟨cs',hr'⟩:=aN h3 aE hb;exact h1.cX hr' aE
 refine ⟨_,⟨F',sc,h',ht.mod.row h2 n2,ht.mod.gQ h3 n3,rfl⟩,ht.mod.mono λi _ hi=> .inl hi,λi hi=> ?_⟩;rcases hi with hi|hi|hi
 ·exact (ht.sub i hi).imp .inl id
 ·exact .inl (.inr (.inl hi))
 ·exact .inl (.inr (.inr hi))
def Nk(ag limit room:Int)(w:World):ah 35 #[ag,limit,room] w λe w'=>∃o t F,e=Value.pointer (bu o)/\WF F w' o t ag (min (max limit 1) 16) (jN room,[]) []/\Ext w w'/\∀i,F i->w.heap.size<=i:=by
 apply Nl.vc;refine (JE ag limit room w).mono ?_;rintro e w0 ⟨t,F1,rfl,h0,x0,f0⟩;refine ⟨_,rfl,λw2 e2=>⟨w0.heap.size,t,_,rfl,⟨F1,⟨none,0,0⟩,h0.ext (bq e2),?_,ak.nil,rfl⟩,x0.ay e2,λi hi=> ?_⟩⟩
 ·rw [e2];exact Row.new w0 [_,_] _
 ·rcases hi with hi|hi|hi
  ·exact f0 i hi
  ·have:=x0.size;omega
  ·cases hi
def vX{F:Nat->Prop}{w:World}{o t:Nat}{ag limit:Int}{T:Tb}{ch:List Cg}(h:WF F w o t ag limit T ch):ah 37 #[o] w λe w'=>e=Value.pointer (bu t)/\w'=w:=by obtain ⟨F1,sc,h1,h2,h3,rfl⟩:=h;apply sK.vc;exact ⟨_,h2.at 0 rfl,rfl,rfl⟩
def rh{F:Nat->Prop}{w:World}{o t:Nat}{ag limit:Int}{T:Tb}{ch:List Cg}(h:WF F w o t ag limit T ch):ah 11 #[o] w λe w'=>e=Value.func (.func 43) #[t] #[]/\w'=w:=by obtain ⟨F1,sc,h1,h2,h3,rfl⟩:=h;apply uL.vc;exact ⟨_,h2.at 0 rfl,rfl,rfl⟩
def xe(l:List En)(ch:List Cg)(c:Ce)(b:Int):List Cg:=if (cj l c b).2=0/\ey l c≠b then ch++ [(c,b)] else ch
def QD(a b c d:Int):One [Value.int .i64 a,b,c,d]:=by intro v hv;simp at hv;rcases hv with rfl|rfl|rfl|rfl<;>rfl
def Nn{F:Nat->Prop}{w:World}{o t:Nat}{ag limit:Int}{T:Tb}{ch:List Cg}(h:WF F w o t ag limit T ch)(c:Ce)(hc:mA c)(b:Int)(hn:ch.length<=1000000):
  ah 27 #[o,iS c,.int .i64 b] w λe w'=>e=Value.int .i64 (cj T.2 c b).2/\QB F w o t ag limit (T.1,(cj T.2 c b).1) (xe T.2 ch c b) w':=by
 have hF:=λ{i}=>h.lt (i:=i)
 have hh:=h;obtain ⟨F1,sc,h1,h2,h3,rfl⟩:=h;apply xg.vc;intro w0 e0;have z0:=du e0;have x0:Ext w w0.drew:=(bq e0).drew;have zd:=lW w0;refine ⟨_,(h2.ext x0).at 0 rfl,(Cy (h1.ext x0) c hc).mono ?_⟩;rintro e w2 ⟨rfl,x2⟩;have z2:=x2.size;have Dl:=(x0.tr x2).drew;have zd2:=lW w2;refine ⟨_,rfl,x2.heap aa,_,(h2.ext Dl).at 0 rfl,(JF (h1.ext Dl) c hc b).mono ?_⟩;rintro e w5 ⟨rfl,hT⟩;obtain ⟨F',hF',ht'⟩:=hT;have z5:=ht'.mod.size;have n2:=(h1.ext Dl).cX (h2.ext Dl) aE;have n3:∀b,sc.bg=some b->¬F1 b:=λb hb=>by obtain ⟨cs',hr'⟩:=aN (h3.ext Dl) aE hb;exact (h1.ext Dl).cX hr' aE
 have UO:=ht'.mod.row (h2.ext Dl) n2;have XV:ak 0 eT 4 w5 sc (ch.map Qb):=ht'.mod.gQ (h3.ext Dl) n3;have nb:¬F1 w:=λhf=>by have:=hF (.inl hf);omega
 have tt:aG (λi=>F1 i\/i=o\/sc.bg=some i) (λi=>F' i\/i=o\/sc.bg=some i) w w5:=by
  refine (aG.aM Dl).trans ⟨ht'.mod.mono λi _ hi=> .inl hi,λi hi=> ?_⟩;rcases hi with hi|hi|hi
  ·exact (ht'.sub i hi).imp .inl id
  ·exact .inl (.inr (.inl hi))
  ·exact .inl (.inr (.inr hi))
 refine ⟨_,rfl,ht'.mod.same _ aa nb,Br.mk (λhb=>Br.mk (λfi=> ?_) (λfi=> ?_)) (λhb=> ?_)⟩
 ·simp only [beq_iff_eq] at hb;simp only [bne_iff_ne] at fi;have ec:xe T.2 ch c b=ch++ [(c,b)]:=by unfold xe;rw [if_pos ⟨hb,fi⟩]
  rw [ec];have h2d:=UO.ext (Ext.dr w5);have j6:sc.n=ch.length:=by have:=(h3.rd (show 0<4 by decide)).n;rwa [aB] at this
  refine ⟨sc,h2d.at 1 rfl,λw8 e8=> ?_⟩;subst e8;obtain ⟨hp,aS⟩:=(XV.ext (Ext.dr w5)).kD (bytes:=32) (news:=Qb (c,b)) (.cells #[c.1,c.2.1,c.2.2,.int .i64 b] eT) (fm _) rfl (QD _ _ _ _) aa aa;refine ⟨hp,λs9 bL hr=> ?_⟩;obtain ⟨f1,Lz,adk,xb,ahh,gX⟩:=aS s9 bL hr;have zd5:=lW w5;have xN:=h2.lt;have ahi:∀b,sc.bg=some b->b<w.heap.size:=λb hb=>(h3.own.lt hb).2
  have UP:Mod (λj=>sc.bg=some j) w5 bL:=(Mod.aM (Ext.dr w5)).trans (Mod.ri xb ahh);have no:¬sc.bg=some o:=λe=>by obtain ⟨cs',hr'⟩:=aN h3 aE e;exact hr'.ne h2 aE rfl
  have adl:=UP.row UO no;obtain ⟨p1,p2⟩:=adl.kE (j:=1) (v:=.slice s9.a s9.n s9.c) cy rfl;have z10:=UP.size;have pb:∀j:Nat,o<j->cQ (ae (bu o) 1)≠some j:=λj hj e=>by
   rw [da] at e;have:o=j:=by simpa [cQ] using e
   omega
  refine ⟨(UP.same w aa (λe=>by have:=ahi _ e;omega)).trans ((Ext.al w5.drew _).heap (show w.heap.size<w5 by omega)).symm,f1,⟨rfl,p1⟩,pb _ aa,pb _ (show o<w5 by omega),λcH B2=>⟨rfl,?_⟩⟩;obtain ⟨q1,q2⟩:=p2 cH B2;have Pr:∀b,s9.bg=some b->b≠o:=λb hb=>by obtain ⟨cs',hr'⟩:=aN Lz aE hb;exact hr'.ne adl aE
  have m11:Mod (λj=>j=o\/sc.bg=some j) w5 cH:=(UP.mono λi _ hi=> .inr hi).trans (q2.mono λi _ hi=> .inl hi);have ahj:TF F' cH t ag limit (T.1,(cj T.2 c b).1):=hF'.bP m11 λi hi e=>by
   rcases e with e|e
   ·exact hF'.cX UO aE (e▸hi)
   ·obtain ⟨cs',hr'⟩:=aN XV aE e;exact hF'.cX hr' aE hi
  refine ⟨_,⟨F',s9,ahj,q1,?_,rfl⟩,tt.trans ⟨m11.mono λi _ hi=> .inr hi,λi hi=> ?_⟩⟩
  ·rw [aT];exact q2.gQ Lz Pr
  ·rcases hi with hi|hi|hi
   ·exact .inl (.inl hi)
   ·exact .inl (.inr (.inl hi))
   ·rcases gX with e|e
    ·exact .inl (.inr (.inr (by rw [<-e];exact hi)))
    ·rw [e] at hi;cases hi;exact .inr (show w5.heap.size<=w5.heap.size+1 by omega)
 ·simp only [bne_eq_false_iff_eq] at fi;have ec:xe T.2 ch c b=ch:=by unfold xe;rw [if_neg λh=>h.2 fi]
  rw [ec];exact ⟨rfl,_,⟨F',sc,hF',UO,XV,rfl⟩,tt⟩
 ·simp only [beq_eq_false_iff_ne] at hb;have ec:xe T.2 ch c b=ch:=by unfold xe;rw [if_neg λh=>hb h.1]
  rw [ec];exact ⟨rfl,_,⟨F',sc,hF',UO,XV,rfl⟩,tt⟩
def Vr(l:List En)(ch:List Cg)(c:Ce)(b:Int):(xe l ch c b).length<=ch.length+1:=by
 unfold xe;split
 ·simp
 ·omega
abbrev rQ(q:Po):LV:=[.int .i64 q.1,.int .i64 q.2]
def gR(p:Po):List Po:=[p,(p.1-1,p.2),(p.1+1,p.2),(p.1,p.2-1),(p.1,p.2+1)]
def DG(p:Po)(hp:Fm p)(w:World):ah 136 #[pv p] w λe w'=>e=Value.agg #[p.1,p.2,.int .i64 (p.1-1),p.2,.int .i64 (p.1+1),p.2,p.1,.int .i64 (p.2-1),p.1,.int .i64 (p.2+1)]/\Ext w w':=by
 apply FV.vc;obtain ⟨⟨p1,p2⟩,p3,p4⟩:=hp;have q1:ai (p.1-1)=p.1-1:=wI;have q2:ai (p.1+1)=p.1+1:=wI;have q3:ai (p.2-1)=p.2-1:=wI;have q4:ai (p.2+1)=p.2+1:=wI;rw [q1,q2,q3,q4];intro w0 e0 w1 e1;have z0:=du e0;have x1:Ext w w1:=(bq e0).ay e1;have hr:Row w1 w0 [af,af,af,af,af,af,af,af,af,af] 202:=Row.nw e1;refine ⟨⟨rfl,hr.wr cy⟩,λe=>by
  have:w0.heap.size=w.heap.size:=by simpa [cQ] using e
  omega,λw2 e2=> ?_⟩
 have h1:One [Value.int .i64 p.1,p.2,.int .i64 (p.1-1),p.2,.int .i64 (p.1+1),p.2,p.1,.int .i64 (p.2-1),p.1,.int .i64 (p.2+1)]:=by intro v hv;simp only [bI,fS,or_false] at hv;rcases hv with rfl|rfl|rfl|rfl|rfl|rfl|rfl|rfl|rfl|rfl<;>rfl
 rw [hr.aZ cy h1] at e2;have mK:Row w2 w0 [p.1,p.2,.int .i64 (p.1-1),p.2,.int .i64 (p.1+1),p.2,p.1,.int .i64 (p.2-1),p.1,.int .i64 (p.2+1)] 202:=hr.st e2;exact ⟨_,_,_,_,_,_,_,_,_,_,mK.bk (λj hj=>by rw [cO]),rfl,x1.ab e2 aa⟩
def Bz(s:Sl)(ps:List Po)(p:Po)(w:World)(hs:RdK w s 2 (ps.map rQ))(hn:ps.length<=1000):
  ah 184 #[s,pv p] w λe w'=>(∃r:Int,e=r/\(0<=r ↔ p ∈ ps))/\Ext w w':=by
 apply uM.vc;have j6:=hs.n;rw [aB] at j6;intro w0 e0;have x0:=bq e0;refine ⟨λn x w'=>∃j:Nat,x=j/\j+n=ps.length/\Ext w w'/\p ∉ ps.take j,⟨ps.length,rfl,0,rfl,by omega,x0,by simp⟩,?_⟩;rintro n us x w5 ⟨j,rfl,hj,x5,hnp⟩;apply Br.mk<;>intro hb
 ·replace hb:=fj hb;obtain ⟨y,hy⟩:=bh (l:=ps) (i:=j) aa;have eZ:=hs.ext (x5.tr (Ext.dr _));refine ⟨hs.fN (i:=(j:Int)) aE aa hb,y.1,y.2,eZ.bk (i:=j) (r:=rQ y) (by rw [aX,hy];rfl),Br.mk (λh1=> ?_) (λh1=> ?_)⟩
  ·simp only [gy,beq_iff_eq] at h1;have:p=y:=Prod.ext h1.1 h1.2;exact ⟨⟨_,rfl,λ_=>by rw [this];exact bc hy,λ_=>by omega⟩,x5.tr (Ext.dr _)⟩
  ·have wk:=lD (j:=j);refine ⟨n-1,by omega,rfl,j+1,wk,by omega,x5.tr (Ext.dr _),?_⟩;rw [cu,hy];intro hm;rcases ct.1 hm with hm|hm
   ·exact hnp hm
   ·simp only [Option.toList_some,fH] at hm;subst hm;simp at h1
 ·replace hb:=fh hb;rw [dn aa] at hnp;exact ⟨⟨-1,rfl,λh=>by omega,λh=>absurd h hnp⟩,x5⟩
def uN(s:Sl)(ps:List Po)(p:Po)(w:World)(hs:RdK w s 2 (ps.map rQ))(hn:ps.length<=1000):
  ah 137 #[s,pv p] w λe w'=>e=Value.bool (decide (p ∈ ps))/\Ext w w':=by
 apply qA.vc;intro w0 e0;have z0:=du e0;have x0:=bq e0;refine (Bz s ps p w0 (hs.ext x0) hn).mono ?_;rintro e w1 ⟨⟨r,rfl,hr⟩,x1⟩;refine ⟨r,rfl,x1.heap aa,?_,x0.tr x1⟩;have:decide (r>=0)=decide (p ∈ ps):=by rw [decide_eq_decide];exact hr
 rw [this]
def Vs{c:Ce}(hc: -1000000000<=c.1/\c.1<=1000000000)(hz: -1000000000<=c.2.2/\c.2.2<=1000000000):Fm (pos c):=by unfold Fm pos;simp only;omega
def lE(l:List En)(c:Ce):Bool:=(gR (pos c)).all λq=>decide (q ∈ l.map (·.1))
def FW{F:Nat->Prop}{w:World}{o t:Nat}{ag limit:Int}{T:Tb}{ch:List Cg}(h:WF F w o t ag limit T ch)(c:Ce)(hc:mA c)(hp:Fm (pos c)):
  ah 91 #[o,iS c] w λe w'=>e=Value.bool (lE T.2 c)/\Ext w w':=by
 obtain ⟨F1,sc,hT,hR,hO,rfl⟩:=h;apply sL.vc;have dY:=hT.len;intro w1 e1;have z1:=du e1;have x1:=bq e1;refine ⟨_,(hR.ext x1).at 0 rfl,(FX (hT.ext x1)).mono ?_⟩;rintro e w2 ⟨s',rfl,ho,x2⟩;have z2:=x2.size;have eZ:RdK w2 s' 2 ((T.2.map (·.1)).map rQ):=by rw [kd];exact ho.rd (show 0<2 by decide)
 refine ⟨s',rfl,x2.heap aa,(mi c hc w2).mono ?_⟩;rintro e w4 ⟨rfl,x4⟩;have z4:=x4.size;refine ⟨_,_,rfl,x4.heap aa,(DG (pos c) hp w4).mono ?_⟩;rintro e w7 ⟨rfl,x7⟩;have z7:=x7.size;have cP:=x1.tr (x2.tr (x4.tr x7));unfold lE;generalize pos c=p at*;have hpl:(T.2.map (·.1)).length<=1000:=by rw [aB];omega
 generalize T.2.map (·.1)=ps at*;refine ⟨_,_,_,_,_,_,_,_,_,_,rfl,x7.heap aa,λn x w'=>∃j:Nat,x=j/\j+n=5/\Ext w7 w'/\∀q ∈(gR p).take j,q ∈ ps,⟨5,rfl,0,rfl,rfl,Ext.ck _,by simp⟩,?_⟩;rintro n us x eg ⟨j,rfl,hj,cW,jD⟩;have z25:=cW.size;apply Br.mk<;>intro hb
 ·replace hb:=fj hb;have hex:∃q:Po,(([p.1,p.2,.int .i64 (p.1-1),p.2,.int .i64 (p.1+1),p.2,p.1,.int .i64 (p.2-1),p.1,.int .i64 (p.2+1)]:LV).drop (((j:Nat):Int).toNat*2)).take 2=[.int .i64 q.1,.int .i64 q.2]/\(gR p)[j]? =some q:=by
   have:j=0\/j=1\/j=2\/j=3\/j=4:=by omega
   rcases this with rfl|rfl|rfl|rfl|rfl
   ·exact ⟨p,rfl,rfl⟩
   ·exact ⟨(p.1-1,p.2),rfl,rfl⟩
   ·exact ⟨(p.1+1,p.2),rfl,rfl⟩
   ·exact ⟨(p.1,p.2-1),rfl,rfl⟩
   ·exact ⟨(p.1,p.2+1),rfl,rfl⟩
  obtain ⟨q,hq1,hq2⟩:=hex;refine ⟨⟨by omega,by omega⟩,q.1,q.2,hq1,λfJ MQ g8 e30=> ?_⟩;have oL:Ext eg g8:=(bq MQ).ab e30 (ax _);have z30:g8.heap.size=eg.heap.size+1:=by rw [e30,setRow_size,MQ];simp
  have xx:Ext w2 g8:=x4.tr (x7.tr (cW.tr oL));refine (uN s' ps q g8 (eZ.ext xx) hpl).mono ?_;rintro e ig ⟨rfl,iK⟩;have wk:=lD (j:=j);refine ⟨_,rfl,iK.heap aa,iK.heap aa,Br.mk (λh1=> ?_) (λh1=> ?_)⟩
  ·refine ⟨?_,cP.tr ((cW.tr oL).tr iK)⟩;have hnq:q ∉ ps:=by simpa using h1
   have:((gR p).all λq=>decide (q ∈ ps))=false:=by rw [List.all_eq_false];exact ⟨q,bc hq2,by simpa using hnq⟩
   rw [this]
  ·have hyq:q ∈ ps:=by simpa using h1
   refine ⟨n-1,by omega,rfl,j+1,wk,by omega,(cW.tr oL).tr iK,?_⟩;rw [cu,hq2];intro y hy;rcases ct.1 hy with hy|hy
   ·exact jD y hy
   ·simp only [Option.toList_some,fH] at hy;subst hy;exact hyq
 ·replace hb:=fh hb;refine ⟨?_,cP.tr cW⟩;rw [dn (show (gR p).length<=j by unfold gR;simp;omega)] at jD;have:((gR p).all λq=>decide (q ∈ ps))=true:=by rw [yZ];exact λq hq=>by simpa using jD q hq
  rw [this]
end Go.Proofs.YtalpkjfpmdpbiaaGreatDoor
namespace Go.Proofs.YtalpkjfpmdpbiaaGreatDoor
open Go Go.Vc Go.RowKit Go.Proofs Go.dQ Go.bf Go.Code
section
variable {N F F':Nat->Prop} {w w' v v':World} {s1 s2 s3 s4:Sl} {T T':Tb} {ch ch':List Cg} {ag cap limit:Int} {o t a b m n k:Nat}
def WF.okt(h:WF F w o t ag cap T ch)(hi:Iv m n T)(hm:m<=400000):qS T:=by obtain ⟨F1,hT,-⟩:=h.table;exact hT.okt hi hm
def wE(h:WF F w o t ag limit T ch)(hW:T.1.l.length<=1000000)(p:Po):
  ah 38 #[t,pv p] w λe w'=>e=Value.int .i64 (oD ag limit T.1 T.2 p).2/\QB F w o t ag limit (oD ag limit T.1 T.2 p).1 ch w':=by
 obtain ⟨F1,hT,-,aS⟩:=h.table;refine (Hp hT hW p).mono ?_;rintro e w' ⟨rfl,hr⟩;exact ⟨rfl,aS hr⟩
def BN(h:WF F w o t ag limit T ch)(hW:T.1.l.length<=1000000)(p:Po):
  ah 65 #[t,pv p] w λe w'=>e=Value.int .i64 (fI T.1 T.2 p).2/\QB F w o t ag limit (fI T.1 T.2 p).1 ch w':=by
 obtain ⟨F1,hT,-,aS⟩:=h.table;refine (BO hT hW p).mono ?_;rintro e w' ⟨rfl,hr⟩;exact ⟨rfl,aS hr⟩
def Ox(h:WF F w o t ag limit T ch)(c:Ce)(hc:mA c):
  ah 43 #[t,iS c] w λe w'=>e=Value.int .i64 (ey T.2 c)/\Ext w w':=by
 obtain ⟨F1,hT,-⟩:=h.table;exact Cy hT c hc
def WF.fw(h:WF F w o t ag cap T ch)(hN:Fw N w):Fw (Nf N F) w:=λi hi=>⟨λq=>by have:=h.lt q;omega,hN i hi⟩
set_option maxRecDepth 100000 in
def WF.acX{F:Nat->Prop}{w:World}{T:Tb}{ch:List Cg}{ag limit:Int}{o t:Nat}(h:WF F w o t ag limit T ch){w':World}(hk:∀i,F i->w'.heap[i]? =w.heap[i]?)(c:Ce)(hc:mA c):
  dH Tryz.prog (.func (.func 43) #[t] #[]) [iS c] w' λe w''=>e=Value.int .i64 (ey T.2 c)/\Ext w' w'':=
 jt (by kernel_rfl) rfl (Ox (h.same hk) c hc)
end
def Lo.wv{w:World}{g:Nat}{cs:LV}{τ:TypeId}(h:Row w g cs τ):av w (bu g) 0 cs:=h.bk (λj hj=>by rw [cO])
end Go.Proofs.YtalpkjfpmdpbiaaGreatDoor
