import Derived.Test.YtalpkjfpmdpbiaaGreatDoorYA
import Derived.Test.YtalpkjfpmdpbiaaGreatDoorWA
import Derived.Test.YtalpkjfpmdpbiaaGreatDoorQA
import Derived.Test.YtalpkjfpmdpbiaaGreatDoorWB
set_option linter.all false
namespace Go.Proofs.YtalpkjfpmdpbiaaGreatDoor
open Go Go.Vc Go.RowKit Go.Proofs Go.dS Go.bh Go.Code Go.km Go.iQ
abbrev pc:TypeId:=98
structure Sm where
 ag:Int
 cap:Int
 T:Tb
 ch:List Go.iQ.Cg
 q:QS
 aO:Int
 now:Int
 dK:List Ce
abbrev Vo(g o:Nat)(M:Sm)(occ:Value)(sd:Sl):LV:=[g,o,.int .i64 M.aO,.int .i64 M.now,occ,.slice sd.a sd.n sd.c]
def SF(F:Nat->Prop)(w:World)(s o t:Nat)(M:Sm)(occ:Value):Prop:=
 ∃g m qs Fw sd,Row w s (Vo g o M occ sd) pc/\Q.qU w g m qs M.q/\xR M.q/\WF Fw w o t M.ag M.cap M.T M.ch/\aj 0 gz 3 w sd (M.dK.map dn)/\(∀i,Q.gW g m qs i->¬Fw i)/\F=λi=>i=s\/Q.gW g m qs i\/Fw i\/sd.bj=some i
section
variable {F F':Nat->Prop} {w w':World} {s o t:Nat} {M M':Sm} {occ:Value}
def SF.lt(h:SF F w s o t M occ){i:Nat}(hi:F i):i<w:=by
 obtain ⟨g,m,qs,Fw,sd,h1,h2,-,h3,h4,-,rfl⟩:=h;rcases hi with rfl|hi|hi|hi
 ·exact h1.lt
 ·exact h2.lt i hi
 ·exact h3.lt hi
 ·exact (h4.own.lt hi).2
def SF.same(h:SF F w s o t M occ)(hk:∀i,F i->w'.heap[i]? =w.heap[i]?):SF F w' s o t M occ:=by obtain ⟨g,m,qs,Fw,sd,h1,h2,hq,h3,h4,h5,rfl⟩:=h;obtain ⟨kvs,m1,m2⟩:=h2.map;exact ⟨g,m,qs,Fw,sd,h1.same (hk _ (.inl rfl)),⟨h2.row.same (hk _ (.inr (.inl (.inl rfl)))),aj.bM h2.own λb hb=>hk b (.inr (.inl (.inr (.inr hb)))),kvs,m1.same (hk _ (.inr (.inl (.inr (.inl rfl))))),m2⟩,hq,h3.same λi hi=>hk i (.inr (.inr (.inl hi))),aj.bM h4 λb hb=>hk b (.inr (.inr (.inr hb))),h5,rfl⟩
def SF.ext(h:SF F w s o t M occ)(x:Ext w w'):SF F w' s o t M occ:=h.same λ_ hi=>x.heap (h.lt hi)
def SF.cF(h:SF F w s o t M occ){j:Nat}{cs:LV}{τ:TypeId}(hr:Row w j cs τ)(h1:oZ τ)(h2:τ≠mE)(h3:τ≠eH)(h4:τ≠pc)(h5:τ≠Q.ig)(h6:τ≠Q.bT)(hj:∀(g:Nat)(sd:Sl),Row w s (Vo g o M occ sd) pc->sd.bj≠some j):¬F j:=by
 obtain ⟨g,m,qs,Fw,sd,r1,r2,-,r3,r4,-,rfl⟩:=h;rintro (hi|hi|hi|hi)
 ·exact hr.ne r1 h4 hi
 ·exact r2.cF hr h5 h6 hi
 ·exact r3.cF hr h1 h2 h3 hi
 ·exact hj g sd r1 hi
def SF.oe(h:SF F w s o t M occ){j:Nat}{cs:LV}{τ:TypeId}(hr:Row w j cs τ)(h1:oZ τ)(h2:τ≠mE)(h3:τ≠eH)(h4:τ≠pc)(h5:τ≠Q.ig)(h6:τ≠Q.bT)(h7:τ≠gz):¬F j:=by
 obtain ⟨g,m,qs,Fw,sd,r1,r2,-,r3,r4,-,rfl⟩:=h;rintro (hi|hi|hi|hi)
 ·exact hr.ne r1 h4 hi
 ·exact r2.cF hr h5 h6 hi
 ·exact r3.cF hr h1 h2 h3 hi
 ·obtain ⟨cs',hr'⟩:=aM r4 aC hi;exact hr.ne hr' h7 rfl
abbrev jM(F:Nat->Prop)(w:World)(s o t:Nat)(M:Sm)(occ:Value)(w':World):Prop:=∃F',SF F' w' s o t M occ/\aG F F' w w'
def SF.world(h:SF F w s o t M occ):∃Fw,WF Fw w o t M.ag M.cap M.T M.ch/\(∀i,Fw i->F i)/\∀{w':World} {T':Tb} {ch':List Go.iQ.Cg},Q6 Fw w o t M.ag M.cap T' ch' w'->jM F w s o t {M with T:=T',ch:=ch'} occ w':=by
 obtain ⟨g,m,qs,Fw,sd,h1,h2,hq,h3,h4,h5,rfl⟩:=h;refine ⟨Fw,h3,λi hi=> .inr (.inr (.inl hi)),?_⟩;rintro w' T' ch' ⟨F',h',ht⟩;have n1:=h3.cF h1 aC aC aC;have n2:∀i,Q.gW g m qs i->¬Fw i:=h5;have n4:∀b,sd.bj=some b->¬Fw b:=λb hb=>by obtain ⟨cs',hr'⟩:=aM h4 aC hb;exact h3.cF hr' aC aC aC
 refine ⟨_,⟨g,m,qs,F',sd,ht.mod.row h1 n1,h2.bM ht.mod n2,hq,h',ht.mod.gK h4 n4,?_,rfl⟩,ht.mod.mono λi _ hi=> .inr (.inr (.inl hi)),λi hi=> ?_⟩
 ·exact λi hi hf=>ht.apart (G:=Q.gW g m qs) (λi hi hg=>h5 i hg hi) (λi hi=>h2.lt i hi) i hf hi
 ·rcases hi with hi|hi|hi|hi
  ·exact .inl (.inl hi)
  ·exact .inl (.inr (.inl hi))
  ·exact (ht.sub i hi).imp (λh=> .inr (.inr (.inl h))) id
  ·exact .inl (.inr (.inr (.inr hi)))
def SF.queue(h:SF F w s o t M occ):∃g m qs,Q.qU w g m qs M.q/\xR M.q/\(∃sd,Row w s (Vo g o M occ sd) pc)/\(∀i,Q.gW g m qs i->F i)/\∀{w':World} {qs':Sl} {q':QS},Q.qU w' g m qs' q'->xR q'->aG (Q.gW g m qs) (Q.gW g m qs') w w'->jM F w s o t {M with q:=q'} occ w':=by
 obtain ⟨g,m,qs,Fw,sd,h1,h2,hq,h3,h4,h5,rfl⟩:=h;refine ⟨g,m,qs,h2,hq,⟨sd,h1⟩,λi hi=> .inr (.inl hi),?_⟩;rintro w' qs' q' h' hq' ht;have n1:=h2.cF h1 aC aC;have n3:∀i,Fw i->¬Q.gW g m qs i:=λi hi hf=>h5 i hf hi
 have n4:=h2.S6 h4 aC aC aC;refine ⟨_,⟨g,m,qs',Fw,sd,ht.mod.row h1 n1,h',hq',h3.bM ht.mod n3,ht.mod.gK h4 n4,?_,rfl⟩,ht.mod.mono λi _ hi=> .inr (.inl hi),λi hi=> ?_⟩
 ·exact λi hi hf=>ht.apart (G:=Fw) (λi hi hg=>h5 i hi hg) (λi hi=>h3.lt hi) i hi hf
 ·rcases hi with hi|hi|hi|hi
  ·exact .inl (.inl hi)
  ·exact (ht.sub i hi).imp (λh=> .inr (.inl h)) id
  ·exact .inl (.inr (.inr (.inl hi)))
  ·exact .inl (.inr (.inr (.inr hi)))
def SF.row(h:SF F w s o t M occ):∃g sd,Row w s (Vo g o M occ sd) pc/\aj 0 gz 3 w sd (M.dK.map dn)/\F s/\(∀b,sd.bj=some b->F b)/\∀{w':World} {M':Sm} {occ':Value} {sd':Sl},M'.ag=M.ag->M'.cap=M.cap->M'.T=M.T->M'.ch=M.ch->M'.q=M.q->Mod (λi=>i=s\/sd.bj=some i) w w'->Row w' s (Vo g o M' occ' sd') pc->aj 0 gz 3 w' sd' (M'.dK.map dn)->(∀b,sd'.bj=some b->sd.bj=some b\/w.heap.size<=b)->jM F w s o t M' occ' w':=by
 obtain ⟨g,m,qs,Fw,sd,h1,h2,hq,h3,h4,h5,rfl⟩:=h;refine ⟨g,sd,h1,h4,.inl rfl,λb hb=> .inr (.inr (.inr hb)),?_⟩;rintro w' M' occ' sd' e1 e2 e3 e4 e5 hm hr hd eI;have q1:=h2.cF h1 aC aC;have q2:=h2.S6 h4 aC aC aC;have r1:=h3.cF h1 aC aC aC;have r2:∀b,sd.bj=some b->¬Fw b:=λb hb=>by obtain ⟨cs',hr'⟩:=aM h4 aC hb;exact h3.cF hr' aC aC aC
 refine ⟨_,⟨g,m,qs,Fw,sd',hr,by rw [e5];exact h2.bM hm λi hi hf=>hf.elim (λe=>q1 (e▸hi)) (λe=>q2 _ e hi),by rw [e5];exact hq,by rw [e1,e2,e3,e4];exact h3.bM hm λi hi hf=>hf.elim (λe=>r1 (e▸hi)) (λe=>r2 _ e hi),hd,h5,rfl⟩,hm.mono λi _ hi=>hi.elim .inl (λe=> .inr (.inr (.inr e))),λi hi=> ?_⟩;rcases hi with hi|hi|hi|hi
 ·exact .inl (.inl hi)
 ·exact .inl (.inr (.inl hi))
 ·exact .inl (.inr (.inr (.inl hi)))
 ·exact (eI i hi).imp (λh=> .inr (.inr (.inr h))) id
end
end Go.Proofs.YtalpkjfpmdpbiaaGreatDoor
namespace Go.Proofs.YtalpkjfpmdpbiaaGreatDoor
open Go Go.Vc Go.RowKit Go.Proofs Go.dS Go.bh Go.Code Go.km Go.iQ
def gw(M:Sm)(c:Ce)(b:Int):Sm:={M with T:=(M.T.1,(cr M.T.2 c b).1),ch:=xE M.T.2 M.ch c b,q:=if (cr M.T.2 c b).2=0 then oJ (eB (cr M.T.2 c b).1) M.now M.q c else M.q}
def bB(M:Sm)(x:Go.iQ.Cg):Sm:=if eB M.T.2 x.1=x.2 then M else gw M x.1 x.2
def pI(O:Ce->Bool)(M:Sm)(c:Ce):Bool:=decide (eB M.T.2 c=3) &&(!(jq (eB M.T.2) c).isEmpty && O (bz c))
def g9(O:Ce->Bool)(M:Sm)(c:Ce):Sm:=
 if lD M.T.2 c=false then {M with q:=(fc M.q c (M.now+1)).1}
 else if pI O M c=true then bB {M with dK:=M.dK++ [bz c]} (c,0)
 else (jq (eB M.T.2) c).foldl bB M
def nh(M:Sm):Int:=min (M.now+1) 1099511627776
def jv(M:Sm):Sm:={M with now:=nh M,q:=(ue M.q (nh M) M.aO).1}
def mH(M:Sm):List Ce:=(ue M.q (nh M) M.aO).2
def fN(O:Ce->Bool)(M:Sm):Sm:=(mH M).foldl (g9 O) (jv M)
def fG:List Po:=[(0,0),(-1,0),(1,0),(0,-1),(0,1)]
def l5(ag:Int)(k:Nat):List En:=(fG.take k).map λp=>(p,made ag p,false,0)
structure Hs(l:List En)(V:Ce->Int):Prop where
 n:iS l
 g:wS l
 h:∀p,oP l p ↔ p ∈ fG
 v:∀c,eB l c=V c
def nS(V:Ce->Int)(c:Ce)(b:Int):Ce->Int:=λc'=>if c'=c then b else V c'
def Hs.set{l:List En}{V:Ce->Int}(h:Hs l V){c:Ce}(hp:pos c ∈ fG)(hy:k8 c){b:Int}(hb:ba b=true):(cr l c b).2=0/\Hs (cr l c b).1 (nS V c b):=by obtain ⟨e1,e2,e3,e4⟩:=HM h.n h.g ((h.h _).2 hp) hy hb;exact ⟨e1,e2,Ha h.g c b,λp=>(e3 p).trans (h.h p),λc'=>by rw [e4,h.v];rfl⟩
def ZZ{l:List En}{V:Ce->Int}(h:Hs l V){c:Ce}(hc:pos c=(0,0)):lD l c=true:=by unfold lD;rw [hc,zw];intro q hq;have hq:q ∈ fG:=hq;obtain ⟨e,he,rfl⟩:=(h.h q).2 hq;exact decide_eq_true (aS.2 ⟨e,he,rfl⟩)
def Ls(s x z:Int):ground s x z<=14:=by
 unfold ground;have hu:0<=x % 8/\x % 8<=8:=by omega
 have hv:0<=z % 8/\z % 8<=8:=by omega
 generalize x % 8=u at*;generalize z % 8=v at*;have key:∀{c w:Int},(0<=c/\c<=8)->0<=w->c*w<=8*w:=λh1 h2=>Int.mul_le_mul_of_nonneg_right h1.2 h2
 have w1:0<=(8-u)*(8-v):=oG aa aa;have w2:0<=u*(8-v):=oG aa aa;have w3:0<=(8-u)*v:=oG aa aa;have w4:0<=u*v:=oG aa aa;have a:=key (dm s (x / 8) (z / 8)) w1;have b:=key (dm s (x / 8+1) (z / 8)) w2;have c:=key (dm s (x / 8) (z / 8+1)) w3;have d:=key (dm s (x / 8+1) (z / 8+1)) w4;have e:(8-u)*(8-v)+u*(8-v)+(8-u)*v+u*v=64:=by simp only [Int.sub_mul,Int.mul_sub];omega
 omega
def Z3(ag:Int):(l5 ag 5).map (·.1)=fG:=by unfold l5;rw [kj];rfl
def An(ag:Int):iS (l5 ag 5):=by unfold iS;rw [Z3];decide
def adM(ag:Int){c:Ce}(hy:k8 c)(hp:pos c ∈ fG):eB (l5 ag 5) c=BL c.2.1 (ground ag c.1 c.2.2):=by have hn:=An ag;have he:(pos c,made ag (pos c),false,(0:Int)) ∈ l5 ag 5:=aS.2 ⟨pos c,hp,rfl⟩;rw [qL hn he rfl,if_neg (by unfold k8 at hy;omega)];have hk:pJ (pos c) c=true:=(eT _ _).2 ⟨hy,rfl⟩;have hi:=nV hy;unfold rZ;simp only;rw [hk,if_pos rfl];have hg:=Ao ag (pos c) (k:=(idx c).toNat) aa;rw [Int.toNat_of_nonneg hi.1,Lt hy,Wq (c:=made ag (pos c)) (i:=idx c) hi.1 (by rw [gO];omega)] at hg;exact Option.some.inj hg
def adN(ag:Int):Hs (l5 ag 5) (eB (l5 ag 5)):=by
 refine ⟨An ag,λe he=> ?_,λp=>⟨?_,λhp=>⟨_,aS.2 ⟨p,hp,rfl⟩,rfl⟩⟩,λc=>rfl⟩
 ·obtain ⟨p,-,VP⟩:=aS.1 he;have h1:=gO ag p;have h2:=HN ag p;generalize made ag p=m at*;subst VP;exact ⟨h1,h2⟩
 ·rintro ⟨e,he,rfl⟩;obtain ⟨p,hp,rfl⟩:=aS.1 he;exact hp
def Su(ag:Int){c:Ce}(hy:14<=c.2.1/\c.2.1<32)(hp:pos c ∈ fG):eB (l5 ag 5) c=0:=by rw [adM ag (by unfold k8;omega) hp];have:=Ls ag c.1 c.2.2;have:=m8 ag c.1 c.2.2;unfold BL;rw [if_neg aa,if_neg aa,if_neg aa,if_neg aa,if_neg aa]
end Go.Proofs.YtalpkjfpmdpbiaaGreatDoor
