import Derived.Test.YtalpkjfpmdpbiaaGreatDoorYA
import Derived.Test.YtalpkjfpmdpbiaaGreatDoorWA
import Derived.Test.YtalpkjfpmdpbiaaGreatDoorQA
import Derived.Test.YtalpkjfpmdpbiaaGreatDoorWB
set_option linter.all false
namespace Go.Proofs.YtalpkjfpmdpbiaaGreatDoor
open Go Go.Vc Go.RowKit Go.Proofs Go.dQ Go.bf Go.Code Go.ks Go.jd
abbrev tw:TypeId:=98
structure Sm where
 ag:Int
 cap:Int
 T:Tb
 ch:List Go.jd.Cg
 q:QS
 aO:Int
 now:Int
 dR:List Ce
abbrev VJ(g o:Nat)(M:Sm)(occ:Value)(sd:Sl):LV:=[g,o,.int .i64 M.aO,.int .i64 M.now,occ,.slice sd.a sd.n sd.c]
def SF(F:Nat->Prop)(w:World)(s o t:Nat)(M:Sm)(occ:Value):Prop:=
 ∃g m qs Fw sd,Row w s (VJ g o M occ sd) tw/\Q.qD w g m qs M.q/\wC M.q/\WF Fw w o t M.ag M.cap M.T M.ch/\ak 0 iE 3 w sd (M.dR.map ef)/\(∀i,Q.gJ g m qs i->¬Fw i)/\F=λi=>i=s\/Q.gJ g m qs i\/Fw i\/sd.bg=some i
section
variable {F F':Nat->Prop} {w w':World} {s o t:Nat} {M M':Sm} {occ:Value}
def SF.lt(h:SF F w s o t M occ){i:Nat}(hi:F i):i<w:=by
 obtain ⟨g,m,qs,Fw,sd,h1,h2,-,h3,h4,-,rfl⟩:=h;rcases hi with rfl|hi|hi|hi
 ·exact h1.lt
 ·exact h2.lt i hi
 ·exact h3.lt hi
 ·exact (h4.own.lt hi).2
def SF.same(h:SF F w s o t M occ)(hk:∀i,F i->w'.heap[i]? =w.heap[i]?):SF F w' s o t M occ:=by obtain ⟨g,m,qs,Fw,sd,h1,h2,hq,h3,h4,h5,rfl⟩:=h;obtain ⟨kvs,m1,m2⟩:=h2.map;exact ⟨g,m,qs,Fw,sd,h1.same (hk _ (.inl rfl)),⟨h2.row.same (hk _ (.inr (.inl (.inl rfl)))),ak.bP h2.own λb hb=>hk b (.inr (.inl (.inr (.inr hb)))),kvs,m1.same (hk _ (.inr (.inl (.inr (.inl rfl))))),m2⟩,hq,h3.same λi hi=>hk i (.inr (.inr (.inl hi))),ak.bP h4 λb hb=>hk b (.inr (.inr (.inr hb))),h5,rfl⟩
def SF.ext(h:SF F w s o t M occ)(x:Ext w w'):SF F w' s o t M occ:=h.same λ_ hi=>x.heap (h.lt hi)
def SF.cX(h:SF F w s o t M occ){j:Nat}{cs:LV}{τ:TypeId}(hr:Row w j cs τ)(h1:uK τ)(h2:τ≠pj)(h3:τ≠eT)(h4:τ≠tw)(h5:τ≠Q.jw)(h6:τ≠Q.bS)(hj:∀(g:Nat)(sd:Sl),Row w s (VJ g o M occ sd) tw->sd.bg≠some j):¬F j:=by
 obtain ⟨g,m,qs,Fw,sd,r1,r2,-,r3,r4,-,rfl⟩:=h;rintro (hi|hi|hi|hi)
 ·exact hr.ne r1 h4 hi
 ·exact r2.cX hr h5 h6 hi
 ·exact r3.cX hr h1 h2 h3 hi
 ·exact hj g sd r1 hi
def SF.yA(h:SF F w s o t M occ){j:Nat}{cs:LV}{τ:TypeId}(hr:Row w j cs τ)(h1:uK τ)(h2:τ≠pj)(h3:τ≠eT)(h4:τ≠tw)(h5:τ≠Q.jw)(h6:τ≠Q.bS)(h7:τ≠iE):¬F j:=by
 obtain ⟨g,m,qs,Fw,sd,r1,r2,-,r3,r4,-,rfl⟩:=h;rintro (hi|hi|hi|hi)
 ·exact hr.ne r1 h4 hi
 ·exact r2.cX hr h5 h6 hi
 ·exact r3.cX hr h1 h2 h3 hi
 ·obtain ⟨cs',hr'⟩:=aN r4 aE hi;exact hr.ne hr' h7 rfl
abbrev kS(F:Nat->Prop)(w:World)(s o t:Nat)(M:Sm)(occ:Value)(w':World):Prop:=∃F',SF F' w' s o t M occ/\aG F F' w w'
def SF.world(h:SF F w s o t M occ):∃Fw,WF Fw w o t M.ag M.cap M.T M.ch/\(∀i,Fw i->F i)/\∀{w':World} {T':Tb} {ch':List Go.jd.Cg},QB Fw w o t M.ag M.cap T' ch' w'->kS F w s o t {M with T:=T',ch:=ch'} occ w':=by
 obtain ⟨g,m,qs,Fw,sd,h1,h2,hq,h3,h4,h5,rfl⟩:=h;refine ⟨Fw,h3,λi hi=> .inr (.inr (.inl hi)),?_⟩;rintro w' T' ch' ⟨F',h',ht⟩;have n1:=h3.cX h1 aE aE aE;have n2:∀i,Q.gJ g m qs i->¬Fw i:=h5;have n4:∀b,sd.bg=some b->¬Fw b:=λb hb=>by obtain ⟨cs',hr'⟩:=aN h4 aE hb;exact h3.cX hr' aE aE aE
 refine ⟨_,⟨g,m,qs,F',sd,ht.mod.row h1 n1,h2.bP ht.mod n2,hq,h',ht.mod.gQ h4 n4,?_,rfl⟩,ht.mod.mono λi _ hi=> .inr (.inr (.inl hi)),λi hi=> ?_⟩
 ·exact λi hi hf=>ht.apart (G:=Q.gJ g m qs) (λi hi hg=>h5 i hg hi) (λi hi=>h2.lt i hi) i hf hi
 ·rcases hi with hi|hi|hi|hi
  ·exact .inl (.inl hi)
  ·exact .inl (.inr (.inl hi))
  ·exact (ht.sub i hi).imp (λh=> .inr (.inr (.inl h))) id
  ·exact .inl (.inr (.inr (.inr hi)))
def SF.queue(h:SF F w s o t M occ):∃g m qs,Q.qD w g m qs M.q/\wC M.q/\(∃sd,Row w s (VJ g o M occ sd) tw)/\(∀i,Q.gJ g m qs i->F i)/\∀{w':World} {qs':Sl} {q':QS},Q.qD w' g m qs' q'->wC q'->aG (Q.gJ g m qs) (Q.gJ g m qs') w w'->kS F w s o t {M with q:=q'} occ w':=by
 obtain ⟨g,m,qs,Fw,sd,h1,h2,hq,h3,h4,h5,rfl⟩:=h;refine ⟨g,m,qs,h2,hq,⟨sd,h1⟩,λi hi=> .inr (.inl hi),?_⟩;rintro w' qs' q' h' hq' ht;have n1:=h2.cX h1 aE aE;have n3:∀i,Fw i->¬Q.gJ g m qs i:=λi hi hf=>h5 i hf hi
 have n4:=h2.Sg h4 aE aE aE;refine ⟨_,⟨g,m,qs',Fw,sd,ht.mod.row h1 n1,h',hq',h3.bP ht.mod n3,ht.mod.gQ h4 n4,?_,rfl⟩,ht.mod.mono λi _ hi=> .inr (.inl hi),λi hi=> ?_⟩
 ·exact λi hi hf=>ht.apart (G:=Fw) (λi hi hg=>h5 i hi hg) (λi hi=>h3.lt hi) i hi hf
 ·rcases hi with hi|hi|hi|hi
  ·exact .inl (.inl hi)
  ·exact (ht.sub i hi).imp (λh=> .inr (.inl h)) id
  ·exact .inl (.inr (.inr (.inl hi)))
  ·exact .inl (.inr (.inr (.inr hi)))
def SF.row(h:SF F w s o t M occ):∃g sd,Row w s (VJ g o M occ sd) tw/\ak 0 iE 3 w sd (M.dR.map ef)/\F s/\(∀b,sd.bg=some b->F b)/\∀{w':World} {M':Sm} {occ':Value} {sd':Sl},M'.ag=M.ag->M'.cap=M.cap->M'.T=M.T->M'.ch=M.ch->M'.q=M.q->Mod (λi=>i=s\/sd.bg=some i) w w'->Row w' s (VJ g o M' occ' sd') tw->ak 0 iE 3 w' sd' (M'.dR.map ef)->(∀b,sd'.bg=some b->sd.bg=some b\/w.heap.size<=b)->kS F w s o t M' occ' w':=by
 obtain ⟨g,m,qs,Fw,sd,h1,h2,hq,h3,h4,h5,rfl⟩:=h;refine ⟨g,sd,h1,h4,.inl rfl,λb hb=> .inr (.inr (.inr hb)),?_⟩;rintro w' M' occ' sd' e1 e2 e3 e4 e5 hm hr hd eG;have q1:=h2.cX h1 aE aE;have q2:=h2.Sg h4 aE aE aE;have r1:=h3.cX h1 aE aE aE;have r2:∀b,sd.bg=some b->¬Fw b:=λb hb=>by obtain ⟨cs',hr'⟩:=aN h4 aE hb;exact h3.cX hr' aE aE aE
 refine ⟨_,⟨g,m,qs,Fw,sd',hr,by rw [e5];exact h2.bP hm λi hi hf=>hf.elim (λe=>q1 (e▸hi)) (λe=>q2 _ e hi),by rw [e5];exact hq,by rw [e1,e2,e3,e4];exact h3.bP hm λi hi hf=>hf.elim (λe=>r1 (e▸hi)) (λe=>r2 _ e hi),hd,h5,rfl⟩,hm.mono λi _ hi=>hi.elim .inl (λe=> .inr (.inr (.inr e))),λi hi=> ?_⟩;rcases hi with hi|hi|hi|hi
 ·exact .inl (.inl hi)
 ·exact .inl (.inr (.inl hi))
 ·exact .inl (.inr (.inr (.inl hi)))
 ·exact (eG i hi).imp (λh=> .inr (.inr (.inr h))) id
end
end Go.Proofs.YtalpkjfpmdpbiaaGreatDoor
namespace Go.Proofs.YtalpkjfpmdpbiaaGreatDoor
open Go Go.Vc Go.RowKit Go.Proofs Go.dQ Go.bf Go.Code Go.ks Go.jd
def gm(M:Sm)(c:Ce)(b:Int):Sm:={M with T:=(M.T.1,(cj M.T.2 c b).1),ch:=xe M.T.2 M.ch c b,q:=if (cj M.T.2 c b).2=0 then oB (ey (cj M.T.2 c b).1) M.now M.q c else M.q}
def bw(M:Sm)(x:Go.jd.Cg):Sm:=if ey M.T.2 x.1=x.2 then M else gm M x.1 x.2
def pB(O:Ce->Bool)(M:Sm)(c:Ce):Bool:=decide (ey M.T.2 c=3) &&(!(jq (ey M.T.2) c).isEmpty && O (bz c))
def fU(O:Ce->Bool)(M:Sm)(c:Ce):Sm:=
 if lE M.T.2 c=false then {M with q:=(eX M.q c (M.now+1)).1}
 else if pB O M c=true then bw {M with dR:=M.dR++ [bz c]} (c,0)
 else (jq (ey M.T.2) c).foldl bw M
def gh(M:Sm):Int:=min (M.now+1) 1099511627776
def iO(M:Sm):Sm:={M with now:=gh M,q:=(rK M.q (gh M) M.aO).1}
def k7(M:Sm):List Ce:=(rK M.q (gh M) M.aO).2
def fo(O:Ce->Bool)(M:Sm):Sm:=(k7 M).foldl (fU O) (iO M)
def gl:List Po:=[(0,0),(-1,0),(1,0),(0,-1),(0,1)]
def l5(ag:Int)(k:Nat):List En:=(gl.take k).map λp=>(p,made ag p,false,0)
structure Hs(l:List En)(V:Ce->Int):Prop where
 n:je l
 g:wg l
 h:∀p,oH l p ↔ p ∈ gl
 v:∀c,ey l c=V c
def nM(V:Ce->Int)(c:Ce)(b:Int):Ce->Int:=λc'=>if c'=c then b else V c'
def Hs.set{l:List En}{V:Ce->Int}(h:Hs l V){c:Ce}(hp:pos c ∈ gl)(hy:kX c){b:Int}(hb:aY b=true):(cj l c b).2=0/\Hs (cj l c b).1 (nM V c b):=by obtain ⟨e1,e2,e3,e4⟩:=Hj h.n h.g ((h.h _).2 hp) hy hb;exact ⟨e1,e2,Gt h.g c b,λp=>(e3 p).trans (h.h p),λc'=>by rw [e4,h.v];rfl⟩
def Zf{l:List En}{V:Ce->Int}(h:Hs l V){c:Ce}(hc:pos c=(0,0)):lE l c=true:=by unfold lE;rw [hc,yZ];intro q hq;have hq:q ∈ gl:=hq;obtain ⟨e,he,rfl⟩:=(h.h q).2 hq;exact decide_eq_true (aR.2 ⟨e,he,rfl⟩)
def KJ(s x z:Int):ground s x z<=14:=by
 unfold ground;have hu:0<=x % 8/\x % 8<=8:=by omega
 have hv:0<=z % 8/\z % 8<=8:=by omega
 generalize x % 8=u at*;generalize z % 8=v at*;have key:∀{c w:Int},(0<=c/\c<=8)->0<=w->c*w<=8*w:=λh1 h2=>Int.mul_le_mul_of_nonneg_right h1.2 h2
 have w1:0<=(8-u)*(8-v):=oy aa aa;have w2:0<=u*(8-v):=oy aa aa;have w3:0<=(8-u)*v:=oy aa aa;have w4:0<=u*v:=oy aa aa;have a:=key (db s (x / 8) (z / 8)) w1;have b:=key (db s (x / 8+1) (z / 8)) w2;have c:=key (db s (x / 8) (z / 8+1)) w3;have d:=key (db s (x / 8+1) (z / 8+1)) w4;have e:(8-u)*(8-v)+u*(8-v)+(8-u)*v+u*v=64:=by simp only [Int.sub_mul,Int.mul_sub];omega
 omega
def Zj(ag:Int):(l5 ag 5).map (·.1)=gl:=by unfold l5;rw [kd];rfl
def Ei(ag:Int):je (l5 ag 5):=by unfold je;rw [Zj];decide
def acY(ag:Int){c:Ce}(hy:kX c)(hp:pos c ∈ gl):ey (l5 ag 5) c=Bi c.2.1 (ground ag c.1 c.2.2):=by have hn:=Ei ag;have he:(pos c,made ag (pos c),false,(0:Int)) ∈ l5 ag 5:=aR.2 ⟨pos c,hp,rfl⟩;rw [qu hn he rfl,if_neg (by unfold kX at hy;omega)];have hk:pC (pos c) c=true:=(eN _ _).2 ⟨hy,rfl⟩;have hi:=nP hy;unfold rG;simp only;rw [hk,if_pos rfl];have hg:=zS ag (pos c) (k:=(idx c).toNat) aa;rw [Int.toNat_of_nonneg hi.1,KK hy,VK (c:=made ag (pos c)) (i:=idx c) hi.1 (by rw [gD];omega)] at hg;exact Option.some.inj hg
def acZ(ag:Int):Hs (l5 ag 5) (ey (l5 ag 5)):=by
 refine ⟨Ei ag,λe he=> ?_,λp=>⟨?_,λhp=>⟨_,aR.2 ⟨p,hp,rfl⟩,rfl⟩⟩,λc=>rfl⟩
 ·obtain ⟨p,-,Vb⟩:=aR.1 he;have h1:=gD ag p;have h2:=Hk ag p;generalize made ag p=m at*;subst Vb;exact ⟨h1,h2⟩
 ·rintro ⟨e,he,rfl⟩;obtain ⟨p,hp,rfl⟩:=aR.1 he;exact hp
def RV(ag:Int){c:Ce}(hy:14<=c.2.1/\c.2.1<32)(hp:pos c ∈ gl):ey (l5 ag 5) c=0:=by rw [acY ag (by unfold kX;omega) hp];have:=KJ ag c.1 c.2.2;have:=mX ag c.1 c.2.2;unfold Bi;rw [if_neg aa,if_neg aa,if_neg aa,if_neg aa,if_neg aa]
end Go.Proofs.YtalpkjfpmdpbiaaGreatDoor
