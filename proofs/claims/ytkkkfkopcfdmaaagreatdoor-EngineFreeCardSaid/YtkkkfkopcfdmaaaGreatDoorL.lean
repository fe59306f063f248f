import Derived.Test.YtkkkfkopcfdmaaaGreatDoorK
import Derived.Test.YtkkkfkopcfdmaaaGreatDoorC
import Derived.Test.YtkkkfkopcfdmaaaGreatDoorD
set_option linter.all false
namespace Go.Proofs.YtkkkfkopcfdmaaaGreatDoor
open Go Go.Vc Go.RowKit Go.Proofs Go.dm Go.aZ Go.Code Go.fZ Go.fh Go.iU
set_option maxRecDepth 100000
def Ex{a b:List Int}(ha:oa a)(hb:oa b):oa (a++b):=λx hx=>(c5.1 hx).elim (ha x) (hb x)
def Vs(n:Int):oa (DC n):=λx hx=>by
 obtain ⟨q,-,rfl⟩:=aY.1 hx
 exact abz n q
theorem GV{α:Type}{f:α->List Int}{l:List α}(h:∀x ∈ l,oa (f x)):oa (l.map f).flatten:=by grind
def PU(l:List Int):oa (m7 l):=GV λx _=>Vs x
def agi(n m:Int):oa [n % 256,m % 256]:=λx hx=>by
 simp at hx
 rcases hx with rfl|rfl<;>omega
def Ur(M:Sm)(L:List (Option dQ)):oa (fG M L):=by
 unfold fG dH fJ vA;refine Ex (Ex (Ex (Vs _) λx hx=> ?_) (GV λx hx=> ?_)) (Ex (agi _ _) (GV λx _=>PU _))
 ·simp at hx;omega
 ·obtain ⟨i,rfl,hi,y,hy⟩:=Gs hx;unfold CL gM;rw [hy];intro z hz;rcases cR.1 hz with rfl|hz
  ·omega
  ·rcases c5.1 hz with hz|hz
   ·exact PU _ z hz
   ·have:z=stB y.1.iE:=by simpa using hz
    rw [this];unfold stB;split<;>decide
def Uq(M:Sm)(L:List (Option dQ)):(fG M L).length<=50000:=by have h1:=yh L (cF L);have h2:=uf L;have h3:=LI (M.q.l.take 2000);rw [dI] at h3;unfold fG dH vA;rw [cS,cS,cS,cS,h3,uL];simp only [c8,m8];omega
section
variable {F F':Nat->Prop} {w w':World} {g s o t m:Nat} {M M':Sm} {occ:Value} {L:List (Option dQ)} {rows:List iV}
def sS{ch:List Cg}{T:Tb}{ai limit:Int}(h:WF F w o t ai limit T ch)(hW:T.1.l.length<=900000):
  ah 22 #[t] w λe w'=>e=Value.tuple #[.int .i64 (mf T.1 T.2).2.1,.int .i64 (mf T.1 T.2).2.2]/\HS F w o t ai limit (mf T.1 T.2).1 ch w':=by
 obtain ⟨F1,hT,-,bu⟩:=h.table;refine (DP hT hW).mono ?_;rintro e w' ⟨rfl,hr⟩;exact ⟨rfl,bu hr⟩
def Cn{ch:List Cg}{T:Tb}{ai limit:Int}(h:WF F w o t ai limit T ch)(hW:T.1.l.length<=1000000)(sl:Sl)(b:List Int)(hs:jF w sl b)(hb:oa b)(hn:b.length<=1099511627776):
  ah 61 #[t,sl] w λe w'=>e=Value.int .i64 (nH T.1 0 b).2/\HS F w o t ai limit ((nH T.1 0 b).1,T.2) ch w':=by
 obtain ⟨F1,hT,-,bu⟩:=h.table;refine (PV hT hW sl b hs hb hn).mono ?_;rintro e w' ⟨rfl,hr⟩;exact ⟨rfl,bu hr⟩
def EF.world(h:EF F w g s o t M occ L):∃Fw,WF Fw w o t M.ai M.cap M.T M.ch/\∀{w':World} {T':Tb} {ch':List Go.fh.Cg},HS Fw w o t M.ai M.cap T' ch' w'->jH F w g s o t {M with T:=T',ch:=ch'} occ L w':=by obtain ⟨Fs,hs,-,-,bu⟩:=h.wu;obtain ⟨Fw,hW,-,hresW⟩:=hs.world;exact ⟨Fw,hW,λhr=>bu (hresW hr)⟩
def MF.world(h:MF F w m s o t M occ rows):∃Fw,WF Fw w o t M.ai M.cap M.T M.ch/\∀{w':World} {T':Tb} {ch':List Go.fh.Cg},HS Fw w o t M.ai M.cap T' ch' w'->lF F w m s o t {M with T:=T',ch:=ch'} occ rows w':=by obtain ⟨Fs,hs,-,-,-,bu⟩:=h.wu;obtain ⟨Fw,hW,-,hresW⟩:=hs.world;exact ⟨Fw,hW,λhr=>bu (hresW hr)⟩
abbrev aac(M:Sm)(L:List (Option dQ)):Sm:={M with T:=((nH M.T.1 0 (fG M L)).1,M.T.2)}
def VX(h:EF F w g s o t M occ L)(hW:M.T.1.l.length<=1000000):ah 35 #[g] w λe w'=>e=Value.int .i64 (nH M.T.1 0 (fG M L)).2/\jH F w g s o t (aac M L) occ L w':=by apply yl.vc;have xd:=Ext.cu w;have hd:=h;obtain ⟨Fs,hs,jR,-,-⟩:=hd.wu;obtain ⟨Fw,hW0,-,-⟩:=hs.world;refine ⟨_,jR,(gW hs).mono ?_⟩;rintro e w1 ⟨rfl,Ui⟩;subst Ui;refine ⟨_,rfl,(pX hW0).mono ?_⟩;rintro e w2 ⟨rfl,AN⟩;subst AN;refine ⟨_,rfl,(PN hd).mono ?_⟩;rintro e w3 ⟨sl,rfl,ho,x3⟩;obtain ⟨Fw3,hW3,bu⟩:=(hd.ext x3).world;have hl:=Uq M L;refine ⟨sl,rfl,(Cn hW3 hW sl (fG M L) (ho.rd aG) (Ur M L) ab).mono ?_⟩;rintro e w4 ⟨rfl,hr⟩;exact ⟨_,rfl,rfl,jH.aH (xd.tr x3) (bu hr)⟩
end
structure Re where
 kind:Int
 n:Int
 b:Int
 p:Po
 c:Ce
 aE:Ce
 dW:Ce
 vj:El
abbrev dL(d:Re):LV:=[.int .i64 d.kind,.int .i64 d.n,.int .i64 d.b,.int .i64 d.p.1,.int .i64 d.p.2,.int .i64 d.c.1,.int .i64 d.c.2.1,.int .i64 d.c.2.2,.int .i64 d.aE.1,.int .i64 d.aE.2.1,.int .i64 d.aE.2.2,.int .i64 d.dW.1,.int .i64 d.dW.2.1,.int .i64 d.dW.2.2,.int .i64 d.vj.1,.int .i64 d.vj.2.1,.bool d.vj.2.2]
abbrev dV(d:Re):Value:=.agg (dL d).toArray
def dIn(d:Re):Prop:=bT d.kind/\bT d.n/\bT d.b/\(bT d.p.1/\bT d.p.2)/\qC d.c/\qC d.aE
def EN(rows:List iV)(i:Int)(vj:El):List iV:=match rows[i.toNat]? with|some r=>if r.1=true then rows.set i.toNat (r.1,(r.2.1,vj)) else rows|none=>rows
def Cm(rows:List iV)(i:Int):List iV:=rows.set i.toNat (false,(EP,(0,0,false)))
abbrev ix(d:Re):Int:=cM d.n 4
abbrev Od(d:Re):dE:=fq (Ms d.aE) (cM d.c.1 60000) (cM d.c.2.1 120000)
def ub(M:Sm)(rows:List iV)(d:Re):Sm × List iV:=
 if d.kind=0 then ({M with T:=(HI M.ai M.cap M.T.1 M.T.2 (wX d.p)).1},rows)
 else if d.kind=1 then ({M with T:=(m4 M.T.1 M.T.2 (wX d.p)).1},rows)
 else if d.kind=2 then ({M with T:=(mf M.T.1 M.T.2).1},rows)
 else if d.kind=3 then (M,rW M rows (Od d))
 else if d.kind=4 then (M,EN rows (ix d) d.vj)
 else if d.kind=5 then ((lS M (rows.map aj) (ix d) d.dW (EO d.b)).2,rows)
 else if d.kind=6 then ((kl M (rows.map aj) (ix d) d.dW).2,rows)
 else if d.kind=7 then ((eZ M (rows.map aj) (Ck d.c) (EO d.b)).2,rows)
 else if d.kind=8 then (M,Cm rows (ix d))
 else if d.kind=9 then (aac M (rows.map aj),rows)
 else if d.kind=10 then (M,rows)
 else ((pS M (rows.map aj)).1,nS M rows)
def Oe(b:dE):Prop:=(-1000000<=b.speed.1/\b.speed.1<=1000000)/\-1000000<=b.speed.2.2/\b.speed.2.2<=1000000
def okT(x:fZ.It):Prop:=AZ x.2/\0<=x.1/\x.1<=2000000000000
structure Jv(k:Nat)(M:Sm)(L:List (Option dQ)):Prop where
 b:pL (1200000+3300000000*(k:Int)) L
 s:rK M (3000*k)
 d:M.T.1.l.length<=20*k
 t:∀e ∈ M.T.2,oE e.1
 q:∀x ∈ M.q.l,okT x
 x:∀y,some y ∈ L->Oe y.1
 u:1<=M.dp/\M.dp<=64
def Jv.mono{k n:Nat}{M:Sm}{L:List (Option dQ)}(h:Jv k M L)(hk:k<=n):Jv n M L:=⟨h.b.up ab,h.s.mono ab,by have:=h.d;omega,h.t,h.q,h.x,h.u⟩
def Vn{D:Dk}{l:List En}{i:Nat}:(∀e ∈ l,oE e.1)->∀e ∈(MW D l i).1.2,oE e.1:=by
 intro h;unfold MW;split
 ·exact h
 ·rename_i e he;split
  ·exact λx hx=>h x ((wJ ..).subset hx)
  ·intro x hx;rcases jZ hx with hx|rfl
   ·exact h x hx
   ·have h1:(cm D e).2.1.1=e.1:=by unfold cm;split<;>rfl
    rw [h1];exact h e (aU he)
theorem anj{D:Dk}{l:List En}{i:Nat}:(MW D l i).1.2.length<=l.length:=by grind [MW]
def J3{limit:Int}{D:Dk}{l:List En}(h:∀e ∈ l,oE e.1):∀e ∈(eX limit D l).1.2,oE e.1:=by
 unfold eX;split
 ·exact h
 ·split
  ·exact h
  ·exact Vn h
def am2{ai limit:Int}{D:Dk}{l:List En}{p:Po}(h:∀e ∈ l,oE e.1):(∀e ∈(HI ai limit D l p).1.2,oE e.1)/\(HI ai limit D l p).1.1.l.length<=D.l.length+1:=by
 unfold HI;split
 ·exact ⟨h,by simp only;omega⟩
 split
 ·refine ⟨λe he=> ?_,by simp only;omega⟩;rcases c5.1 he with he|he
  ·exact h e ((wJ ..).subset he)
  ·exact h e (aU (Option.mem_toList.1 he))
 split
 ·exact ⟨J3 h,Lf _ _ _⟩
 ·refine ⟨λe he=> ?_,Lf _ _ _⟩;rename_i hp _ _;rcases c5.1 he with he|he
  ·exact J3 h e he
  ·rw [gU.1 he];simpa using hp
def afG{D:Dk}{l:List En}{p:Po}(h:∀e ∈ l,oE e.1):(∀e ∈(m4 D l p).1.2,oE e.1)/\(m4 D l p).1.1.l.length<=D.l.length+1/\(m4 D l p).1.2.length<=l.length:=by
 unfold m4;split
 ·split
  ·exact ⟨h,by simp only;omega,aD _⟩
  ·exact ⟨Vn h,ahJ _ _ _,anj⟩
 ·exact ⟨h,by simp only;omega,aD _⟩
def abk:∀(l:List En) {D:Dk} {pre:List En} {n:Int},(∀e ∈ pre,oE e.1)->(∀e ∈ l,oE e.1)->(∀e ∈(QT D pre l n).1.2,oE e.1)/\(QT D pre l n).1.1.l.length<=D.l.length+l.length/\(QT D pre l n).1.2.length=pre.length+l.length
 | [],D,pre,n,hp,_=>⟨hp,by simp [QT],by simp [QT]⟩
 |e::l,D,pre,n,hp,hl=>by
  have h1:(cm D e).2.1.1=e.1:=by unfold cm;split<;>rfl
  have hl1:=Ld D e;have he:=hl e cj;unfold QT;split
  ·obtain ⟨q1,q2,q3⟩:=abk l (D:=(cm D e).1) (pre:=pre++ [(cm D e).2.1]) (n:=if e.2.2.1=true then n+1 else n) (λx hx=>by
    rcases c5.1 hx with hx|hx
    ·exact hp x hx
    ·rw [gU.1 hx,h1];exact he) λx hx=>hl x (by simp [hx])
   rw [cS,List.length_singleton] at q3;exact ⟨q1,by rw [c8];omega,by rw [c8];omega⟩
  ·refine ⟨λx hx=> ?_,by rw [c8];simp only;omega,by simp⟩;simp only at hx;rcases c5.1 hx with hx|hx
   ·exact hp x hx
   ·rcases cR.1 hx with rfl|hx
    ·rw [h1];exact he
    ·exact hl x (by simp [hx])
def J5{l:List En}{c:Ce}{b:Int}(h:(fj l c b).2=0):Eo c/\∃e ∈ l,e.1=pos c:=by
 unfold fj at h;split at h
 ·simp only at h;omega
 rename_i h1;split at h
 ·simp only at h;omega
 rename_i h2;refine ⟨by simpa using h2,?_⟩;rcases eK (λe:En=>e.1==pos c) l with ⟨e,-⟩|⟨k,x,hx,hq,-,-⟩
 ·rw [e] at h1;omega
 ·exact ⟨x,aU hx,by simpa using hq⟩
def Vo{l:List En}{c:Ce}{b:Int}(h:∀e ∈ l,oE e.1):∀e ∈(fj l c b).1,oE e.1:=by
 unfold fj;split
 ·exact h
 split
 ·exact h
 split
 ·exact h
 ·intro e he;rcases c5.1 he with he|he
  ·exact h e ((wJ ..).subset he)
  ·obtain ⟨x,hx,rfl⟩:=CJ.1 (Option.mem_toList.1 he);exact h x (aU hx)
def ack{c:Ce}(h:oE (pos c))(hy:Eo c):(-9000000<=c.1/\c.1<=9000000)/\(0<=c.2.1/\c.2.1<32)/\-9000000<=c.2.2/\c.2.2<=9000000:=by unfold oE pos at h;unfold Eo at hy;simp only at h;omega
def Vp{q:QS}{c:Ce}{t:Int}{x:fZ.It}(h:x ∈(pM q c t).1.l):x ∈ q.l\/x=(t,c):=by
 unfold pM at h;split at h
 ·split at h
  ·exact .inl h
  ·rcases (Gk _ _ _).1 h with h|h
   ·exact .inr h
   ·exact .inl ((BN q.l c).subset h)
 ·split at h
  ·exact .inl h
  ·rcases (Gk _ _ _).1 h with h|h
   ·exact .inr h
   ·exact .inl h
def Vq{V:Ce->Int}{now:Int}{c:Ce}:∀(l:List Ce) {q:QS} {x:fZ.It},x ∈(l.foldl (λq n=>(pM q n (now+jL (V n))).1) q).l->x ∈ q.l\/(x.2 ∈ l/\now<=x.1/\x.1<=now+5)
 | [],q,x,h=> .inl h
 |n::l,q,x,h=>by
  rcases Vq (c:=c) l h with h|h
  ·rcases Vp h with h|h
   ·exact .inl h
   ·have:=Oi (V n)
    exact .inr (by rw [h];exact ⟨by simp,by simp only;omega,by simp only;omega⟩)
  ·exact .inr ⟨CF _ h.1,h.2⟩
def Yg{V:Ce->Int}{c:Ce}(h:(-9000000<=c.1/\c.1<=9000000)/\(0<=c.2.1/\c.2.1<32)/\-9000000<=c.2.2/\c.2.2<=9000000):∀n ∈ sy V c,AZ n:=by intro n hn;have hn:=(kA.1 hn).1;obtain ⟨x,y,z⟩:=c;simp only at h;unfold AZ;simp only [sa,cR,oQ,or_false] at hn;rcases hn with rfl|rfl|rfl|rfl|rfl|rfl|rfl<;>(try simp only [fu,C4])<;>omega
def Nr(M:Sm):Prop:=(∀e ∈ M.T.2,oE e.1)/\(∀x ∈ M.q.l,okT x)/\0<=M.now/\M.now<=1099511627776
def Nr.edit{M:Sm}(h:Nr M)(c:Ce)(b:Int):Nr (uH M c b):=by
 refine ⟨Vo h.1,λx hx=> ?_,h.2.2⟩;have hx:x ∈(if (fj M.T.2 c b).2=0 then Gc (fx (fj M.T.2 c b).1) M.now M.q c else M.q).l:=hx;split at hx
 ·rename_i h0;obtain ⟨hy,e,he,hp⟩:=J5 h0;have hc:=ack (by rw [<-hp];exact h.1 e he) hy;rcases Vq (c:=c) _ hx with hx|⟨hx,h1,h2⟩
  ·exact h.2.1 x hx
  ·have:=h.2.2;exact ⟨Yg hc _ hx,by omega,by omega⟩
 ·exact h.2.1 x hx
def Nr.change{M:Sm}(h:Nr M)(x:Go.fh.Cg):Nr (da M x):=by
 unfold da;split
 ·exact h
 ·exact h.edit _ _
def Nr.changes:∀(l:List Go.fh.Cg) {M:Sm},Nr M->Nr (l.foldl da M)
 | [],M,h=>h
 |x::l,M,h=>Nr.changes l (h.change x)
def Nr.upd{M:Sm}(h:Nr M)(O:Ce->Bool){c:Ce}(hc:AZ c):Nr (mZ O M c):=by
 unfold mZ;split
 ·refine ⟨h.1,λx hx=> ?_,h.2.2⟩;rcases Vp hx with hx|hx
  ·exact h.2.1 x hx
  ·have:=h.2.2;rw [hx];exact ⟨hc,by simp only;omega,by simp only;omega⟩
 split
 ·exact Nr.change (M:={M with lh:=M.lh++ [fu c]}) h (c,0)
 ·exact Nr.changes _ h
def Nr.Xc(O:Ce->Bool):∀(l:List Ce) {M:Sm},IP l->Nr M->Nr (l.foldl (mZ O) M)
 | [],M,_,h=>h
 |c::l,M,hl,h=>Nr.Xc O l (λy hy=>hl y (by simp [hy])) (h.upd O (hl c cj))
def Nr.due{M:Sm}(h:Nr M):IP (rL M):=λy hy=>by
 have hy:y ∈(M.q.l.take (iG M.q.l (su M) M.dp)).map (·.2):=hy
 obtain ⟨x,hx,rfl⟩:=aY.1 hy
 exact (h.2.1 x (qR hx)).1
def Nr.tick{M:Sm}(h:Nr M)(O:Ce->Bool):Nr (FZ O M):=Nr.Xc O _ h.due ⟨h.1,λx hx=>h.2.1 x (za (show x ∈ M.q.l.drop _ from hx)),by have:=h.2.2;show 0<=su M/\su M<=_;unfold su;omega⟩
def uU:∀(l:List Go.fh.Cg)(M:Sm),(l.foldl da M).dp=M.dp
 | [],M=>rfl
 |x::l,M=>(uU l (da M x)).trans (by unfold da;split<;>rfl)
def Tq(O:Ce->Bool)(M:Sm)(c:Ce):(mZ O M c).dp=M.dp:=by
 unfold mZ;split
 ·rfl
 split
 ·unfold da;split<;>rfl
 ·exact uU _ _
def CS(O:Ce->Bool):∀(l:List Ce)(M:Sm),(l.foldl (mZ O) M).dp=M.dp
 | [],M=>rfl
 |c::l,M=>(CS O l (mZ O M c)).trans (Tq O M c)
def Lh(O:Ce->Bool)(M:Sm):(FZ O M).dp=M.dp:=CS O _ _
def Jy(O:Ce->Bool):∀(l:List Ce)(M:Sm),(l.foldl (mZ O) M).T.1=M.T.1
 | [],M=>rfl
 |c::l,M=>(Jy O l (mZ O M c)).trans (by
  have ch:∀(M:Sm)(x:Go.fh.Cg),(da M x).T.1=M.T.1:=λM x=>by unfold da;split<;>rfl
  have chs:∀(l:List Go.fh.Cg)(M:Sm),(l.foldl da M).T.1=M.T.1:=λl=>by
   induction l with
   |nil=>exact λM=>rfl
   |cons x l ih=>exact λM=>(ih _).trans (ch M x)
  unfold mZ
  split
  ·rfl
  split
  ·exact ch _ _
  ·exact chs _ _)
def afB{V:Ce->Int}{i k:Nat}{l:List dE}{m:Int}(h:∀b ∈ l,okB m b)(hm:m<=99970000000000):(∀b ∈ uF V i k l,okB (m+12582912) b)/\(uF V i k l).length=l.length:=by
 unfold uF;split
 ·rename_i a b ha hb;refine ⟨λx hx=> ?_,by rw [jU,jU]⟩;rcases jZ hx with hx|rfl
  ·rcases jZ hx with hx|rfl
   ·exact (h x hx).up ab
   ·exact uG (h a (aU ha)) hm
  ·exact uG (h b (aU hb)) hm
 ·exact ⟨λx hx=>(h x hx).up ab,rfl⟩
def Sq{V:Ce->Int}{i:Nat}:∀(n k:Nat) {l:List dE} {m:Int},(∀b ∈ l,okB m b)->m+n*12582912<=99970000000000->(∀b ∈ Dz V i k n l,okB (m+n*12582912) b)/\(Dz V i k n l).length=l.length
 |0,k,l,m,h,hm=>⟨λx hx=>(h x hx).up ab,rfl⟩
 |n+1,k,l,m,h,hm=>by
  obtain ⟨q1,q2⟩:=afB (V:=V) (i:=i) (k:=k) h ab
  obtain ⟨p1,p2⟩:=Sq (V:=V) (i:=i) n (k+1) q1 ab
  exact ⟨λx hx=>(p1 x hx).up ab,p2.trans q2⟩
def ahL{V:Ce->Int}:∀(n i:Nat) {l:List dE} {m:Int},l.length<=16->(∀b ∈ l,okB m b)->m+n*(16*12582912)<=99970000000000->(∀b ∈ crB V i n l,okB (m+n*(16*12582912)) b)
 |0,i,l,m,hl,h,hm=>λx hx=>(h x hx).up ab
 |n+1,i,l,m,hl,h,hm=>by
  obtain ⟨q1,q2⟩:=Sq (V:=V) (i:=i) (l.length-(i+1)) (i+1) h ab
  have p:=ahL (V:=V) n (i+1) (l:=Dz V i (i+1) (l.length-(i+1)) l) (m:=m+16*12582912) (by rw [q2];exact hl) (λx hx=>(q1 x hx).up ab) ab
  exact λx hx=>(p x hx).up ab
def abg{V:Ce->Int}{l:List dE}{m:Int}(h:∀b ∈ l,okB m b)(hl:l.length<=16)(hm:m<=99960000000000):∀b ∈ qq V l,okB (m+16*16*12582912) b:=λx hx=>(ahL l.length 0 hl h ab x hx).up ab
def Ob{M:Sm}{L:List (Option dQ)}{m:Int}(h:pL m L)(hm0:0<=m)(hm:m<=99900000000000):pL (m+3300000000) (mE M L):=by
 refine Et _ (h.up ab) λx hx=> ?_
 have hx:=(List.of_mem_zip hx).2;have hb:=FU (M:=M) h ab;exact (abg hb (by rw [aN];exact Es M L) ab x.2 hx).up ab
def wY{rows:List iV}(i:Int)(hi:0<=i)(vj:El):(EN rows i vj).map aj=(oR (rows.map aj) i vj).2:=by
 obtain ⟨k,rfl⟩:∃k:Nat,i=k:=⟨i.toNat,by omega⟩;unfold EN oR;rw [eC]
 cases hq:rows[k]? with
 |none=>
  have:cC (rows.map aj) ((k:Nat):Int)=none:=by unfold cC;rw [if_pos ab,eC,aV,hq];rfl
  rw [this]
 |some r=>
  rw [mM (rows:=rows) (n:=(k:Nat)) rfl hq];obtain ⟨th,bd,inq⟩:=r
  cases th with
  |false=>rfl
  |true=>
   show ((rows.set k (true,(bd,vj))).map aj)=(rows.map aj).set k (some (bd,vj));rw [jV];rfl
def xe{rows:List iV}(i:Int)(hi:0<=i):(Cm rows i).map aj=(oT (rows.map aj) i).2:=by
 obtain ⟨k,rfl⟩:∃k:Nat,i=k:=⟨i.toNat,by omega⟩;unfold Cm oT;rw [eC,jV];have h0:aj (false,(EP,(0,0,false)))=none:=rfl;rw [h0];split
 ·rename_i h;unfold cC at h;rw [if_pos ab,eC] at h;show (rows.map aj).set k none=rows.map aj;refine jB λj=> ?_
  by_cases e:k=j
  ·subst e;by_cases hk:k<(rows.map aj).length
   ·rw [oS hk,dv hk];rw [dv hk] at h;simp only [Option.join_some] at h;rw [Option.isNone_iff_eq_none.1 h]
   ·rw [jX (by rw [jU];omega),jX ab]
  ·rw [zT e]
 ·rfl
def afC{L:List (Option dQ)}{m:Int}(h:pL m L)(i:Int):pL m (oT L i).2:=by
 unfold oT;split
 ·exact h
 ·intro y hy;rcases jZ hy with hy|hy
  ·exact h y hy
  ·cases hy
def afD{L:List (Option dQ)}{m:Int}(h:pL m L)(i:Int)(vj:El):pL m (oR L i vj).2:=by
 unfold oR
 cases hq:cC L i with
 |none=>exact h
 |some y=>
  intro z hz;rcases jZ hz with hz|hz
  ·exact h z hz
  ·cases hz
   unfold cC at hq;split at hq
   ·exact h y (aU (abh.1 hq))
   ·cases hq
def abi{M:Sm}{L:List (Option dQ)}{m:Int}(h:pL m L){b:dE}(hb:okB m b):pL m (dj M L b).2.2:=by
 unfold dj;split
 ·exact h
 split
 ·exact h
 split
 ·exact h
 split
 ·exact h
 ·intro z hz;rcases jZ hz with hz|hz
  ·exact h z hz
  ·cases hz
   exact hb
def afE(d:Re):okB 1200000 (Od d):=by have h1:=db d.aE.1 589825 aG;have h2:=db d.aE.2.1 589825 aG;have h3:=db d.aE.2.2 589825 aG;have h4:=db d.c.1 60000 aG;have h5:=db d.c.2.1 120000 aG;unfold okB Od fq Ms eJ;simp only;omega
abbrev DA(L:List (Option dQ)):Prop:=∀y,some y ∈ L->Oe y.1
def ajs(h:Ht){b:dE}(hb:Oe b):(-1000000<=(gl h b.speed).1/\(gl h b.speed).1<=1000000)/\-1000000<=(gl h b.speed).2.2/\(gl h b.speed).2.2<=1000000:=by
 have c0:dz 0=0:=by decide
 have e1:(gl h b.speed).1=if h.1=true then dz 0 else b.speed.1:=by
  unfold gl
  cases h.1<;>cases h.2.1<;>cases h.2.2<;>rfl
 have e2:(gl h b.speed).2.2=if h.2.2=true then dz 0 else b.speed.2.2:=by
  unfold gl
  cases h.1<;>cases h.2.1<;>cases h.2.2<;>rfl
 unfold Oe at hb;rw [e1,e2,c0];constructor<;>split<;>omega
def ajt(V:Ce->Int)(b:dE)(i:El):Oe (qZ V b i):=by
 have h1:Oe (pn b i):=by
  have h0:∀n,-1000000<=zC n/\zC n<=1000000:=λn=>by unfold zC;omega
  exact ⟨h0 _,h0 _⟩
 have h2:Oe (lP V (pn b i) i):=by
  unfold lP;split
  ·exact h1
  ·split<;>exact h1
 exact ajs _ h2
def aju{V:Ce->Int}{i k:Nat}{l:List dE}(h:∀b ∈ l,Oe b):∀b ∈ uF V i k l,Oe b:=by
 unfold uF;split
 ·rename_i a b ha hb;intro x hx;rcases jZ hx with hx|rfl
  ·rcases jZ hx with hx|rfl
   ·exact h x hx
   ·exact h a (aU ha)
  ·exact h b (aU hb)
 ·exact h
def ahM{V:Ce->Int}{i:Nat}:∀(n k:Nat) {l:List dE},(∀b ∈ l,Oe b)->∀b ∈ Dz V i k n l,Oe b
 |0,k,l,h=>h
 |n+1,k,l,h=>ahM n (k+1) (aju h)
def am0{V:Ce->Int}:∀(n i:Nat) {l:List dE},(∀b ∈ l,Oe b)->∀b ∈ crB V i n l,Oe b
 |0,i,l,h=>h
 |n+1,i,l,h=>am0 n (i+1) (ahM _ _ h)
theorem am1{L:List (Option dQ)}{i:Nat}{b:dE}(h:DA L)(hb:Oe b):DA (uB L i b):=by grind [uB]
def abj:∀(l:List (Nat × dE)) {L:List (Option dQ)},DA L->(∀x ∈ l,Oe x.2)->DA (zJ L l)
 | [],L,h,_=>h
 |x::l,L,h,hl=>abj l (am1 h (hl x cj)) λy hy=>hl y (by simp [hy])
def ajv{M:Sm}{L:List (Option dQ)}(h:DA L):DA (mE M L):=by
 refine abj _ h λx hx=>am0 _ _ (λb hb=> ?_) x.2 (List.of_mem_zip hx).2
 obtain ⟨i,hi,rfl⟩:=aY.1 hb;obtain ⟨-,y,hy⟩:=uC hi;unfold lg;rw [hy];exact ajt _ _ _
theorem ajw{L:List (Option dQ)}(h:DA L)(i:Int):DA (oT L i).2:=by grind [oT]
theorem ajx{L:List (Option dQ)}(h:DA L)(i:Int)(vj:El):DA (oR L i vj).2:=by grind [oR,cC]
def afF{M:Sm}{L:List (Option dQ)}(h:DA L){b:dE}(hb:Oe b):DA (dj M L b).2.2:=by
 unfold dj;split
 ·exact h
 split
 ·exact h
 split
 ·exact h
 split
 ·exact h
 ·intro z hz;rcases jZ hz with hz|hz
  ·exact h z hz
  ·cases hz
   exact hb
def Jv.edits{k:Nat}{M:Sm}{L:List (Option dQ)}(h:Jv k M L)(c:Ce)(b:Int):Jv (k+1) (uH M c b) L:=by have hN:Nr (uH M c b):=Nr.edit ⟨h.t,h.q,h.s.now⟩ c b;exact ⟨h.b.up ab,(h.s.edit c b).mono ab,by have:=h.d;show M.T.1.l.length<=_;omega,hN.1,hN.2.1,h.x,h.u⟩
def Jv.UU{k:Nat}{M:Sm}{L L':List (Option dQ)}(h:Jv k M L)(c:Ce)(b:Int):Jv (k+1) (eZ M L' c b).2 L:=by
 unfold eZ;split
 ·exact h.mono (oZ _)
 ·exact h.edits c b
set_option maxHeartbeats 4000000 in
def Jv.step{k:Nat}{M:Sm}{rows:List iV}(h:Jv k M (rows.map aj))(d:Re)(hn:M.T.2.length<=16)(hk:k<=100):Jv (k+1) (ub M rows d).1 ((ub M rows d).2.map aj):=by
 have hd:=h.d;have eN:=h.s.mono (show 3000*k<=3000*(k+1) by omega);have IN:=h.b.up (show 1200000+3300000000*(k:Int)<=1200000+3300000000*((k+1:Nat):Int) by omega);have hi:=db d.n 4 aG;unfold ub;split
 ·obtain ⟨q1,q2⟩:=am2 (ai:=M.ai) (limit:=M.cap) (D:=M.T.1) (p:=wX d.p) h.t;exact ⟨IN,⟨eN.l,eN.c,eN.now,eN.d⟩,by simp only;omega,q1,h.q,h.x,h.u⟩
 split
 ·obtain ⟨q1,q2,-⟩:=afG (D:=M.T.1) (p:=wX d.p) h.t;exact ⟨IN,⟨eN.l,eN.c,eN.now,eN.d⟩,by simp only;omega,q1,h.q,h.x,h.u⟩
 split
 ·obtain ⟨q1,q2,-⟩:=abk M.T.2 (D:=M.T.1) (pre:=[]) (n:=0) (λe he=>by cases he) h.t;exact ⟨IN,⟨eN.l,eN.c,eN.now,eN.d⟩,by simp only [mf];omega,q1,h.q,h.x,h.u⟩
 split
 ·simp only;rw [ud];exact ⟨abi IN ((afE d).up ab),eN,by omega,h.t,h.q,afF h.x (by unfold Oe Od fq;simp only;omega),h.u⟩
 split
 ·simp only;rw [wY _ hi.1];exact ⟨afD IN _ _,eN,by omega,h.t,h.q,ajx h.x _ _,h.u⟩
 split
 ·simp only;unfold lS;split
  ·exact h.mono (oZ _)
  split
  ·exact h.mono (oZ _)
  split
  ·exact h.mono (oZ _)
  split
  ·exact h.mono (oZ _)
  split
  ·exact h.mono (oZ _)
  ·exact h.UU _ _
 split
 ·simp only;unfold kl;split
  ·exact h.mono (oZ _)
  split
  ·exact h.UU _ _
  ·exact h.UU _ _
 split
 ·exact h.UU _ _
 split
 ·simp only;rw [xe _ hi.1];exact ⟨afC IN _,eN,by omega,h.t,h.q,ajw h.x _,h.u⟩
 split
 ·have h9:=aav M.T.1 0 (fG M (rows.map aj));exact ⟨IN,⟨eN.l,eN.c,eN.now,eN.d⟩,by simp only;omega,h.t,h.q,h.x,h.u⟩
 split
 ·exact h.mono (oZ _)
 ·simp only;rw [kR];have hN:Nr (pS M (rows.map aj)).1:=Nr.tick (M:=M) ⟨h.t,h.q,h.s.now⟩ _;have hl:=UW (q:=M.q) (now:=su M) h.u;have g7:rK (xO M) (3000*k):=⟨h.s.l,h.s.c,by have:=h.s.now;show 0<=su M/\su M<=_;unfold su;omega,h.s.d⟩;have hS:rK (pS M (rows.map aj)).1 (3000*k+40*(rL M).length):=rK.Xc _ (rL M) g7;have Hg:(rL M).length<=64:=hl;refine ⟨(Ob h.b ab ab).up ab,hS.mono ab,?_,hN.1,hN.2.1,ajv h.x,?_⟩
  ·have:(pS M (rows.map aj)).1.T.1=M.T.1:=Jy _ _ _;rw [this];omega
  ·have:(pS M (rows.map aj)).1.dp=M.dp:=Lh _ _;rw [this];exact h.u
structure Ad where
 g:Nat
 s:Nat
 o:Nat
 t:Nat
 m:Nat
 s':Nat
 o':Nat
 t':Nat
def ua(K:Nat->Prop)(w0 w:World)(a:Ad)(Me:Sm)(Le:List (Option dQ))(Mm:Sm)(rows:List iV):Prop:=
 ∃(F F':Nat->Prop)(occ occ':Value),EF F w a.g a.s a.o a.t Me occ Le/\MF F' w a.m a.s' a.o' a.t' Mm occ' rows/\(∀i,F i->¬F' i)/\(∀i,F i->w0.heap.size<=i)/\(∀i,F' i->w0.heap.size<=i)/\(∀j,K j->¬F j/\¬F' j/\j<w.heap.size)/\Ext w0 w
section
variable {K:Nat->Prop} {w0 w u w':World} {a:Ad} {Me Mm M:Sm} {Le:List (Option dQ)} {rows:List iV}
def ua.e(h:ua K w0 w a Me Le Mm rows):∃F occ,EF F w a.g a.s a.o a.t Me occ Le/\∀{w':World} {M':Sm} {occ':Value} {L':List (Option dQ)},jH F w a.g a.s a.o a.t M' occ' L' w'->ua K w0 w' a M' L' Mm rows/\∀j,K j->w'.heap[j]? =w.heap[j]? :=by
 obtain ⟨F,F',occ,occ',h1,h2,h3,h4,h5,h6,h7⟩:=h;refine ⟨F,occ,h1,?_⟩;rintro w' M' oc L' ⟨G,g1,g2⟩;have hz:=g2.mod.size;obtain ⟨x,f⟩:=g2.fresh h7 h4;refine ⟨⟨G,F',oc,occ',g1,h2.same λi hi=>g2.mod.same i (h2.lt hi) λq=>h3 i q hi,g2.apart h3 λi hi=>h2.lt hi,f,h5,λj hj=> ?_,x⟩,λj hj=>g2.mod.same j (h6 j hj).2.2 (h6 j hj).1⟩;obtain ⟨k1,k2,k3⟩:=h6 j hj;refine ⟨λq=> ?_,k2,by omega⟩;rcases g2.sub j q with q|q
 ·exact k1 q
 ·omega
def ua.m(h:ua K w0 w a Me Le Mm rows):∃F occ,MF F w a.m a.s' a.o' a.t' Mm occ rows/\∀{w':World} {M':Sm} {occ':Value} {rows':List iV},lF F w a.m a.s' a.o' a.t' M' occ' rows' w'->ua K w0 w' a Me Le M' rows'/\∀j,K j->w'.heap[j]? =w.heap[j]? :=by
 obtain ⟨F,F',occ,occ',h1,h2,h3,h4,h5,h6,h7⟩:=h;refine ⟨F',occ',h2,?_⟩;rintro w' M' oc rows' ⟨G,g1,g2⟩;have hz:=g2.mod.size;obtain ⟨x,f⟩:=g2.fresh h7 h5;refine ⟨⟨F,G,occ,oc,h1.same λi hi=>g2.mod.same i (h1.lt hi) λq=>h3 i hi q,g1,λi hi hg=>g2.apart (G:=F) (λi hi hf=>h3 i hf hi) (λi hi=>h1.lt hi) i hg hi,h4,f,λj hj=> ?_,x⟩,λj hj=>g2.mod.same j (h6 j hj).2.2 (h6 j hj).2.1⟩;obtain ⟨k1,k2,k3⟩:=h6 j hj;refine ⟨k1,λq=> ?_,by omega⟩;rcases g2.sub j q with q|q
 ·exact k2 q
 ·omega
def ua.mK(h:ua K w0 w a Me Le Mm rows):∃F occ,MF F w a.m a.s' a.o' a.t' Mm occ rows/\(∀j,K j->¬F j)/\∀{w':World} {M':Sm} {occ':Value} {rows':List iV},lF F w a.m a.s' a.o' a.t' M' occ' rows' w'->ua K w0 w' a Me Le M' rows'/\∀j,K j->w'.heap[j]? =w.heap[j]? :=by
 obtain ⟨F,F',occ,occ',h1,h2,h3,h4,h5,h6,h7⟩:=h;refine ⟨F',occ',h2,λj hj=>(h6 j hj).2.1,?_⟩;rintro w' M' oc rows' ⟨G,g1,g2⟩;have hz:=g2.mod.size;obtain ⟨x,f⟩:=g2.fresh h7 h5;refine ⟨⟨F,G,occ,oc,h1.same λi hi=>g2.mod.same i (h1.lt hi) λq=>h3 i hi q,g1,λi hi hg=>g2.apart (G:=F) (λi hi hf=>h3 i hf hi) (λi hi=>h1.lt hi) i hg hi,h4,f,λj hj=> ?_,x⟩,λj hj=>g2.mod.same j (h6 j hj).2.2 (h6 j hj).2.1⟩;obtain ⟨k1,k2,k3⟩:=h6 j hj;refine ⟨k1,λq=> ?_,by omega⟩;rcases g2.sub j q with q|q
 ·exact k2 q
 ·omega
def ua.ext(h:ua K w0 w a Me Le Mm rows)(x:Ext w u):ua (λj=>K j\/w.heap.size<=j/\j<u.heap.size) w0 u a Me Le Mm rows:=by
 obtain ⟨F,F',occ,occ',h1,h2,h3,h4,h5,h6,h7⟩:=h;have hz:=x.size;refine ⟨F,F',occ,occ',h1.ext x,h2.ext x,h3,h4,h5,λj hj=> ?_,h7.tr x⟩;rcases hj with hj|⟨j1,j2⟩
 ·obtain ⟨k1,k2,k3⟩:=h6 j hj;exact ⟨k1,k2,by omega⟩
 ·exact ⟨λq=>by have:=h1.lt q;omega,λq=>by have:=h2.lt q;omega,j2⟩
def ua.mono{K':Nat->Prop}(h:ua K w0 w a Me Le Mm rows)(hs:∀j,K' j->K j):ua K' w0 w a Me Le Mm rows:=by obtain ⟨F,F',occ,occ',h1,h2,h3,h4,h5,h6,h7⟩:=h;exact ⟨F,F',occ,occ',h1,h2,h3,h4,h5,λj hj=>h6 j (hs j hj),h7⟩
def ua.same(h:ua K w0 w a Me Le Mm rows)(x:Ext w u):ua K w0 u a Me Le Mm rows/\∀j,K j->u.heap[j]? =w.heap[j]? :=⟨(h.ext x).mono λj hj=> .inl hj,λj hj=>by
 obtain ⟨F,F',occ,occ',h1,h2,h3,h4,h5,h6,h7⟩:=h
 exact x.heap (h6 j hj).2.2⟩
def ua.e0(h:ua K w0 w a Me Le Mm rows):Vc.ld w (ae (aB a.g) 0)=some (.pointer (aB a.s))/\(ah 18 #[.pointer (aB a.s)] w λe w'=>e=Value.pointer (aB a.o)/\w'=w)/\
  (ah 19 #[.pointer (aB a.o)] w λe w'=>e=Value.pointer (aB a.t)/\w'=w):=by
 obtain ⟨F,occ,h1,-⟩:=h.e;obtain ⟨Fs,hs,jR,-⟩:=h1.wu;obtain ⟨Fw,hW,-⟩:=hs.world;exact ⟨jR,gW hs,pX hW⟩
def ua.m0(h:ua K w0 w a Me Le Mm rows):Vc.ld w (ae (aB a.m) 0)=some (.pointer (some ⟨a.o',0,none⟩))/\
  (ah 19 #[.pointer (some ⟨a.o',0,none⟩)] w λe w'=>e=Value.pointer (some ⟨a.t',0,none⟩)/\w'=w):=by
 obtain ⟨F,occ,h1,-⟩:=h.m;obtain ⟨Fs,hs,-,jR,-⟩:=h1.wu;obtain ⟨Fw,hW,-⟩:=hs.world;exact ⟨jR,pX hW⟩
def ua.few(h:ua K w0 w a Me Le Mm rows):Me.T.2.length<=16:=by obtain ⟨F,occ,h1,-⟩:=h.e;obtain ⟨Fs,hs,-⟩:=h1.wu;obtain ⟨Fw,hW,-⟩:=hs.world;have:=hW.len;omega
def ua.ahC(h:ua K w0 w a Me Le Mm rows):rows.length=16:=by obtain ⟨F,occ,h1,-⟩:=h.m;obtain ⟨b,-,-,h2,-⟩:=h1.Kq;exact h2
end
def amC{rows:List iV}(hn:rows.length=16){b:Nat}{w:World}(hr:Row w b (rows.map kj).flatten CC){k:Nat}(hk:k<16){r:iV}(Mf:rows[k]? =some r)(i:El):(ae (ae (aB b) ((k:Int).toNat*13)) 10).isSome=true/\Wr w (ae (ae (aB b) ((k:Int).toNat*13)) 10) 3/\bt (ae (ae (aB b) ((k:Int).toNat*13)) 10)=some b/\
  ∀w',w'=Vc.aK w (ae (ae (aB b) ((k:Int).toNat*13)) 10) [.int .i64 i.1,.int .i64 i.2.1,.bool i.2.2]->Row w' b ((rows.set k (r.1,(r.2.1,i))).map kj).flatten CC/\Mod (λi=>i=b) w w':=by
 have Hk:(rows.map kj).flatten.length=16*13:=by
  have:=bK (k:=13) (rows:=rows.map kj) λr hr=>by obtain ⟨x,-,rfl⟩:=aY.1 hr;rfl
  rw [this,aN,hn]
 rw [dC,eC];have vS:One [.int .i64 i.1,.int .i64 i.2.1,.bool i.2.2]:=by intro u hu;simp at hu;rcases hu with rfl|rfl|rfl<;>rfl
 obtain ⟨p1,p2⟩:=mU hr (off:=k*13+10) (vs:=[.int .i64 i.1,.int .i64 i.2.1,.bool i.2.2]) (by rw [Hk];show _+3<=_;omega) vS;refine ⟨rfl,p1,by rw [bo];rfl,λw' e=> ?_⟩;obtain ⟨q1,q2⟩:=p2 w' e;refine ⟨?_,q2⟩;have dq:(rows.map kj)[k]? =some (kj r):=by rw [aV,Mf];rfl
 have:aW (rows.map kj).flatten (k*13+10) [.int .i64 i.1,.int .i64 i.2.1,.bool i.2.2]=((rows.set k (r.1,(r.2.1,i))).map kj).flatten:=by rw [jV];exact Fe (λr hr=>by obtain ⟨y,-,rfl⟩:=aY.1 hr;rfl) dq (by show 10+3<=13;decide) rfl
 rw [<-this];exact q1
section
variable {K:Nat->Prop} {w0 w u w':World} {a:Ad} {Me Mm M:Sm} {Le:List (Option dQ)} {rows:List iV}
abbrev amB(K:Nat->Prop)(w0 w:World)(a:Ad)(M:Sm)(rows:List iV)(d:Re)(e:Ending)(w':World):Prop:=e=true/\ua K w0 w' a (ub M rows d).1 ((ub M rows d).2.map aj) (ub M rows d).1 (ub M rows d).2/\∀j,K j->w'.heap[j]? =w.heap[j]?
def aiY{k:Nat}(h:Jv k M (rows.map aj))(hk:k<=100):(∀x ∈ tu (rows.map aj) 16,(0<=x.1/\x.1<16)/\∀n ∈ kQ x.2,EK n)/\(∀x ∈ M.q.l,∀n ∈ [x.1,x.2.1,x.2.2.1,x.2.2.2],EK n)/\EK M.now:=by
 refine ⟨λx hx=> ?_,λx hx n hn=> ?_,?_⟩
 ·unfold tu at hx;obtain ⟨i,hi,rfl⟩:=aY.1 hx;obtain ⟨h1,h2⟩:=kA.1 hi;have h1:=oO.1 h1;obtain ⟨y,hy⟩:=oP.1 h2;have hb:=h.b y (qI hy);have hx:=h.x y (qI hy);unfold xAt;rw [hy];refine ⟨by simp only;omega,λn hn=> ?_⟩;obtain ⟨⟨b1,b2,b3⟩,b4,b5,b6⟩:=hb;obtain ⟨c1,c2⟩:=hx;simp only [cR,oQ,or_false] at hn;unfold EK;rcases hn with rfl|rfl|rfl|rfl|rfl|rfl|rfl|rfl<;>omega
 ·obtain ⟨h1,h2,h3⟩:=h.q x hx;unfold AZ at h1;simp only [cR,oQ,or_false] at hn;unfold EK;rcases hn with rfl|rfl|rfl|rfl<;>omega
 ·have:=h.s.now;unfold EK;omega
set_option maxHeartbeats 8000000 in
def VT(h:ua K w0 w a M (rows.map aj) M rows){k:Nat}(hj:Jv k M (rows.map aj))(hk:k<=100)(d:Re)(hd:dIn d):
  ah 15 #[.pointer (aB a.g),.pointer (aB a.m),dV d] w (amB K w0 w a M rows d):=by
 obtain ⟨hd1,hd2,hd3,⟨hd4,hd5⟩,hd6,hd7⟩:=hd;have hjd:=hj.d;have hjs:rK M 600000:=hj.s.mono ab;have hbm:1200000+3300000000*(k:Int)<=99900000000000:=by omega
 have hbm0:0<=1200000+3300000000*(k:Int):=by omega
 apply Rf.vc;intro v0 e0;have x0:=aT e0;have z0:=zA e0;have r0:∃τ,Row v0 w (dL d) τ:=⟨_,by rw [e0];exact Row.new w [_,_,_,_,_,_,_,_,_,_,_,_,_,_,_,_,_] _⟩;obtain ⟨τ,r0⟩:=r0;refine (gS d.n 4 v0 hd2 aG (by unfold bT;omega)).mono ?_;rintro e v1 ⟨rfl,hv1⟩;subst hv1;refine ⟨_,rfl,rfl,(VU d.p ⟨hd4,hd5⟩ v1).mono ?_⟩;rintro e v3 ⟨rfl,x3⟩;have z3:=x3.size;refine ⟨_,_,rfl,x3.heap ab,λv6 e6 v7 e7=> ?_⟩;have x7:Ext v3 v7:=(aT e6).ag e7 (aD _);have z7:v7.heap.size=v3.heap.size+1:=by rw [zR e7,zA e6]
 have r7:∃τ,Row v7 v3 [.int .i64 (wX d.p).1,.int .i64 (wX d.p).2] τ:=⟨_,by rw [e7,e6];exact Row.set (Row.new v3 [_,_] _) [_,_]⟩;obtain ⟨τ7,r7⟩:=r7;have x07:=x0.tr (x3.tr x7);have kK:∀j,K j->v7.heap[j]? =w.heap[j]? :=(h.same x07).2;have r07:=r0.ext (x3.tr x7);obtain ⟨K2,kw,k3,hKK,hB⟩:∃K2:Nat->Prop,K2 w/\K2 v3/\(∀j,K j->K2 j)/\ua K2 w0 v7 a M (rows.map aj) M rows:=⟨_,.inr ⟨aD _,by omega⟩,.inr ⟨by omega,by omega⟩,λj hj=> .inl hj,h.ext x07⟩;have fin:∀{b:Bool} {w':World} {M':Sm} {rows':List iV},b=true->ub M rows d=(M',rows')->ua K2 w0 w' a M' (rows'.map aj) M' rows'->(∀j,K2 j->w'.heap[j]? =v7.heap[j]?)->amB K w0 w a M rows d (.returned (.bool b)) w':=by intro b w' M' rows' hb Iq hBt QW;subst hb;refine ⟨rfl,?_,λj hj=>(QW j (hKK j hj)).trans (kK j hj)⟩;rw [Iq];exact hBt.mono hKK
 have parL:∀{u:World} {o:Nat} {vs:LV},(∀j,K2 j->u.heap[j]? =v7.heap[j]?)->(∀j,j<vs.length->(dL d)[o+j]? =vs[j]?)->af u (dU w.heap.size o) 0 vs:=λhu hv=>(r07.same (hu _ kw)).cg hv
 have wayL:∀{u:World},(∀j,K2 j->u.heap[j]? =v7.heap[j]?)->af u (dU w.heap.size 11) 0 (dO d.dW):=λhu=>parL hu λj hj=>by
  have hj:j<3:=hj;have:j=0\/j=1\/j=2:=by omega
  rcases this with rfl|rfl|rfl<;>rfl
 have bL:∀{u:World},(∀j,K2 j->u.heap[j]? =v7.heap[j]?)->af u (dU w.heap.size 2) 0 [d.b]:=λhu=>parL hu λj hj=>by
  have:j=0:=by simpa using hj
  subst this;rfl
 have posL:∀{u:World},(∀j,K2 j->u.heap[j]? =v7.heap[j]?)->af u (aB v3.heap.size) 0 [.int .i64 (wX d.p).1,.int .i64 (wX d.p).2]:=λhu=>Lo.wv (r7.same (hu _ k3))
 obtain ⟨l1,l2,l3⟩:=hB.e0;obtain ⟨l4,l5⟩:=hB.m0;refine ⟨_,l1,l2.mono ?_⟩;rintro e v9 ⟨rfl,hv⟩;subst hv;refine ⟨_,rfl,rfl,rfl,l3.mono ?_⟩;rintro e v11 ⟨rfl,hv⟩;subst hv;refine ⟨_,rfl,rfl,rfl,_,l4,l5.mono ?_⟩;rintro e Y0 ⟨rfl,hv⟩;subst hv;refine ⟨_,rfl,rfl,rfl,fB rfl (fB rfl ?_)⟩;have r0:∀j,K2 j->Y0.heap[j]? =Y0.heap[j]? :=λj _=>rfl
 obtain ⟨hBd,kd⟩:=hB.same (Ext.dr Y0);have hi4:=db d.n 4 aG;apply Br.mk<;>intro ZV
 ·have ZV:=dn ZV;obtain ⟨F,occ,hE,he⟩:=hBd.e;obtain ⟨Fw,hW,bu⟩:=hE.world;refine (uc hW ab (wX d.p)).mono ?_;rintro e u1 ⟨rfl,hr⟩;obtain ⟨EB,k1⟩:=he (bu hr);have kk1:∀j,K2 j->u1.heap[j]? =Y0.heap[j]? :=λj hj=>(k1 j hj).trans (kd j hj)
  obtain ⟨F',occ',hM,hm⟩:=EB.m;obtain ⟨Fw',hW',Qg⟩:=hM.world;refine ⟨_,rfl,k1 _ kw,k1 _ k3,posL kk1,(uc hW' ab (wX d.p)).mono ?_⟩;rintro e u2 ⟨rfl,hr⟩;obtain ⟨Ir,k2⟩:=hm (Qg hr);exact ⟨_,rfl,k2 _ kw,k2 _ k3,fin cj (by unfold ub;rw [if_pos ZV]) Ir λj hj=>(k2 j hj).trans (kk1 j hj)⟩
 have n0:=dn ZV;apply Br.mk<;>intro Qh
 ·have Qh:=dn Qh;obtain ⟨F,occ,hE,he⟩:=hBd.e;obtain ⟨Fw,hW,bu⟩:=hE.world;refine (wo hW ab (wX d.p)).mono ?_;rintro e u1 ⟨rfl,hr⟩;obtain ⟨EB,k1⟩:=he (bu hr);have kk1:∀j,K2 j->u1.heap[j]? =Y0.heap[j]? :=λj hj=>(k1 j hj).trans (kd j hj)
  obtain ⟨F',occ',hM,hm⟩:=EB.m;obtain ⟨Fw',hW',Qg⟩:=hM.world;refine ⟨_,rfl,k1 _ kw,k1 _ k3,posL kk1,(wo hW' ab (wX d.p)).mono ?_⟩;rintro e u2 ⟨rfl,hr⟩;obtain ⟨Ir,k2⟩:=hm (Qg hr);exact ⟨_,rfl,k2 _ kw,k2 _ k3,fin cj (by unfold ub;rw [if_neg n0,if_pos Qh]) Ir λj hj=>(k2 j hj).trans (kk1 j hj)⟩
 have n1:=dn Qh;apply Br.mk<;>intro Hf
 ·have Hf:=dn Hf;obtain ⟨F,occ,hE,he⟩:=hB.e;obtain ⟨Fw,hW,bu⟩:=hE.world;refine (sS hW ab).mono ?_;rintro e u1 ⟨rfl,hr⟩;obtain ⟨EB,k1⟩:=he (bu hr);obtain ⟨F',occ',hM,hm⟩:=EB.m;obtain ⟨Fw',hW',Qg⟩:=hM.world;refine ⟨_,_,rfl,k1 _ kw,k1 _ k3,(sS hW' ab).mono ?_⟩;rintro e u2 ⟨rfl,hr⟩;obtain ⟨Ir,k2⟩:=hm (Qg hr);exact ⟨_,_,rfl,k2 _ kw,k2 _ k3,yes cj (fin cj (by unfold ub;rw [if_neg n0,if_neg n1,if_pos Hf]) Ir λj hj=>(k2 j hj).trans (k1 j hj))⟩
 have n2:=dn Hf;apply Br.mk<;>intro vD
 ·have vD:=dn vD;refine (Rg d.aE hd7 Y0).mono ?_;rintro e u1 ⟨rfl,x1⟩;obtain ⟨EB,k1⟩:=hB.same x1;refine ⟨_,_,_,rfl,k1 _ kw,k1 _ k3,λu2 e2 u3 e3=> ?_⟩;have xx:Ext u1 u3:=(aT e2).ag e3 (aD _);have zx:u3.heap.size=u1.heap.size+1:=by rw [zR e3,zA e2]
  have hB3:=EB.ext xx;have k13:=(EB.same xx).2;have kb:K2 u1.heap.size\/u1.heap.size<=u1.heap.size/\u1.heap.size<u3.heap.size:=.inr ⟨aD _,by omega⟩;have a1:=db d.c.1 60000 aG;refine (gS d.c.1 60000 u3 hd6.1 aG (by unfold bT;omega)).mono ?_;rintro e u4 ⟨rfl,hu⟩;subst hu;refine ⟨_,rfl,rfl,rfl,rfl,(gS d.c.2.1 120000 u4 hd6.2.1 aG (by unfold bT;omega)).mono ?_⟩;rintro e u5 ⟨rfl,hu⟩;subst hu;obtain ⟨F,occ,hE,he⟩:=hB3.e;refine ⟨_,rfl,rfl,rfl,rfl,(EM hE (Ms d.aE) (cM d.c.1 60000) (cM d.c.2.1 120000) (by unfold bT;omega)).mono ?_⟩;rintro e u6 ⟨rfl,hr⟩;obtain ⟨hB6,k6⟩:=he hr;obtain ⟨F',occ',hM,hm⟩:=hB6.m;refine ⟨_,_,rfl,k6 _ (.inl kw),k6 _ (.inl k3),k6 _ kb,(Mt hM (Ms d.aE) (cM d.c.1 60000) (cM d.c.2.1 120000) (by unfold bT;omega)).mono ?_⟩;rintro e u7 ⟨rfl,hr⟩;obtain ⟨hB7,k7⟩:=hm hr;refine ⟨_,_,rfl,k7 _ (.inl kw),k7 _ (.inl k3),k7 _ kb,yes cj (fin cj (by unfold ub;rw [if_neg n0,if_neg n1,if_neg n2,if_pos vD]) ?_ λj hj=>(k7 j (.inl hj)).trans ((k6 j (.inl hj)).trans ((k13 j hj).trans (k1 j hj))))⟩;rw [ud];exact hB7.mono λj hj=> .inl hj
 have n3:=dn vD;apply Br.mk<;>intro hk4
 ·have hk4:=dn hk4;have Iq:ub M rows d=(M,EN rows (ix d) d.vj):=by unfold ub;rw [if_neg n0,if_neg n1,if_neg n2,if_neg n3,if_pos hk4]
  have htl:=wY (rows:=rows) (ix d) hi4.1 d.vj;obtain ⟨i,hi⟩:∃i:Nat,ix d=i:=⟨(cM d.n 4).toNat,by show cM d.n 4=_;omega⟩;have asO:i<4:=by have:cM d.n 4=i:=hi;omega
  have akj:=hB.ahC;obtain ⟨r,vR⟩:=bB (l:=rows) (i:=i) ab;have hii:(rows.map kj)[i]? =some (kj r):=by rw [aV,vR];rfl
  have AU:=mM (rows:=rows) (n:=i) rfl vR;have htR:EN rows i d.vj=if r.1=true then rows.set i (r.1,(r.2.1,d.vj)) else rows:=by unfold EN;rw [eC,vR]
  show ah 54 #[.pointer (aB a.g),(ix d),.agg #[d.vj.1,d.vj.2.1,.bool d.vj.2.2]] Y0 _;have hix:cM d.n 4=(i:Int):=hi;rw [hix];rw [hi] at Iq htl ⊢;obtain ⟨F,occ,hE,he⟩:=hB.e;refine (VV hE i d.vj).mono ?_;rintro e u1 ⟨rfl,hr⟩;obtain ⟨EB,k1⟩:=he hr;obtain ⟨F',occ',hM,hnK,hm⟩:=EB.mK;obtain ⟨b,hmr,hbr,AV,-,hFb,hmb,bu⟩:=hM.Kq;have rk:=ue hbr AV;have inb:ez (aB b) (i:Int) 16:=rk.iz (i:=(i:Int)) aG ab (by show (i:Int)<((16:Nat):Int);omega);refine ⟨_,rfl,k1 _ kw,k1 _ k3,⟨aB b,16,16⟩,hmr.at 2 rfl,inb,gT rfl ⟨r.1,rk.at hii (mlA r),Br.mk (λhb=> ?_) (λhb=> ?_)⟩⟩
  ·have Qi:aj r=some r.2:=by unfold aj;rw [if_pos hb]
   have ht0:(oR (rows.map aj) i d.vj).1=0:=by unfold oR;rw [AU,Qi]
   rw [if_pos hb] at htR;have xd:=Ext.dr u1;obtain ⟨p0,p1,pb,p2⟩:=amC AV (hbr.ext xd) (k:=i) ab vR d.vj;have nK:∀j,K2 j->some b≠some j:=λj hj q=>by injection q with q;exact hnK j hj (q▸hFb)
   refine ⟨⟨aB b,16,16⟩,(hmr.ext xd).at 2 rfl,inb,gT rfl ⟨⟨p0,p1⟩,by rw [pb];exact nK _ kw,by rw [pb];exact nK _ k3,λu2 e2=> ?_⟩⟩;obtain ⟨q1,q2⟩:=p2 u2 e2;have qv:Mod (λi=>i=b) u1 u2:=(Mod.aH xd).trans q2;have hmr2:=qv.row hmr hmb;have Hg:(rows.set i (r.1,(r.2.1,d.vj))).length=16:=by rw [jU];exact AV
   obtain ⟨Ir,k2⟩:=hm (bu qv q1 Hg);have rk2:=ue q1 Hg;have hii2:((rows.set i (r.1,(r.2.1,d.vj))).map kj)[i]? =some (kj (r.1,(r.2.1,d.vj))):=by rw [aV,oS ab];rfl
   refine ⟨⟨aB b,16,16⟩,hmr2.at 2 rfl,inb,gT rfl ⟨r.1,rk2.at hii2 (mlA _),?_⟩⟩;rw [ht0,hb];refine yes rfl (yes rfl (fin rfl Iq ?_ λj hj=>(k2 j hj).trans (k1 j hj)));rw [htl,htR];exact Ir
  ·have Qi:aj r=none:=by unfold aj;rw [if_neg (by rw [hb];decide)]
   have ht0:(oR (rows.map aj) i d.vj).1=6:=by unfold oR;rw [AU,Qi]
   rw [if_neg (by rw [hb];decide)] at htR;refine ⟨⟨aB b,16,16⟩,hmr.at 2 rfl,inb,gT rfl ⟨r.1,rk.at hii (mlA r),?_⟩⟩;rw [ht0,hb];refine yes rfl (fB rfl (fin rfl Iq ?_ k1));rw [htl,htR];exact EB
 have n4:=dn hk4;apply Br.mk<;>intro hk5
 ·have hk5:=dn hk5;have Iq:ub M rows d=((lS M (rows.map aj) (ix d) d.dW (EO d.b)).2,rows):=by unfold ub;rw [if_neg n0,if_neg n1,if_neg n2,if_neg n3,if_neg n4,if_pos hk5]
  refine (pR d.b hd3 Y0.drew).mono ?_;rintro e u1 ⟨rfl,hu⟩;subst hu;obtain ⟨F,occ,hE,he⟩:=hBd.e;refine ⟨_,rfl,rfl,rfl,bL kd,wayL kd,wayL kd,(Mu hE hj.b ab (ix d) d.dW (EO d.b) (hjs.mono ab)).mono ?_⟩;rintro e u2 ⟨rfl,hr⟩;obtain ⟨Ir,k2⟩:=he hr;have kk2:∀j,K2 j->u2.heap[j]? =Y0.heap[j]? :=λj hj=>(k2 j hj).trans (kd j hj)
  refine ⟨_,rfl,k2 _ kw,k2 _ k3,bL kk2,wayL kk2,(pR d.b hd3 u2).mono ?_⟩;rintro e u3 ⟨rfl,hu⟩;subst hu;obtain ⟨F',occ',hM,hm⟩:=Ir.m;refine ⟨_,rfl,rfl,rfl,wayL kk2,(Mv hM hj.b ab (ix d) d.dW (EO d.b) (hjs.mono ab)).mono ?_⟩;rintro e u4 ⟨rfl,hr⟩;obtain ⟨hB4,k4⟩:=hm hr;exact ⟨_,rfl,k4 _ kw,k4 _ k3,fin cj Iq hB4 λj hj=>(k4 j hj).trans (kk2 j hj)⟩
 have n5:=dn hk5;apply Br.mk<;>intro hk6
 ·have hk6:=dn hk6;have Iq:ub M rows d=((kl M (rows.map aj) (ix d) d.dW).2,rows):=by unfold ub;rw [if_neg n0,if_neg n1,if_neg n2,if_neg n3,if_neg n4,if_neg n5,if_pos hk6]
  obtain ⟨F,occ,hE,he⟩:=hB.e;refine (Mw hE hj.b ab (ix d) d.dW (hjs.mono ab)).mono ?_;rintro e u2 ⟨rfl,hr⟩;obtain ⟨Ir,k2⟩:=he hr;obtain ⟨F',occ',hM,hm⟩:=Ir.m;refine ⟨_,_,rfl,k2 _ kw,k2 _ k3,(Rh hM hj.b ab (ix d) d.dW (hjs.mono ab)).mono ?_⟩;rintro e u4 ⟨rfl,hr⟩;obtain ⟨hB4,k4⟩:=hm hr;exact ⟨_,_,rfl,k4 _ kw,k4 _ k3,yes cj (fin cj Iq hB4 λj hj=>(k4 j hj).trans (k2 j hj))⟩
 have n6:=dn hk6;apply Br.mk<;>intro hk7
 ·have hk7:=dn hk7;have Iq:ub M rows d=((eZ M (rows.map aj) (Ck d.c) (EO d.b)).2,rows):=by unfold ub;rw [if_neg n0,if_neg n1,if_neg n2,if_neg n3,if_neg n4,if_neg n5,if_neg n6,if_pos hk7]
  have hcw:eW (Ck d.c):=by have b1:=db d.c.1 10 aG;have b2:=db d.c.2.1 14 aG;have b3:=db d.c.2.2 10 aG;unfold eW Ck;simp only;omega
  refine (Rj d.c hd6 Y0).mono ?_;rintro e u1 ⟨rfl,x1⟩;obtain ⟨EB,k1⟩:=hB.same x1;refine ⟨_,_,_,rfl,k1 _ kw,k1 _ k3,λu2 e2 u3 e3=> ?_⟩;have xx:Ext u1 u3:=(aT e2).ag e3 (aD _);have zx:u3.heap.size=u1.heap.size+1:=by rw [zR e3,zA e2]
  have ru:∃τ,Row u3 u1.heap.size (dO (Ck d.c)) τ:=⟨_,by rw [e3,e2];exact Row.set (Row.new u1 [_,_,_] _) [_,_,_]⟩;obtain ⟨τu,ru⟩:=ru;have hB3:=EB.ext (xx.tr (Ext.dr u3));have k13:=(EB.same (xx.tr (Ext.dr u3))).2;have zd:u3.drew.heap.size=u3.heap.size:=rfl;have kb:K2 u1.heap.size\/u1.heap.size<=u1.heap.size/\u1.heap.size<u3.drew.heap.size:=.inr ⟨aD _,by omega⟩;have kk3:∀j,K2 j->u3.drew.heap[j]? =Y0.heap[j]? :=λj hj=>(k13 j hj).trans (k1 j hj)
  have rud:=ru.ext (Ext.dr u3);refine (pR d.b hd3 u3.drew).mono ?_;rintro e u4 ⟨rfl,hu⟩;subst hu;obtain ⟨F,occ,hE,he⟩:=hB3.e;refine ⟨_,rfl,rfl,rfl,rfl,bL kk3,Lo.wv rud,Lo.wv rud,(wZ hE hj.b (Ck d.c) hcw (EO d.b) (hjs.mono ab)).mono ?_⟩;rintro e u5 ⟨rfl,hr⟩;obtain ⟨hB5,k5⟩:=he hr;have kk5:∀j,K2 j->u5.heap[j]? =Y0.heap[j]? :=λj hj=>(k5 j (.inl hj)).trans (kk3 j hj)
  refine ⟨_,rfl,k5 _ (.inl kw),k5 _ (.inl k3),k5 _ kb,bL kk5,Lo.wv (rud.same (k5 _ kb)),(pR d.b hd3 u5).mono ?_⟩;rintro e u6 ⟨rfl,hu⟩;subst hu;obtain ⟨F',occ',hM,hm⟩:=hB5.m;refine ⟨_,rfl,rfl,rfl,rfl,Lo.wv (rud.same (k5 _ kb)),(xc hM hj.b (Ck d.c) hcw (EO d.b) (hjs.mono ab)).mono ?_⟩;rintro e u7 ⟨rfl,hr⟩;obtain ⟨hB7,k7⟩:=hm hr;exact ⟨_,rfl,k7 _ (.inl kw),k7 _ (.inl k3),k7 _ kb,fin cj Iq (hB7.mono λj hj=> .inl hj) λj hj=>(k7 j (.inl hj)).trans (kk5 j hj)⟩
 have n7:=dn hk7;apply Br.mk<;>intro Hh
 ·have Hh:=dn Hh;have Iq:ub M rows d=(M,Cm rows (ix d)):=by unfold ub;rw [if_neg n0,if_neg n1,if_neg n2,if_neg n3,if_neg n4,if_neg n5,if_neg n6,if_neg n7,if_pos Hh]
  have htl:=xe (rows:=rows) (ix d) hi4.1;obtain ⟨i,hi⟩:∃i:Nat,ix d=i:=⟨(cM d.n 4).toNat,by show cM d.n 4=_;omega⟩;have hix:cM d.n 4=(i:Int):=hi;have asO:i<4:=by omega
  have akj:=hB.ahC;obtain ⟨r,vR⟩:=bB (l:=rows) (i:=i) ab;have hii:(rows.map kj)[i]? =some (kj r):=by rw [aV,vR];rfl
  have AU:=mM (rows:=rows) (n:=i) rfl vR;rw [hix];rw [hi] at Iq htl;obtain ⟨F,occ,hE,he⟩:=hB.e;refine (VW hE i).mono ?_;rintro e u1 ⟨rfl,hr⟩;obtain ⟨EB,k1⟩:=he hr;obtain ⟨F',occ',hM,hnK,hm⟩:=EB.mK;obtain ⟨b,hmr,hbr,AV,-,hFb,hmb,bu⟩:=hM.Kq;have rk:=ue hbr AV;have inb:ez (aB b) (i:Int) 16:=rk.iz (i:=(i:Int)) aG ab (by show (i:Int)<((16:Nat):Int);omega);obtain ⟨p0,p1,p2⟩:=aab AV hbr (k:=i) ab (false,(EP,(0,0,false)));have pb:bt (ae (aB b) ((i:Int).toNat*13))=some b:=by rw [bo];rfl
  have nK:∀j,K2 j->some b≠some j:=λj hj q=>by injection q with q;exact hnK j hj (q▸hFb)
  refine ⟨_,rfl,k1 _ kw,k1 _ k3,⟨aB b,16,16⟩,hmr.at 2 rfl,inb,gT rfl ⟨r.1,rk.at hii (mlA r),⟨aB b,16,16⟩,hmr.at 2 rfl,inb,⟨p0,p1⟩,by rw [pb];exact nK _ kw,by rw [pb];exact nK _ k3,λu2 e2=> ?_⟩⟩;obtain ⟨q1,q2⟩:=p2 u2 e2;obtain ⟨Ir,k2⟩:=hm (bu q2 q1 (by rw [jU];exact AV));have AH:ua K2 w0 u2 a M ((Cm rows (i:Int)).map aj) M (Cm rows (i:Int)):=by rw [htl];unfold Cm;rw [eC];exact Ir
  cases hb:r.1 with
  |true=>
   have Qi:aj r=some r.2:=by unfold aj;rw [if_pos hb]
   have ht0:(oT (rows.map aj) i).1=0:=by unfold oT;rw [AU,Qi];rfl
   rw [ht0];exact yes rfl (yes rfl (fin rfl Iq AH λj hj=>(k2 j hj).trans (k1 j hj)))
  |false=>
   have Qi:aj r=none:=by unfold aj;rw [if_neg (by rw [hb];decide)]
   have ht0:(oT (rows.map aj) i).1=6:=by unfold oT;rw [AU,Qi];rfl
   rw [ht0];exact yes rfl (fB rfl (fin rfl Iq AH λj hj=>(k2 j hj).trans (k1 j hj)))
 have n8:=dn Hh;apply Br.mk<;>intro hk9
 ·have hk9:=dn hk9;have Iq:ub M rows d=(aac M (rows.map aj),rows):=by unfold ub;rw [if_neg n0,if_neg n1,if_neg n2,if_neg n3,if_neg n4,if_neg n5,if_neg n6,if_neg n7,if_neg n8,if_pos hk9]
  obtain ⟨F,occ,hE,he⟩:=hB.e;refine (VX hE ab).mono ?_;rintro e u1 ⟨rfl,hr⟩;obtain ⟨EB,k1⟩:=he hr;obtain ⟨F',occ',hM,hm⟩:=EB.m;refine ⟨_,rfl,k1 _ kw,k1 _ k3,(Kr hM).mono ?_⟩;rintro e u2 ⟨sx,sw,rfl,hsx,hsw,x2⟩;obtain ⟨Ir,k2⟩:=EB.same x2;obtain ⟨c1,c2,c3⟩:=aiY hj hk;have hxl:(tu (rows.map aj) 16).length<=16:=by rw [Rk];exact uf _
  have hql:M.q.l.length<=4096:=by obtain ⟨Fs,hs,-⟩:=hM.wu;obtain ⟨gq,mq,qs,-,uZ,-⟩:=hs.queue;have:=uZ.len;have:=uZ.room;omega
  refine ⟨_,sx,sw,rfl,k2 _ kw,k2 _ k3,(Rl hsx hsw c3 hxl hql c1 c2).mono ?_⟩;rintro e u3 ⟨sl,rfl,ho,x3⟩;obtain ⟨hB3,k33⟩:=Ir.same x3;rw [VY] at ho;obtain ⟨F3,occ3,hM3,hm3⟩:=hB3.m;obtain ⟨Fw,hW,bu⟩:=hM3.world;have hl:=Uq M (rows.map aj);refine ⟨sl,rfl,k33 _ kw,k33 _ k3,(Cn hW ab sl (fG M (rows.map aj)) (ho.rd aG) (Ur M _) ab).mono ?_⟩;rintro e u4 ⟨rfl,hr⟩;obtain ⟨hB4,k4⟩:=hm3 (bu hr);exact ⟨_,rfl,k4 _ kw,k4 _ k3,fin cj Iq hB4 λj hj=>(k4 j hj).trans ((k33 j hj).trans ((k2 j hj).trans (k1 j hj)))⟩
 have n9:=dn hk9;apply Br.mk<;>intro Y1
 ·have Y1:=dn Y1;have Iq:ub M rows d=(M,rows):=by unfold ub;rw [if_neg n0,if_neg n1,if_neg n2,if_neg n3,if_neg n4,if_neg n5,if_neg n6,if_neg n7,if_neg n8,if_neg n9,if_pos Y1]
  obtain ⟨F,occ,hE,he⟩:=hB.e;refine (A1 hE hj.b ab (ix d) d.dW).mono ?_;rintro e u1 ⟨rfl,x1⟩;have EB:=hB.ext x1;have k1:=(hB.same x1).2;refine ⟨_,_,_,_,_,_,_,rfl,k1 _ kw,k1 _ k3,λu2 e2 u3 e3=> ?_⟩;have xx:Ext u1 u3:=(aT e2).ag e3 (aD _);have zx:u3.heap.size=u1.heap.size+1:=by rw [zR e3,zA e2]
  have hB3:=EB.ext xx;have k13:=(EB.same xx).2;have kb:(K2 u1.heap.size\/Y0.heap.size<=u1.heap.size/\u1.heap.size<u1.heap.size)\/u1.heap.size<=u1.heap.size/\u1.heap.size<u3.heap.size:=.inr ⟨aD _,by omega⟩;obtain ⟨F',occ',hM,hm⟩:=hB3.m;refine (xf hM hj.b ab (ix d) d.dW).mono ?_;rintro e u4 ⟨rfl,x4⟩;obtain ⟨hB4,k4⟩:=hB3.same x4;refine ⟨_,_,_,_,_,_,_,rfl,k4 _ (.inl (.inl kw)),k4 _ (.inl (.inl k3)),k4 _ kb,λu5 e5 u6 e6=> ?_⟩;have x6:Ext u4 u6:=(aT e5).ag e6 (aD _);obtain ⟨hB6,k6⟩:=hB4.same x6;exact yes cj (yes cj (yes cj (yes cj (fin cj Iq (hB6.mono λj hj=> .inl (.inl hj)) λj hj=>(k6 j (.inl (.inl hj))).trans ((k4 j (.inl (.inl hj))).trans ((k13 j (.inl hj)).trans (k1 j hj)))))))
 have EC:=dn Y1;have Iq:ub M rows d=((pS M (rows.map aj)).1,nS M rows):=by unfold ub;rw [if_neg n0,if_neg n1,if_neg n2,if_neg n3,if_neg n4,if_neg n5,if_neg n6,if_neg n7,if_neg n8,if_neg n9,if_neg EC]
 have hNr:IP (rL M):=Nr.due ⟨hj.t,hj.q,hj.s.now⟩;obtain ⟨F,occ,hE,he⟩:=hB.e;refine (VZ hE hj.b hbm0 hbm hNr hjs hj.u).mono ?_;rintro e u1 ⟨rfl,hr,-⟩;obtain ⟨EB,k1⟩:=he hr;obtain ⟨F',occ',hM,hm⟩:=EB.m;refine ⟨_,rfl,k1 _ kw,k1 _ k3,(Rm hM hj.b hbm0 hbm hNr hjs hj.u).mono ?_⟩;rintro e u2 ⟨rfl,hr⟩;obtain ⟨Ir,k2⟩:=hm hr;refine ⟨_,rfl,k2 _ kw,k2 _ k3,fin cj Iq ?_ λj hj=>(k2 j hj).trans (k1 j hj)⟩;rw [kR];exact Ir
end
section
variable {K:Nat->Prop} {w0 w u w':World} {a:Ad} {Me Mm M:Sm} {Le:List (Option dQ)} {rows:List iV}
end
set_option maxHeartbeats 8000000
set_option linter.unusedVariables false
variable {R:Ending->World->Prop} {w:World} {a0 a1 a2 a3 a4 a5 a6 a7 a8 a9 aw ao au aP aQ aR bM bH bI DV aq ar aA bz bR bQ fe fg eM DW bE bO bC yu yw vV vW yx yy yz DX DY DZ D3 D4 D5 D6 D7 D8 D9:Int}
section
variable {F F':Nat->Prop} {w w':World} {g s o t:Nat} {M M':Sm} {occ:Value} {L:List (Option dQ)}
def EF.dR(h:EF F w g s o t M occ L){j:Nat}{cs:LV}{τ:TypeId}(hr:Row w j cs τ)(h1:E4 τ)(h2:τ≠rR)(h3:τ≠kW)(h4:τ≠Bi)(h5:τ≠Q.kq)(h6:τ≠Q.cQ)(h7:τ≠qD)(h8:τ≠tD)(h9:τ≠lZ):¬F j:=by
 obtain ⟨Fs,av,r1,r2,r3,rfl⟩:=h;rintro (hi|hi|hi)
 ·exact hr.ne r1 h8 hi
 ·exact r2.ka hr h1 h2 h3 h4 h5 h6 h7 hi
 ·obtain ⟨i,hi⟩:=qo hi;obtain ⟨x,-,hx⟩:=r3.s i j hi;exact hr.ne hx h9 rfl
end
abbrev aso:iV:=(false,(EP,(0,0,false)))
abbrev Fl:List iV:=List.replicate 16 aso
def Fo:Fl.map aj=noL:=rfl
def RI:br zl 16=(Fl.map kj).flatten:=rfl
def afi:(ux≠tD/\ux≠lZ)/\CC≠tD/\CC≠lZ:=by decide
def jv0(ai cap bud:Int):Jv 0 (ZR ai cap bud) (Fl.map aj):=by
 have lq:∀y:dQ,some y ∈ Fl.map aj->False:=λy hy=>by
  rw [Fo] at hy;have:=List.eq_of_mem_replicate hy
  cases this
 refine ⟨λy hy=>(lq y hy).elim,⟨⟨pf _,pf _⟩,aD _,⟨pf _,by show (0:Int)<=_;decide⟩,aD _⟩,aD _,λe he=> ?_,λx hx=>(by cases hx),λy hy=>(lq y hy).elim,by show 1<=min (max bud 1) 64/\min (max bud 1) 64<=64;omega⟩;have he:e ∈ l9 ai 9:=he;unfold l9 at he;obtain ⟨p,hp,rfl⟩:=aY.1 he;have hp:p ∈ wF:=qR hp;obtain ⟨k,hk⟩:=Jj.1 hp;exact (Ep hk).1
def RJ(ai bud cap:Int)(hc:9<=cap)(w:World):ah 9 #[ai,bud,cap] w λe w'=>
  ∃a:Ad,e=Value.tuple #[.pointer (aB a.g),.pointer (aB a.m)]/\ua (λ_=>False) w w' a (ZR ai cap bud) (Fl.map aj) (ZR ai cap bud) Fl:=by
 refine (KM ai bud cap hc w).mono ?_;rintro e w' ⟨g,s,o,t,F,m,b,s',o',t',F',rfl,hE,hS,rm,rb,hdj,fF,fF',zm,zb,x⟩;have nm:=hE.dR rm nI.1.1 nI.1.2.1 nI.1.2.2.1 nI.1.2.2.2.1 nI.1.2.2.2.2.1 nI.1.2.2.2.2.2.1 nI.1.2.2.2.2.2.2 afi.1.1 afi.1.2;have nb:=hE.dR rb nI.2.1.1 nI.2.1.2.1 nI.2.1.2.2.1 nI.2.1.2.2.2.1 nI.2.1.2.2.2.2.1 nI.2.1.2.2.2.2.2.1 nI.2.1.2.2.2.2.2.2 afi.2.1 afi.2.2;refine ⟨⟨g,s,o,t,m,s',o',t'⟩,rfl,F,_,_,_,hE,⟨F',b,rm,hS,by rw [<-RI];exact rb,rfl,rfl⟩,λi hi q=> ?_,fF,λi hi=> ?_,λj hj=>hj.elim,x⟩
 ·rcases q with rfl|rfl|q
  ·exact nm hi
  ·exact nb hi
  ·exact hdj i hi q
 ·rcases hi with rfl|rfl|hi
  ·exact zm
  ·exact zb
  ·exact fF' i hi
abbrev dKs:List Bool:=[true,true,true,true,true,true,true,true,true,true,true,true,true,true,true,true,false]
def jI{r:LV}(h:MixR dKs r)(i:Nat)(hi:dKs[i]? =some true):∃z,r[i]? =some (.int .i64 z)/\bT z:=by obtain ⟨v,hv,z,rfl,hz⟩:=h.2 i true hi;exact ⟨z,hv,hz⟩
def ajd{r:LV}(h:r.length=17):∃a0 a1 a2 a3 a4 a5 a6 a7 a8 a9 b0 b1 b2 b3 b4 b5 b6,r=[a0,a1,a2,a3,a4,a5,a6,a7,a8,a9,b0,b1,b2,b3,b4,b5,b6]:=by
 match r,h with
 | [a0,a1,a2,a3,a4,a5,a6,a7,a8,a9,b0,b1,b2,b3,b4,b5,b6],_=>exact ⟨a0,a1,a2,a3,a4,a5,a6,a7,a8,a9,b0,b1,b2,b3,b4,b5,b6,rfl⟩
def afg{r:LV}(h:MixR dKs r):∃d:Re,r=dL d/\dIn d:=by
 obtain ⟨a0,a1,a2,a3,a4,a5,a6,a7,a8,a9,b0,b1,b2,b3,b4,b5,b6,rfl⟩:=ajd h.1;obtain ⟨z0,h0,i0⟩:=jI h 0 rfl;obtain ⟨z1,h1,i1⟩:=jI h 1 rfl;obtain ⟨z2,h2,i2⟩:=jI h 2 rfl;obtain ⟨z3,h3,i3⟩:=jI h 3 rfl;obtain ⟨z4,h4,i4⟩:=jI h 4 rfl;obtain ⟨z5,h5,i5⟩:=jI h 5 rfl;obtain ⟨z6,h6,i6⟩:=jI h 6 rfl;obtain ⟨z7,h7,i7⟩:=jI h 7 rfl;obtain ⟨z8,h8,i8⟩:=jI h 8 rfl;obtain ⟨z9,h9,i9⟩:=jI h 9 rfl;obtain ⟨y0,g0,j0⟩:=jI h 10 rfl;obtain ⟨y1,g1,j1⟩:=jI h 11 rfl;obtain ⟨y2,g2,j2⟩:=jI h 12 rfl;obtain ⟨y3,g3,j3⟩:=jI h 13 rfl;obtain ⟨y4,g4,j4⟩:=jI h 14 rfl;obtain ⟨y5,g5,j5⟩:=jI h 15 rfl;obtain ⟨v,hv,c,rfl⟩:=h.2 16 false rfl
 cases h0;cases h1;cases h2;cases h3;cases h4;cases h5;cases h6;cases h7;cases h8;cases h9;cases g0;cases g1;cases g2;cases g3;cases g4;cases g5;cases hv
 exact ⟨⟨z0,z1,z2,(z3,z4),(z5,z6,z7),(z8,z9,y0),(y1,y2,y3),(y4,y5,c)⟩,rfl,i0,i1,i2,⟨i3,i4⟩,⟨i5,i6,i7⟩,i8,i9,j0⟩
def MU:∀{z:List (LV)},(∀r ∈ z,MixR dKs r)->∃ds:List Re,z=ds.map dL/\∀d ∈ ds,dIn d
 | [],_=>⟨[],rfl,λd hd=>(by cases hd)⟩
 |r::z,h=>by
  obtain ⟨d,rfl,hd⟩:=afg (h r cj)
  obtain ⟨ds,rfl,hds⟩:=MU λr hr=>h r (CF _ hr)
  refine ⟨d::ds,rfl,λx hx=> ?_⟩
  rcases cR.1 hx with rfl|hx
  ·exact hd
  ·exact hds x hx
def PT(D:Dk)(e:En):(cm D e).2.1.1=e.1:=by unfold cm;split<;>rfl
def aj6{D:Dk}{l:List En}{i:Nat}(h:ju l):ju (MW D l i).1.2/\∀x ∈(MW D l i).1.2,∃e ∈ l,e.1=x.1:=by
 unfold MW;split
 ·exact ⟨h,λx hx=>⟨x,hx,rfl⟩⟩
 ·rename_i e he;split
  ·exact ⟨BP h i,λx hx=>⟨x,(wJ ..).subset hx,rfl⟩⟩
  ·refine ⟨U4 h he (PT D e),λx hx=> ?_⟩;rcases jZ hx with hx|rfl
   ·exact ⟨x,hx,rfl⟩
   ·exact ⟨e,aU he,(PT D e).symm⟩
def abG{limit:Int}{D:Dk}{l:List En}(h:ju l):ju (eX limit D l).1.2/\∀x ∈(eX limit D l).1.2,∃e ∈ l,e.1=x.1:=by
 unfold eX;split
 ·exact ⟨h,λx hx=>⟨x,hx,rfl⟩⟩
 split
 ·exact ⟨h,λx hx=>⟨x,hx,rfl⟩⟩
 ·exact aj6 h
structure eL(ai:Int)(n:Nat)(T:Tb):Prop where
 s:Stf n T.1
 CZ:ju T.2
 A6:um T.2
 pl:∀e ∈ T.2,oE e.1
 cl:∀e ∈ T.2,e.2.2.1=false->e.2.1=ku ai e.1 (Go.dm.tU T.1 (pd e.1)).1
section
variable {ai limit:Int} {n:Nat} {T:Tb}
def eL.mono(h:eL ai n T){m:Nat}(hm:n<=m):eL ai m T:=⟨h.s.mono hm,h.CZ,h.A6,h.pl,h.cl⟩
def eL.save(h:eL ai n T)(hn:n<1000000000){i:Nat}{e:En}(hi:T.2[i]? =some e):
  (cm T.1 e).2.1=(e.1,e.2.1,decide ((cm T.1 e).2.2≠0),e.2.2.2)/\eL ai (n+1) ((cm T.1 e).1,T.2.set i (cm T.1 e).2.1)/\∀p,Xw ai ((cm T.1 e).1,T.2.set i (cm T.1 e).2.1) p=Xw ai T p:=by
 have hm:=aU hi;have qi:=h.pl e hm;obtain ⟨g1,g2⟩:=h.A6 e hm;have hsave:(cm T.1 e).2.1=(e.1,e.2.1,decide ((cm T.1 e).2.2≠0),e.2.2.2)/\Stf (n+1) (cm T.1 e).1/\((cm T.1 e).2.2=0->e.2.1=ku ai e.1 (Go.dm.tU (cm T.1 e).1 (pd e.1)).1)/\∀id,id≠pd e.1->Go.dm.tU (cm T.1 e).1 id=Go.dm.tU T.1 id:=by
  by_cases hd:e.2.2.1=true
  ·have hid:=KL qi;have hle:=abE g1 g2;obtain ⟨s1,s2,s3,-⟩:=h.s.save (id:=pd e.1) (body:=lM (gz e.2.1)) ab ab;have e1:cm T.1 e=((nH T.1 (pd e.1) (lM (gz e.2.1))).1,(e.1,e.2.1,decide ((nH T.1 (pd e.1) (lM (gz e.2.1))).2≠0),e.2.2.2),(nH T.1 (pd e.1) (lM (gz e.2.1))).2):=by unfold cm;rw [if_pos hd]
   rw [e1];refine ⟨rfl,s1,λq=> ?_,λid gy=>abf (s2 id gy)⟩;simp only at q ⊢;rw [s3 q];exact (Xx ai e.1 g1 g2).symm
  ·have e1:cm T.1 e=(T.1,e,0):=by unfold cm;rw [if_neg hd]
   have hd':e.2.2.1=false:=by simpa using hd
   rw [e1];refine ⟨?_,h.s.mono ab,λ_=>h.cl e hm hd',λ_ _=>rfl⟩;obtain ⟨a,b,c,d⟩:=e;simp only at hd';rw [hd'];rfl
 obtain ⟨s2,s3,s4,s5⟩:=hsave;rw [s2];generalize (cm T.1 e).1=D' at*;generalize (cm T.1 e).2.2=cd at*;generalize hdd:decide (cd≠0)=dd at*;have s4:dd=false->e.2.1=ku ai e.1 (Go.dm.tU D' (pd e.1)).1:=λq=>s4 (by rw [q] at hdd;simpa using hdd)
 have eV:=mem_set h.CZ hi (e':=(e.1,e.2.1,dd,e.2.2.2)) rfl;have hnd:=U4 h.CZ hi (e':=(e.1,e.2.1,dd,e.2.2.2)) rfl;refine ⟨rfl,⟨s3,hnd,λx hx=> ?_,λx hx=> ?_,λx hx hc=> ?_⟩,λp=> ?_⟩
 ·rcases (eV x).1 hx with rfl|⟨hx,-⟩
  ·exact ⟨g1,g2⟩
  ·exact h.A6 x hx
 ·rcases (eV x).1 hx with rfl|⟨hx,-⟩
  ·exact qi
  ·exact h.pl x hx
 ·rcases (eV x).1 hx with rfl|⟨hx,gy⟩
  ·exact s4 hc
  ·rw [s5 _ (ahR qi gy)];exact h.cl x hx hc
 ·by_cases hp:ln T.2 p
  ·obtain ⟨x,hx,rfl⟩:=hp;rw [gm h.CZ hx];by_cases q:x.1=e.1
   ·have:x=e:=by have a:=(uM h.CZ).2 ⟨hx,q⟩;have b:=(uM h.CZ).2 ⟨hm,rfl⟩;rw [a] at b;exact Option.some.inj b
    subst this;exact gm (T:=(D',T.2.set i (x.1,x.2.1,dd,x.2.2.2))) (e:=(x.1,x.2.1,dd,x.2.2.2)) hnd ((eV _).2 (.inl rfl))
   ·exact gm (T:=(D',T.2.set i (e.1,e.2.1,dd,e.2.2.2))) (e:=x) hnd ((eV x).2 (.inr ⟨hx,q⟩))
  ·have hp':¬ln (T.2.set i (e.1,e.2.1,dd,e.2.2.2)) p:=by
    rintro ⟨x,hx,rfl⟩;rcases (eV x).1 hx with rfl|⟨hx,-⟩
    ·exact hp ⟨e,hm,rfl⟩
    ·exact hp ⟨x,hx,rfl⟩
   rw [ke hp,ke (T:=(D',T.2.set i (e.1,e.2.1,dd,e.2.2.2))) hp'];simp only;rw [s5 _ (ahR qi λq=>hp ⟨e,hm,q.symm⟩)]
def eL.erase(h:eL ai n T){i:Nat}{e:En}(hi:T.2[i]? =some e)(hc:e.2.2.1=false):
  eL ai n (T.1,T.2.eraseIdx i)/\∀p,Xw ai (T.1,T.2.eraseIdx i) p=Xw ai T p:=by
 have hm:=aU hi;have eV:=mem_erase h.CZ hi;have hnd:=BP h.CZ i;refine ⟨⟨h.s,hnd,λx hx=>h.A6 x ((eV x).1 hx).1,λx hx=>h.pl x ((eV x).1 hx).1,λx hx=>h.cl x ((eV x).1 hx).1⟩,λp=> ?_⟩;by_cases hp:ln (T.2.eraseIdx i) p
 ·obtain ⟨x,hx,rfl⟩:=hp;rw [gm (T:=(T.1,T.2.eraseIdx i)) hnd hx,gm h.CZ ((eV x).1 hx).1]
 ·rw [ke (T:=(T.1,T.2.eraseIdx i)) hp];by_cases q:e.1=p
  ·subst q;rw [gm h.CZ hm];exact (h.cl e hm hc).symm
  ·rw [ke];rintro ⟨x,hx,rfl⟩;exact hp ⟨x,(eV x).2 ⟨hx,λq2=>q q2.symm⟩,rfl⟩
def Sam(ai:Int)(n:Nat)(T T':Tb):Prop:=eL ai n T'/\∀p,oE p->Xw ai T' p=Xw ai T p
def eL.go(h:eL ai n T)(hn:n<1000000000)(i:Nat):Sam ai (n+1) T (MW T.1 T.2 i).1:=by
 unfold MW;split
 ·exact ⟨h.mono ab,λ_ _=>rfl⟩
 rename_i e hi;obtain ⟨s2,s3,s4⟩:=h.save hn hi;split
 ·rename_i hz;have ED:=(cK.1 hi).1;obtain ⟨t1,t2⟩:=s3.erase (i:=i) (e:=(cm T.1 e).2.1) (oS ED) (by rw [s2,hz];rfl);simp only [List.eraseIdx_set_eq] at t1 t2;exact ⟨t1,λp _=>(t2 p).trans (s4 p)⟩
 ·exact ⟨s3,λp _=>s4 p⟩
def eL.room(h:eL ai n T)(hn:n<1000000000):Sam ai (n+1) T (eX limit T.1 T.2).1:=by
 unfold eX;split
 ·exact ⟨h.mono ab,λ_ _=>rfl⟩
 split
 ·exact ⟨h.mono ab,λ_ _=>rfl⟩
 ·exact h.go hn _
def eL.push(h:eL ai n T){p:Po}{C:List Int}(hq:oE p)(hh:¬ln T.2 p)(hg:um (T.2++ [(p,C,false,0)]))(hC:C=ku ai p (Go.dm.tU T.1 (pd p)).1):
  Sam ai n T (T.1,T.2++ [(p,C,false,0)]):=by
 have hnd:ju (T.2++ [(p,C,false,0)]):=O1 h.CZ hh;have eV:∀x,x ∈ T.2++ [(p,C,false,0)] ↔ x ∈ T.2\/x=(p,C,false,0):=λx=>by simp
 refine ⟨⟨h.s,hnd,hg,λx hx=> ?_,λx hx hc=> ?_⟩,λq=> ?_⟩
 ·rcases (eV x).1 hx with hx|rfl
  ·exact h.pl x hx
  ·exact hq
 ·rcases (eV x).1 hx with hx|rfl
  ·exact h.cl x hx hc
  ·exact hC
 ·intro _;by_cases hp:ln T.2 q
  ·obtain ⟨x,hx,rfl⟩:=hp;rw [gm h.CZ hx,gm (T:=(T.1,T.2++ [(p,C,false,0)])) hnd ((eV x).2 (.inl hx))]
  ·rw [ke hp];by_cases e:q=p
   ·subst e;rw [gm (T:=(T.1,T.2++ [(q,C,false,0)])) (e:=(q,C,false,0)) hnd ((eV _).2 (.inr rfl))];exact hC
   ·rw [ke (T:=(T.1,T.2++ [(p,C,false,0)]))];rintro ⟨x,hx,rfl⟩;rcases (eV x).1 hx with hx|rfl
    ·exact hp ⟨x,hx,rfl⟩
    ·exact e rfl
def eL.am6(h:eL ai n T){i:Nat}{e:En}(hi:T.2[i]? =some e):Sam ai n T (T.1,T.2.eraseIdx i++ [e]):=by
 have hm:=aU hi;have eV:=mem_erase h.CZ hi;have mu:∀x,x ∈ T.2.eraseIdx i++ [e] ↔ x ∈ T.2:=λx=>by
  simp only [c5,gU];constructor
  ·rintro (q|rfl)
   ·exact ((eV x).1 q).1
   ·exact hm
  ·intro hx;by_cases q:x.1=e.1
   ·right;have a:=(uM h.CZ).2 ⟨hx,q⟩;have b:=(uM h.CZ).2 ⟨hm,rfl⟩;rw [a] at b;exact Option.some.inj b
   ·exact .inl ((eV x).2 ⟨hx,q⟩)
 have hnd:ju (T.2.eraseIdx i++ [e]):=O1 (BP h.CZ i) λ⟨x,hx,q⟩=>((eV x).1 hx).2 q
 exact ⟨⟨h.s,hnd,λx hx=>h.A6 x ((mu x).1 hx),λx hx=>h.pl x ((mu x).1 hx),λx hx=>h.cl x ((mu x).1 hx)⟩,λp _=>afX h.CZ hnd mu p⟩
def eL.load(h:eL ai n T)(hn:n<1000000000)(p:Po)(hg:um (HI ai limit T.1 T.2 p).1.2):Sam ai (n+1) T (HI ai limit T.1 T.2 p).1:=by
 unfold HI at hg ⊢;split
 ·exact ⟨h.mono ab,λ_ _=>rfl⟩
 rename_i lr;rw [if_neg lr] at hg;rcases eK (λe:En=>e.1==p) T.2 with ⟨hf,lq⟩|⟨k,e,hk,he,hf,-⟩
 ·have hh:¬ln T.2 p:=by rintro ⟨x,hx,e⟩;have:=lq x hx;simp [e] at this
  rw [hf,if_neg aG] at hg ⊢;have hr:=h.room (limit:=limit) hn;split
  ·exact hr
  rename_i hz;rw [if_neg hz] at hg;have hh':¬ln (eX limit T.1 T.2).1.2 p:=by rintro ⟨x,hx,hxe⟩;obtain ⟨e,he,hq⟩:=(abG (limit:=limit) (D:=T.1) h.CZ).2 x hx;exact hh ⟨e,he,hq.trans hxe⟩
  obtain ⟨p1,p2⟩:=hr.1.push (by simpa using lr) hh' hg rfl;exact ⟨p1,λq hq=>(p2 q hq).trans (hr.2 q hq)⟩
 ·rw [hf,if_pos ab,eC,hk];obtain ⟨t1,t2⟩:=h.am6 hk;exact ⟨t1.mono ab,t2⟩
def eL.ajH(h:eL ai n T)(hn:n<1000000000)(p:Po):Sam ai (n+1) T (m4 T.1 T.2 p).1:=by
 unfold m4;split
 ·split
  ·exact ⟨h.mono ab,λ_ _=>rfl⟩
  ·exact h.go hn _
 ·exact ⟨h.mono ab,λ_ _=>rfl⟩
def eL.QT:∀(l:List En) {n:Nat} {D:Dk} {pre:List En} {k:Int},eL ai n (D,pre++l)->n+l.length<1000000000->Sam ai (n+l.length) (D,pre++l) (QT D pre l k).1
 | [],n,D,pre,k,h,hn=>by
   rw [qQ] at h ⊢
   exact ⟨h,λ_ _=>rfl⟩
 |e::l,n,D,pre,k,h,hn=>by
  rw [c8] at hn
  have hi:(pre++e::l)[pre.length]? =some e:=by simp
  obtain ⟨s2,s3,s4⟩:=h.save ab (i:=pre.length) hi;have ou:(pre++e::l).set pre.length (cm D e).2.1=pre++(cm D e).2.1::l:=by simp
  simp only [ou] at s3 s4;unfold Go.Proofs.YtkkkfkopcfdmaaaGreatDoor.QT;split
  ·have hc:pre++(cm D e).2.1::l=(pre++ [(cm D e).2.1])++l:=by simp
   rw [hc] at s3 s4;obtain ⟨q1,q2⟩:=eL.QT l (k:=if e.2.2.1=true then k+1 else k) s3 ab;exact ⟨q1.mono (by rw [c8];omega),λp hp=>(q2 p hp).trans (s4 p)⟩
  ·exact ⟨s3.mono (by rw [c8];omega),λp _=>s4 p⟩
def eL.am7(h:eL ai n T)(hn:n+T.2.length<1000000000):Sam ai (n+T.2.length) T (mf T.1 T.2).1:=eL.QT (pre:=[]) T.2 h hn
def eL.dc(h:eL ai n T)(hn:n<1000000000)(body:List Int):Sam ai (n+1) T ((nH T.1 0 body).1,T.2):=by
 obtain ⟨s1,s2,-,-⟩:=h.s.save (id:=0) (body:=body) ab ab;have hl:∀{p:Po},oE p->Go.dm.tU (nH T.1 0 body).1 (pd p)=Go.dm.tU T.1 (pd p):=λ{p} hp=>abf (s2 _ (by have:=KL hp;omega))
 refine ⟨⟨s1,h.CZ,h.A6,h.pl,λe he hc=> ?_⟩,λp q=> ?_⟩
 ·simp only;rw [hl (h.pl e he)];exact h.cl e he hc
 ·by_cases hp:ln T.2 p
  ·obtain ⟨x,hx,rfl⟩:=hp;rw [gm h.CZ hx];exact gm (T:=((nH T.1 0 body).1,T.2)) h.CZ hx
  ·rw [ke hp,ke (T:=((nH T.1 0 body).1,T.2)) hp];simp only;rw [hl q]
end
def cT(ai:Int)(T:Tb)(c:Ce):Int:=if c.2.1<0 then 1 else if oE (pos c) then Ge (pos c) (Xw ai T (pos c)) c else 0
section
variable {ai:Int} {n:Nat} {T T':Tb}
def ajL(h:Sam ai n T T')(c:Ce):cT ai T' c=cT ai T c:=by
 unfold cT;split
 ·rfl
 split
 ·rename_i hp;rw [h.2 _ hp]
 ·rfl
def LM(h:eL ai n T){c:Ce}(hh:ln T.2 (pos c)):fx T.2 c=cT ai T c:=by obtain ⟨e,he,hp⟩:=hh;have hi:=h.pl e he;rw [hp] at hi;rw [Az h.CZ he hp];unfold cT;rw [if_pos hi,<-hp,gm h.CZ he]
def ahS(h:eL ai n T)(c:Ce):fx T.2 c= -1\/fx T.2 c=cT ai T c:=by
 by_cases hh:ln T.2 (pos c)
 ·exact .inr (LM h hh)
 ·exact .inl (LN hh)
def TH{p:Po}{C:List Int}(hl:C.length=8192){c:Ce}(hp:p=pos c)(hy:Eo c){b:Int}(h:Ge p C c=b):(kx p C c b).1=C:=by
 unfold kx;split
 ·rfl
 ·split
  ·rfl
  ·have hi:=xV hy;have hk:Kf p c=true:=(oh p c).2 ⟨hy,hp.symm⟩;unfold Ge at h;rw [if_pos hk] at h;have:=afV (c:=C) (i:=idx c) hi.1 (by rw [hl];omega);rw [h] at this;obtain ⟨h1,h2⟩:=cK.1 this;simp only;rw [<-h2];exact List.set_getElem_self h1
theorem YL{l:List En}{c:Ce}{b:Int}(h:(fj l c b).2≠0):(fj l c b).1=l:=by grind [fj]
theorem acE{l:List En}{c:Ce}{b:Int}(h:(fj l c b).2=0):cO b=true:=by grind [fj]
def eL.set(h:eL ai n T)(c:Ce)(b:Int):eL ai n (T.1,(fj T.2 c b).1)/\∀c',cT ai (T.1,(fj T.2 c b).1) c'=if (fj T.2 c b).2=0/\c'=c then b else cT ai T c':=by
 by_cases h0:(fj T.2 c b).2=0
 case neg=>
  rw [YL h0];exact ⟨h,λc'=>by rw [if_neg λq=>h0 q.1]⟩
 obtain ⟨hy,e,he,hp⟩:=J5 h0;have hb:=acE h0;obtain ⟨-,k2,k3,k4⟩:=acF h.CZ h.A6 ⟨e,he,hp⟩ hy hb;obtain ⟨k,hk,hf⟩:=ym h.CZ he;have hs:fj T.2 c b=(T.2.eraseIdx k++ [(e.1,(kx e.1 e.2.1 c b).1,e.2.2.1||(Ge e.1 e.2.1 c !=b),e.2.2.2)],0):=by unfold fj;rw [<-hp,hf,if_neg ab,if_neg (by simpa using hy),if_neg (by rw [hb];decide),eC,hk];rfl
 obtain ⟨g1,g2⟩:=h.A6 e he;have Y2:(e.2.2.1||(Ge e.1 e.2.1 c !=b))=false->e.2.2.1=false/\(kx e.1 e.2.1 c b).1=e.2.1:=λq=>by rw [Bool.or_eq_false_iff] at q;exact ⟨q.1,TH g1 hp hy (by simpa using q.2)⟩
 have eV:=mem_erase h.CZ hk;have DR:eL ai n (T.1,(fj T.2 c b).1):=⟨h.s,k2,aaS h.A6 c b,Vo h.pl,λx hx hc=>by
  simp only at hx ⊢;rw [hs] at hx;rcases c5.1 hx with hx|hx
  ·exact h.cl x ((eV x).1 hx).1 hc
  ·rw [gU.1 hx] at hc ⊢;obtain ⟨q1,q2⟩:=Y2 hc;simp only;rw [q2];exact h.cl e he q1⟩
 refine ⟨DR,λc'=> ?_⟩;by_cases hq:ln T.2 (pos c')
 ·rw [<-LM DR ((k3 _).2 hq),<-LM h hq,k4];by_cases q:c'=c
  ·rw [if_pos q,if_pos ⟨h0,q⟩]
  ·rw [if_neg q,if_neg λx=>q x.2]
 ·rw [if_neg λx=>hq (by rw [x.2];exact ⟨e,he,hp⟩)];unfold cT;rw [ke hq,ke (T:=(T.1,(fj T.2 c b).1)) λx=>hq ((k3 _).1 x)]
end
def ZT(O:Ce->Bool)(V V':Ce->Int):Prop:=∀c,V' c=V c\/aC (V' c)=false\/O c=false
def ZT.cu{O:Ce->Bool}{V:Ce->Int}:ZT O V V:=λ_=> .inl rfl
def ZT.tr{O:Ce->Bool}{V V' V'':Ce->Int}(h:ZT O V V')(k:ZT O V' V''):ZT O V V'':=λc=>by
 rcases k c with q|q|q
 ·rw [q];exact h c
 ·exact .inr (.inl q)
 ·exact .inr (.inr q)
section
variable {ai:Int} {n:Nat} {O:Ce->Bool}
def Bhd(ai:Int)(n:Nat)(O:Ce->Bool)(M M':Sm):Prop:=eL ai n M'.T/\ZT O (cT ai M.T) (cT ai M'.T)
def O9{M:Sm}(h:eL ai n M.T)(c:Ce){b:Int}(hb:aC b=true->O c=false):Bhd ai n O M (uH M c b):=by
 obtain ⟨h1,h2⟩:=h.set c b;refine ⟨h1,λc'=> ?_⟩;have e:cT ai (uH M c b).T c'=_:=h2 c';rw [e];split
 ·rename_i q
  cases hs:aC b with
  |false=>exact .inr (.inl rfl)
  |true=>exact .inr (.inr (by rw [q.2];exact hb hs))
 ·exact .inl rfl
def G0{M:Sm}(h:eL ai n M.T){x:Go.fh.Cg}(hb:aC x.2=true->O x.1=false):Bhd ai n O M (da M x):=by
 unfold da;split
 ·exact ⟨h,ZT.cu⟩
 ·exact O9 h _ hb
def C8:∀(l:List Go.fh.Cg) {M:Sm},eL ai n M.T->(∀x ∈ l,aC x.2=true->O x.1=false)->Bhd ai n O M (l.foldl da M)
 | [],M,h,_=>⟨h,ZT.cu⟩
 |x::l,M,h,hl=>by
  obtain ⟨h1,h2⟩:=G0 h (hl x cj)
  obtain ⟨h3,h4⟩:=C8 l h1 λy hy=>hl y (by simp [hy])
  exact ⟨h3,h2.tr h4⟩
def PX{b:Int}(h:kg b=true):aC b=false:=by unfold kg qU at h;unfold aC;simp at h ⊢;omega
def uX(l:Int):aC (jb l)=false:=by unfold jb aC;simp;omega
def agk{M:Sm}{c:Ce}(hh:¬zY O M c=true):∀x ∈ Go.fh.gF (fx M.T.2) c,aC x.2=true->O x.1=false:=by
 intro x hx hs;by_cases h3:fx M.T.2 c=3
 ·have he:(Go.fh.gF (fx M.T.2) c).isEmpty=false:=by
   cases hn:Go.fh.gF (fx M.T.2) c with
   |nil=>rw [hn] at hx;cases hx
   |cons=>rfl
  have ho:O (fu c)=false:=by unfold zY at hh;rw [he,h3] at hh;simpa using hh
  unfold Go.fh.gF Kb at hx;rw [if_pos h3] at hx;split at hx
  ·rename_i hy;rcases cR.1 hx with rfl|hx
   ·rw [PX hy] at hs;cases hs
   ·rw [gU.1 hx];exact ho
  ·cases hx
 ·unfold Go.fh.gF at hx;rw [if_neg h3] at hx;have h0:aC 0=false:=by decide
  split at hx
  ·unfold lW at hx;split at hx
   ·rw [gU.1 hx,h0] at hs;cases hs
   split at hx
   ·rw [gU.1 hx,uX] at hs;cases hs
   split at hx
   ·rw [gU.1 hx,uX] at hs;cases hs
   split at hx
   ·cases hx
   ·obtain ⟨y,-,rfl⟩:=aY.1 hx;rw [uX] at hs;cases hs
  ·cases hx
def agl{M:Sm}(h:eL ai n M.T)(c:Ce):Bhd ai n O M (mZ O M c):=by
 unfold mZ;split
 ·exact ⟨h,ZT.cu⟩
 split
 ·exact G0 (M:={M with lh:=M.lh++ [fu c]}) h λq=>by
   have:aC 0=false:=by decide
   rw [this] at q;cases q
 ·rename_i hh;exact C8 _ h (agk hh)
def PY:∀(l:List Ce) {M:Sm},eL ai n M.T->Bhd ai n O M (l.foldl (mZ O) M)
 | [],M,h=>⟨h,ZT.cu⟩
 |x::l,M,h=>by
  obtain ⟨h1,h2⟩:=agl (O:=O) h x
  obtain ⟨h3,h4⟩:=PY l h1
  exact ⟨h3,h2.tr h4⟩
def abI{M:Sm}(h:eL ai n M.T):Bhd ai n O M (FZ O M):=PY (rL M) (M:=xO M) h
end
def tI(b:dE):Prop:=(2<=b.wd/\b.wd<=131072)/\(1<=b.ht/\b.ht<=262144)/\(-262144<=b.speed.1/\b.speed.1<=262144)/\(-262144<=b.speed.2.1/\b.speed.2.1<=262144)/\-262144<=b.speed.2.2/\b.speed.2.2<=262144
def GX(P:Ce->Prop)(b:dE):Prop:=∀c,pN b.box c->P c
def Af{aE:Ce}{wd ht:Int}(hf:eJ aE 98000000000000)(hw:2<=wd/\wd<=131072)(hh:1<=ht/\ht<=262144):
  k8 aE wd ht=((aE.1-wd / 2,aE.2.1,aE.2.2-wd / 2),(aE.1+wd / 2,aE.2.1+ht,aE.2.2+wd / 2)):=by
 have AN:max wd 0 / 2=wd / 2:=by omega
 have hh2:max ht 0=ht:=by omega
 have e:k8 aE wd ht=((lG aE.1 (wd / 2),lG aE.2.1 0,lG aE.2.2 (wd / 2)),(fI aE.1 (wd / 2),fI aE.2.1 ht,fI aE.2.2 (wd / 2))):=by unfold k8;rw [AN,hh2];rfl
 unfold eJ at hf;rw [e];unfold lG fI dz;simp only [Prod.mk.injEq];omega
def Ag{b:dE}(hf:eJ b.aE 98000000000000)(hm:tI b):sM b.box/\bY b.box 99000000000000:=by have e:b.box=_:=Af hf hm.1 hm.2.1;rw [e];unfold tI at hm;unfold eJ at hf;unfold sM bY;simp only;omega
def Vt{aE:Ce}{wd ht:Int}{v:Ce}{y:Bx}(hf:eJ aE 97000000000000)(hw:2<=wd/\wd<=131072)(hh:1<=ht/\ht<=262144)(hv:(-16777216<=v.1/\v.1<=16777216)/\(-16777216<=v.2.1/\v.2.1<=16777216)/\-16777216<=v.2.2/\v.2.2<=16777216)
  (hy:y=Ma (k8 aE wd ht) v):k8 (jK aE (xt y.1 (k8 aE wd ht).1)) wd ht=y:=by
 have hf':=hf;have e:=Af (aE:=aE) (hf.up aG) hw hh;unfold eJ at hf;have e2:jK aE (xt y.1 (k8 aE wd ht).1)=(aE.1+v.1,aE.2.1+v.2.1,aE.2.2+v.2.2):=by rw [hy,e];show (fI aE.1 (lG (aE.1-wd / 2+v.1) (aE.1-wd / 2)),fI aE.2.1 (lG (aE.2.1+v.2.1) aE.2.1),fI aE.2.2 (lG (aE.2.2-wd / 2+v.2.2) (aE.2.2-wd / 2)))=_;unfold lG fI dz;simp only [Prod.mk.injEq];omega
 rw [e2,Af (by unfold eJ;simp only;omega) hw hh,hy,e];unfold Ma;simp only [Prod.mk.injEq];refine ⟨⟨?_,?_,?_⟩,?_,?_,?_⟩<;>(try simp only)<;>omega
section
variable {V:Ce->Int} {P:Ce->Prop}
def YF{b:dE}(hf:eJ b.aE 97000000000000)(hm:tI b)(hP:∀c,aC (V c)=false->P c)(h:GX P b):GX P (CV V b)/\tI (CV V b):=by
 obtain ⟨q1,q2⟩:=Ag (hf.up aG) hm;obtain ⟨v,hv,hy,HQ⟩:=Ym (V:=V) (p:=aC) (d:=kv b.aE b.speed) (up:=32768) q2 q1 hP h;refine ⟨?_,hm.1,hm.2.1,?_⟩
 ·have e:(CV V b).box=(gG V aC b.box (kv b.aE b.speed) 32768).1:=Vt hf hm.1 hm.2.1 hv hy;unfold GX;rw [e];exact HQ
 ·have c0:dz 0=0:=by decide
  have hs:=hm.2.2;show ((-262144<=(gl (gG V aC b.box (kv b.aE b.speed) 32768).2 b.speed).1/\(gl (gG V aC b.box (kv b.aE b.speed) 32768).2 b.speed).1<=262144)/\(-262144<=(gl (gG V aC b.box (kv b.aE b.speed) 32768).2 b.speed).2.1/\(gl (gG V aC b.box (kv b.aE b.speed) 32768).2 b.speed).2.1<=262144)/\-262144<=(gl (gG V aC b.box (kv b.aE b.speed) 32768).2 b.speed).2.2/\(gl (gG V aC b.box (kv b.aE b.speed) 32768).2 b.speed).2.2<=262144);generalize (gG V aC b.box (kv b.aE b.speed) 32768).2=t;generalize b.speed=s at hs;have e1:(gl t s).1=if t.1=true then dz 0 else s.1:=by unfold gl;cases t.1<;>cases t.2.1<;>cases t.2.2<;>rfl
  have e2:(gl t s).2.1=if t.2.1=true then dz 0 else s.2.1:=by unfold gl;cases t.1<;>cases t.2.1<;>cases t.2.2<;>rfl
  have e3:(gl t s).2.2=if t.2.2=true then dz 0 else s.2.2:=by unfold gl;cases t.1<;>cases t.2.1<;>cases t.2.2<;>rfl
  rw [e1,e2,e3,c0];refine ⟨?_,?_,?_⟩<;>split<;>omega
def GY{n jump less least:Int}{j:Bool}(hn: -262144<=n/\n<=262144)(hj:0<=jump/\jump<=262144)(hl:0<=less)(ht:0<=least/\least<=262144): -262144<=wN n jump less least j/\wN n jump less least j<=262144:=by unfold wN;split<;>omega
def acC{b:dE}{i:El}(h:tI b):tI (lP V (pn b i) i):=by
 have hw:∀n,-262144<=zC n/\zC n<=262144:=λn=>by unfold zC;omega
 obtain ⟨h1,h2,h3,h4,h5⟩:=h;unfold lP;split
 ·exact ⟨h1,h2,hw _,GY h4 aG aG aG,hw _⟩
 ·split
  ·exact ⟨h1,h2,hw _,GY h4 aG aG aG,hw _⟩
  ·exact ⟨h1,h2,hw _,GY h4 aG aG aG,hw _⟩
def YI(b:dE)(i:El):(lP V b i).aE=b.aE:=by
 unfold lP;split
 ·rfl
 ·split<;>rfl
def TD{b:dE}{i:El}(hf:eJ b.aE 97000000000000)(hm:tI b)(hP:∀c,aC (V c)=false->P c)(h:GX P b):GX P (qZ V b i)/\tI (qZ V b i):=by refine YF (V:=V) (b:=lP V (pn b i) i) (by rw [YI];exact hf) (acC hm) hP ?_;unfold GX;rw [(B2 V (pn b i) i).1];exact h
def TE{b:dE}{d:Ce}(hf:eJ b.aE 97000000000000)(hm:tI b)(hP:∀c,aC (V c)=false->P c)(h:GX P b):GX P (jf V b d)/\tI (jf V b d):=by obtain ⟨q1,q2⟩:=Ag (hf.up aG) hm;obtain ⟨v,hv,hy,HQ⟩:=J9 (V:=V) (p:=aC) (d:=kv b.aE d) q2 q1 hP h;refine ⟨?_,hm⟩;have e:(jf V b d).box=(kC V aC b.box (kv b.aE d)).1:=Vt hf hm.1 hm.2.1 ab hy;unfold GX;rw [e];exact HQ
def Qf(P:Ce->Prop)(m:Int)(b:dE):Prop:=okB m b/\tI b/\GX P b
def Qf.up{b:dE}{m n:Int}(h:Qf P m b)(hn:m<=n):Qf P n b:=⟨h.1.up hn,h.2⟩
def Vu{b:dE}{d:Ce}{m:Int}(h:Qf P m b)(hm:m<=97000000000000)(hP:∀c,aC (V c)=false->P c):Qf P (m+12582912) (jf V b d):=by obtain ⟨q1,q2⟩:=TE (V:=V) (d:=d) (h.1.1.up hm) h.2.1 hP h.2.2;exact ⟨uG h.1 ab,q2,q1⟩
def aj7{i k:Nat}{l:List dE}{m:Int}(hP:∀c,aC (V c)=false->P c)(h:∀b ∈ l,Qf P m b)(hm:m<=97000000000000):∀b ∈ uF V i k l,Qf P (m+12582912) b:=by
 unfold uF;split
 ·rename_i a b ha hb;intro x hx;rcases jZ hx with hx|rfl
  ·rcases jZ hx with hx|rfl
   ·exact (h x hx).up ab
   ·exact Vu (h a (aU ha)) hm hP
  ·exact Vu (h b (aU hb)) hm hP
 ·exact λx hx=>(h x hx).up ab
def ah5{i:Nat}(hP:∀c,aC (V c)=false->P c):∀(n k:Nat) {l:List dE} {m:Int},(∀b ∈ l,Qf P m b)->m+n*12582912<=97000000000000->∀b ∈ Dz V i k n l,Qf P (m+n*12582912) b
 |0,k,l,m,h,hm=>λx hx=>(h x hx).up ab
 |n+1,k,l,m,h,hm=>λx hx=>(ah5 (i:=i) hP n (k+1) (aj7 (i:=i) (k:=k) hP h ab) ab x hx).up ab
def anm(hP:∀c,aC (V c)=false->P c):∀(n i:Nat) {l:List dE} {m:Int},l.length<=16->(∀b ∈ l,Qf P m b)->m+n*(16*12582912)<=97000000000000->(∀b ∈ crB V i n l,Qf P (m+n*(16*12582912)) b)
 |0,i,l,m,hl,h,hm=>λx hx=>(h x hx).up ab
 |n+1,i,l,m,hl,h,hm=>by
  have q1:=ah5 (i:=i) hP (l.length-(i+1)) (i+1) h ab
  have q2:=(Sq (V:=V) (i:=i) (l.length-(i+1)) (i+1) (λb hb=>(h b hb).1) ab).2
  have p:=anm hP n (i+1) (l:=Dz V i (i+1) (l.length-(i+1)) l) (m:=m+16*12582912) (by rw [q2];exact hl) (λx hx=>(q1 x hx).up ab) ab
  exact λx hx=>(p x hx).up ab
def agj{l:List dE}{m:Int}(hP:∀c,aC (V c)=false->P c)(h:∀b ∈ l,Qf P m b)(hl:l.length<=16)(hm:m<=96000000000000):∀b ∈ qq V l,Qf P (m+16*16*12582912) b:=λx hx=>(anm hP l.length 0 hl h ab x hx).up ab
end
def ajK(P:Ce->Prop)(L:List (Option dQ)):Prop:=∀y,some y ∈ L->tI y.1/\GX P y.1
def PW:∀(l:List (Nat × dE)) {L:List (Option dQ)} {y:dQ},some y ∈ zJ L l->some y ∈ L\/∃x ∈ l,y.1=x.2
 | [],L,y,h=> .inl h
 |x::l,L,y,h=>by
  rcases PW l (L:=uB L x.1 x.2) h with h|⟨z,hz,e⟩
  ·unfold uB at h
   split at h
   ·rcases jZ h with h|h
    ·exact .inl h
    ·cases h
     exact .inr ⟨x,by simp,rfl⟩
   ·exact .inl h
  ·exact .inr ⟨z,by simp [hz],e⟩
def Gt{L:List (Option dQ)}{n:Int}{y:dQ}(h:cC L n=some y):some y ∈ L:=by
 unfold cC at h;split at h
 ·exact aU (abh.1 h)
 ·cases h
def Pa{P:Ce->Prop}{M:Sm}{L:List (Option dQ)}{m:Int}(hP:∀c,aC (fx M.T.2 c)=false->P c)(hL:pL m L)(hm:m<=95000000000000)(h:ajK P L):ajK P (mE M L):=by
 intro y hy;rcases PW _ hy with hy|⟨x,hx,e⟩
 ·exact h y hy
 rw [e];have hx:=(List.of_mem_zip hx).2;have mu:∀b ∈(eS M L).map (lg M L),Qf P (m+16777216) b:=by
  intro b hb;obtain ⟨i,hi,rfl⟩:=aY.1 hb;have hw:=(kA.1 hi).2;unfold lO at hw;unfold lg
  cases hl:cC L (i:Int) with
  |none=>rw [hl] at hw;cases hw
  |some z=>
   have hz:=Gt hl;obtain ⟨k1,k2⟩:=h z hz;have ho:=hL z hz;obtain ⟨s1,s2⟩:=TD (V:=fx M.T.2) (i:=z.2) (ho.1.up ab) k1 hP k2;exact ⟨UY ho ab,s2,s1⟩
 have:=agj (V:=fx M.T.2) hP mu (by rw [aN];exact Es M L) ab x.2 hx;exact this.2
def am9{b:dE}(h:b.may=true):tI b/\eJ b.aE 70368744177664:=by unfold dE.may within at h;simp only [fy,cX] at h;unfold tI eJ;omega
theorem ajJ{b:dE}(h:tI b)(hf:eJ b.aE 70368744177664):b.may=true:=by grind [tI,eJ,dE.may,within]
def af0{L:List (Option dQ)}{y:dQ}{c:Ce}(hy:some y ∈ L)(hn:bY y.1.box 99000000000000)(hc:pN y.1.box c):lN L c=true:=by
 unfold lN;refine List.any_eq_true.2 ⟨some y,hy,?_⟩;show iw y.1.box (sY c)=true;generalize y.1.box=b at*;unfold bY at hn;unfold pN at hc;have e:sY c=((c.1*65536,c.2.1*65536,c.2.2*65536),(c.1*65536+65536,c.2.1*65536+65536,c.2.2*65536+65536)):=by show ((nL c.1,nL c.2.1,nL c.2.2),(fI (nL c.1) 65536,fI (nL c.2.1) 65536,fI (nL c.2.2) 65536))=_;unfold fI dz nL;simp only [Prod.mk.injEq];omega
 rw [e];unfold iw ovK;simp only [U5,U6,U7,fy,cX];omega
def nc(ai:Int)(T:Tb)(L:List (Option dQ)):Prop:=ajK (λc=>aC (cT ai T c)=false) L
def O8{ai:Int}{n:Nat}{T:Tb}(h:eL ai n T)(c:Ce)(hc:aC (fx T.2 c)=false):aC (cT ai T c)=false:=by
 rcases ahS h c with e|e
 ·rw [e] at hc;have:aC (-1)=true:=by decide
  rw [this] at hc
  cases hc
 ·rw [<-e];exact hc
def nc.chg{ai:Int}{T T':Tb}{L:List (Option dQ)}{m:Int}(h:nc ai T L)(hL:pL m L)(hm:m<=95000000000000)(hc:ZT (lN L) (cT ai T) (cT ai T')):nc ai T' L:=by
 intro y hy;obtain ⟨h1,h2⟩:=h y hy;refine ⟨h1,λc lr=> ?_⟩;have hn:=(Ag ((hL y hy).1.up ab) h1).2;rcases hc c with q|q|q
 ·show aC (cT ai T' c)=false;rw [q];exact h2 c lr
 ·exact q
 ·rw [af0 hy hn lr] at q
  cases q
def nc.JH{ai:Int}{n:Nat}{T T':Tb}{L:List (Option dQ)}(h:nc ai T L)(hs:Sam ai n T T'):nc ai T' L:=λy hy=>⟨(h y hy).1,λc hc=>by
 show aC (cT ai T' c)=false
 rw [ajL hs]
 exact (h y hy).2 c hc⟩
section
variable {ai:Int} {n:Nat} {M:Sm} {L:List (Option dQ)} {m:Int}
def Lft(ai:Int)(n:Nat)(M':Sm)(L':List (Option dQ)):Prop:=eL ai n M'.T/\nc ai M'.T L'
def sD(h:eL ai n M.T)(hF:nc ai M.T L)(hL:pL m L)(hm:m<=95000000000000)(c:Ce)(b:Int):Lft ai n (eZ M L c b).2 L:=by
 unfold eZ;split
 ·exact ⟨h,hF⟩
 ·rename_i hq;obtain ⟨h1,h2⟩:=O9 (O:=lN L) h c (b:=b) λhb=>by
   cases hl:lN L c with
   |false=>rfl
   |true=>exact absurd ⟨hb,hl⟩ hq
  exact ⟨h1,hF.chg hL hm h2⟩
def SY(h:eL ai n M.T)(hF:nc ai M.T L)(hL:pL m L)(hm:m<=95000000000000)(k:Int)(dW:Ce)(b:Int):Lft ai n (lS M L k dW b).2 L:=by
 unfold lS;split
 ·exact ⟨h,hF⟩
 split
 ·exact ⟨h,hF⟩
 split
 ·exact ⟨h,hF⟩
 split
 ·exact ⟨h,hF⟩
 split
 ·exact ⟨h,hF⟩
 ·exact sD h hF hL hm _ _
def SZ(h:eL ai n M.T)(hF:nc ai M.T L)(hL:pL m L)(hm:m<=95000000000000)(k:Int)(dW:Ce):Lft ai n (kl M L k dW).2 L:=by
 unfold kl;split
 ·exact ⟨h,hF⟩
 split
 ·exact sD h hF hL hm _ _
 ·exact sD h hF hL hm _ _
def S0(h:eL ai n M.T)(hF:nc ai M.T L)(b:dE):nc ai M.T (dj M L b).2.2:=by
 unfold dj;split
 ·exact hF
 rename_i h1;split
 ·exact hF
 split
 ·exact hF
 split
 ·exact hF
 rename_i h4;intro y hy;simp only at hy;rcases jZ hy with hy|hy
 ·exact hF y hy
 ·cases hy
  have hb:b.may=true:=by simpa using h1
  obtain ⟨q1,q2⟩:=am9 hb;obtain ⟨f1,f2⟩:=Ag (q2.up aG) q1;refine ⟨q1,λc hc=>O8 h c ?_⟩;have hc:pN b.box c:=hc;have h4:g9 (fx M.T.2) b.box aC=false:=by simpa using h4
  exact any_false.1 h4 c ((BS (f2.up aG) f1 c).2 hc)
def XD(hF:nc ai M.T L)(k:Int)(i:Int × Int × Bool):nc ai M.T (oR L k i).2:=by
 unfold oR;split
 ·exact hF
 ·rename_i y hy;intro z hz;simp only at hz;rcases jZ hz with hz|hz
  ·exact hF z hz
  ·cases hz
   exact hF y (Gt hy)
def XE(hF:nc ai M.T L)(k:Int):nc ai M.T (oT L k).2:=by
 unfold oT;split
 ·exact hF
 ·intro z hz;simp only at hz;rcases jZ hz with hz|hz
  ·exact hF z hz
  ·cases hz
def XF(h:eL ai n M.T)(hF:nc ai M.T L)(hL:pL m L)(hm0:0<=m)(hm:m<=94000000000000):Lft ai n (pS M L).1 (pS M L).2:=by have hb:=Pa (P:=λc=>aC (cT ai M.T c)=false) (λc hc=>O8 h c hc) hL ab hF;have ho:=Ob (M:=M) hL hm0 ab;obtain ⟨h1,h2⟩:=abI (O:=lN (mE M L)) h;exact ⟨h1,nc.chg (T:=M.T) hb ho ab h2⟩
end
def C0(M:Sm)(x:Go.fh.Cg):(da M x).ai=M.ai:=by unfold da;split<;>rfl
def Ah:∀(l:List Go.fh.Cg)(M:Sm),(l.foldl da M).ai=M.ai
 | [],M=>rfl
 |x::l,M=>(Ah l (da M x)).trans (C0 M x)
def abJ(O:Ce->Bool)(M:Sm)(c:Ce):(mZ O M c).ai=M.ai:=by
 unfold mZ;split
 ·rfl
 split
 ·exact C0 _ _
 ·exact Ah _ _
def JQ(O:Ce->Bool):∀(l:List Ce)(M:Sm),(l.foldl (mZ O) M).ai=M.ai
 | [],M=>rfl
 |c::l,M=>(JQ O l (mZ O M c)).trans (abJ O M c)
def XG(O:Ce->Bool)(M:Sm):(FZ O M).ai=M.ai:=JQ O (rL M) (xO M)
def yb(M:Sm)(L:List (Option dQ))(c:Ce)(b:Int):(eZ M L c b).2.ai=M.ai:=by unfold eZ;split<;>rfl
def XH(M:Sm)(rows:List iV)(d:Re):(ub M rows d).1.ai=M.ai:=by
 unfold ub;split
 ·rfl
 split
 ·rfl
 split
 ·rfl
 split
 ·rfl
 split
 ·rfl
 split
 ·show (lS M (rows.map aj) (ix d) d.dW (EO d.b)).2.ai=M.ai;unfold lS
  repeat' (first|rfl|exact yb _ _ _ _|split)
 split
 ·show (kl M (rows.map aj) (ix d) d.dW).2.ai=M.ai;unfold kl
  repeat' (first|rfl|exact yb _ _ _ _|split)
 split
 ·exact yb _ _ _ _
 split
 ·rfl
 split
 ·rfl
 split
 ·rfl
 ·exact XG _ _
set_option maxHeartbeats 4000000 in
def XI{ai:Int}{n:Nat}{M:Sm}{rows:List iV}{m:Int}(hs:M.ai=ai)(h:eL ai n M.T)(hF:nc ai M.T (rows.map aj))(hL:pL m (rows.map aj))(hm0:0<=m)(hm:m<=94000000000000)(hn:n+M.T.2.length<100000000)(d:Re)
  (hg:um (ub M rows d).1.T.2):Lft ai (n+1+M.T.2.length) (ub M rows d).1 ((ub M rows d).2.map aj):=by
 have hix:0<=ix d:=by show 0<=cM d.n 4;exact (db d.n 4 aG).1
 have up:∀{k:Nat} {M':Sm} {L':List (Option dQ)},Lft ai k M' L'->k<=n+1+M.T.2.length->Lft ai (n+1+M.T.2.length) M' L':=λq hk=>⟨q.1.mono hk,q.2⟩
 unfold ub at hg ⊢;split
 ·rename_i h0;rw [if_pos h0] at hg;have q:=h.load (limit:=M.cap) ab (wX d.p) (by rw [<-hs];exact hg);rw [hs];exact ⟨q.1.mono ab,hF.JH q⟩
 rename_i h0;rw [if_neg h0] at hg;split
 ·have q:=h.ajH ab (wX d.p);exact ⟨q.1.mono ab,hF.JH q⟩
 split
 ·have q:=h.am7 ab;exact ⟨q.1.mono ab,hF.JH q⟩
 split
 ·refine ⟨h.mono ab,?_⟩;show nc ai M.T ((rW M rows (Od d)).map aj);rw [ud];exact S0 h hF _
 split
 ·refine ⟨h.mono ab,?_⟩;show nc ai M.T ((EN rows (ix d) d.vj).map aj);rw [wY _ hix];exact XD hF _ _
 split
 ·exact up (SY h hF hL ab _ _ _) ab
 split
 ·exact up (SZ h hF hL ab _ _) ab
 split
 ·exact up (sD h hF hL ab _ _) ab
 split
 ·refine ⟨h.mono ab,?_⟩;show nc ai M.T ((Cm rows (ix d)).map aj);rw [xe _ hix];exact XE hF _
 split
 ·have q:=h.dc ab (fG M (rows.map aj));exact ⟨q.1.mono ab,hF.JH q⟩
 split
 ·exact ⟨h.mono ab,hF⟩
 ·have q:=XF h hF hL hm0 ab;refine ⟨q.1.mono ab,?_⟩;show nc ai (pS M (rows.map aj)).1.T ((nS M rows).map aj);rw [kR];exact q.2
def iP(b:Bx)(i:Int):Int:=bZ b.1 i / 65536
def ij(b:Bx)(i:Int):Int:=(bZ b.2 i-1) / 65536
def Kh(f:Int->Int)(k:Nat):LV:=[.int .i64 (if 0<k then f 0 else 0),.int .i64 (if 1<k then f 1 else 0),.int .i64 (if 2<k then f 2 else 0)]
def LO(f:Int->Int){k:Nat}(hk:k=0\/k=1\/k=2):(Kh f k).set k (.int .i64 (f k))=Kh f (k+1):=by rcases hk with rfl|rfl|rfl<;>rfl
def agm(f:Int->Int){k:Nat}(hk:k=0\/k=1\/k=2):(Kh f (k+1))[k]? =some (.int .i64 (f k)):=by rcases hk with rfl|rfl|rfl<;>rfl
def aj8{n:Int}(h: -2000000000<=n/\n<=2000000000):ak (n*65536)=n*65536:=wI
abbrev Vv:TypeId:=246
def yep{b:Bool}{A B:Prop}(hb:b=true)(h:A):Br b A B:=by subst hb;exact h
set_option maxHeartbeats 4000000 in
def Tw(b:Bx)(hn:bY b 99000000000000)(hf:sM b)(w:World):Calls Tryz.prog 127 #[qS b] w λe w'=>e=.returned (.tuple #[eg (iP b 0,iP b 1,iP b 2),eg (ij b 0,ij b 1,ij b 2),.bool true])/\Ext w w':=by
 apply TJ.vc;intro w0 e0 w1 e1 w2 e2 w3 e3 w4 e4;have x0:Ext w w0:=(Ext.cu _).bg e0;have z0:=zA e0;have x1:Ext w0 w1:=(Ext.cu _).bg e1;have z1:=zA e1;have x2:Ext w1 w2:=(Ext.cu _).bg e2;have z2:=zA e2;have x3:Ext w2 w3:=(Ext.cu _).bg e3;have z3:=zA e3;have r3:Row w3 w2.heap.size (Kh (iP b) 0) Vv:=by rw [e3];exact Row.new w2 [_,_,_] _
 have x4:Ext w3 w4:=(Ext.cu _).bg e4;have z4:=zA e4;have r4:Row w4 w3.heap.size (Kh (ij b) 0) Vv:=by rw [e4];exact Row.new w3 [_,_,_] _
 clear e0 e1 e2 e3 e4;have AW:=x0.tr (x1.tr (x2.tr (x3.tr x4)));refine ⟨λn x wr=>∃k:Nat,x=k/\k+n=3/\Row wr w2.heap.size (Kh (iP b) k) Vv/\Row wr w3.heap.size (Kh (ij b) k) Vv/\Ext w wr/\w4.heap.size<=wr.heap.size,⟨3,rfl,rfl,rfl,0,rfl,rfl,r3.ext x4,r4,AW,Nat.le_refl _⟩,?_⟩;rintro n us x w9 ⟨k,rfl,hk,rl,rt,xr,zr⟩;refine Br.mk (λhc=> ?_) (λhc=> ?_)
 case refine_2=>
  have hc:¬(k:Int)<3:=by simpa using hc
  obtain rfl:k=3:=by omega
  have xd:=Ext.dr w9;have zd:w9.drew.heap.size=w9.heap.size:=rfl;have g:∀{f:Int->Int} {g:Nat} {u:World} (j:Nat) (x:Int),Row u g (Kh f 3) Vv->(Kh f 3)[j]? =some (.int .i64 x)->Vc.ld u (ae (some ⟨g,0,none⟩) j)=some (.int .i64 x):=λj x hr hj=>hr.at j hj
  have gL:∀{f:Int->Int} {g:Nat} {u:World} (j:Nat) (x:Int),Row u g (Kh f 3) Vv->(Kh f 3)[j]? =some (.int .i64 x)->af u (ae (some ⟨g,0,none⟩) j) 0 [.int .i64 x]:=λj x hr hj=>by show Vc.ld _ (ae (ae _ _) 0)=_;rw [fC];exact hr.at j hj
  have rl':=rl.ext xd;have rt':=rt.ext xd;refine ⟨by omega,by omega,_,g 0 _ rl' rfl,by omega,by omega,_,g 1 _ rl' rfl,by omega,by omega,_,g 2 _ rl' rfl,by omega,by omega,_,g 0 _ rt' rfl,by omega,by omega,_,g 1 _ rt' rfl,by omega,by omega,_,g 2 _ rt' rfl,⟨λiR e41 kO Za=> ?_,λiH e43=> ?_⟩,λyP e45 oM e46=> ?_⟩
  ·exact ⟨rfl,((xr.tr xd).ag e41 (by omega)).ag Za (by omega)⟩
  ·have alX:Row iH w3.heap.size (Kh (ij b) 3) Vv:=rt'.same (by rw [e43];exact setRow_other _ _ _ _ (by omega));refine ⟨gL 2 _ alX rfl,gL 1 _ alX rfl,gL 0 _ alX rfl,λkI e44=> ?_⟩;exact ⟨rfl,((xr.tr xd).ag e43 (by omega)).ag e44 (by omega)⟩
  ·exact ⟨rfl,((xr.tr xd).ag e45 (by omega)).ag e46 (by omega)⟩
 have hc:(k:Int)<3:=by simpa using hc
 have vD:k=0\/k=1\/k=2:=by omega
 have wk:IntKind.wrap .i64 ((k:Int)+1)=((k+1:Nat):Int):=by rw [wI];omega
 have Eh:=hn.ax (by decide) k;have iS:bZ b.1 k<bZ b.2 k:=by
  unfold sM at hf;rcases vD with rfl|rfl|rfl
  ·show bZ b.1 0<bZ b.2 0;rw [U5,U5];exact hf.1
  ·show bZ b.1 1<bZ b.2 1;rw [U6,U6];exact hf.2.1
  ·show bZ b.1 2<bZ b.2 2;rw [U7,U7];exact hf.2.2
 have fl:bV (bZ b.1 k)=iP b k:=by unfold bV iP;rw [fO (by omega)]
 have ft:bV (bZ b.2 k)=bZ b.2 k / 65536:=by unfold bV;rw [fO (by omega)]
 refine (xZ b.1 k w9).mono ?_;rintro e bc ⟨rfl,bA⟩;have z11:=bA.size;refine ⟨_,rfl,bA.k,bA.k,bA.k,(xZ b.2 k bc).mono ?_⟩;rintro e bG ⟨rfl,cn⟩;have z13:=cn.size;refine ⟨_,rfl,cn.k,cn.k,cn.k,(np (bZ b.1 k) bG).mono ?_⟩;rintro e eu ⟨rfl,rfl⟩;have y13:=bA.tr cn;have ej:(k:Int).toNat*1=k:=by omega
 rw [ej,fl];have ahx:k<3:=by omega
 obtain ⟨p1,p2⟩:=(rl.ext y13).jm (j:=k) (v:=.int .i64 (iP b k)) ahx rfl;refine ⟨_,rfl,rfl,rfl,rfl,by omega,hc,⟨rfl,p1⟩,kM (by omega),kM (by omega),kM (by omega),λcJ yr=> ?_⟩;obtain ⟨q1,q2⟩:=p2 cJ yr;replace q1:Row cJ w2.heap.size (Kh (iP b) (k+1)) Vv:=by rw [<-LO (iP b) vD];exact q1
 have z17:=q2.size;have cZ:Ext w cJ:=q2.ext (xr.tr y13) λi hi=>by omega
 have awE:=(rt.ext y13).same (q2.same _ (rt.ext y13).lt (by omega));clear yr p1 p2;refine (np (bZ b.2 k) cJ).mono ?_;rintro e du ⟨rfl,rfl⟩;rw [ft];obtain ⟨p3,p4⟩:=awE.jm (j:=k) (v:=.int .i64 (bZ b.2 k / 65536)) ahx rfl;refine ⟨_,rfl,rfl,rfl,rfl,by omega,hc,⟨rfl,p3⟩,kM (by omega),kM (by omega),kM (by omega),λef VM=> ?_⟩;obtain ⟨q3,q4⟩:=p4 ef VM;replace q3:Row ef w3.heap.size ((Kh (ij b) k).set k (.int .i64 (bZ b.2 k / 65536))) Vv:=q3;have z20:=q4.size;have cW:Ext w ef:=q4.ext cZ λi hi=>by omega
 have ahy:=q1.same (q4.same _ q1.lt (by omega));clear VM p3 p4;have xd:=Ext.dr ef;have zd:ef.drew.heap.size=ef.heap.size:=rfl;have lt3:(Kh (ij b) k).length=3:=rfl;have ldT:Vc.ld ef.drew (ae (some ⟨w3.heap.size,0,none⟩) k)=some (.int .i64 (bZ b.2 k / 65536)):=by refine (q3.ext xd).at k ?_;rw [List.getElem?_set_self (by rw [lt3];exact ahx)]
 have ldL:Vc.ld ef.drew (ae (some ⟨w2.heap.size,0,none⟩) k)=some (.int .i64 (iP b k)):=(ahy.ext xd).at k (agm _ vD);have gy:(bZ b.1 k==bZ b.2 k)=false:=by simpa using (show ¬bZ b.1 k=bZ b.2 k by omega)
 have hns:IntKind.wrap .i64 (bZ b.2 k / 65536*65536)=bZ b.2 k / 65536*65536:=aj8 (by omega);have last:∀{u:World},Ext w u->w4.heap.size<=u.heap.size->Row u w2.heap.size (Kh (iP b) (k+1)) Vv->Row u w3.heap.size (Kh (ij b) (k+1)) Vv->∃k':Nat,IntKind.wrap .i64 ((k:Int)+1)=k'/\k'+(n-1)=3/\Row u w2.heap.size (Kh (iP b) k') Vv/\Row u w3.heap.size (Kh (ij b) k') Vv/\Ext w u/\w4.heap.size<=u.heap.size:=λxu zu h1 h2=>⟨k+1,wk,by omega,h1,h2,xu,zu⟩
 have topq:bZ b.2 k / 65536*65536≠bZ b.2 k->ij b k=bZ b.2 k / 65536:=λq=>by unfold ij;omega
 have topp:bZ b.2 k / 65536*65536=bZ b.2 k->ij b k=bZ b.2 k / 65536-1:=λq=>by unfold ij;omega
 refine ⟨by omega,hc,_,ldT,Br.mk (λhq=> ?_) (λhq=> ?_)⟩
 ·rw [hns] at hq;have hq:bZ b.2 k / 65536*65536=bZ b.2 k:=by simpa using hq
  have hgt:decide (bZ b.2 k / 65536>iP b k)=true:=by refine decide_eq_true ?_;unfold iP;omega
  refine ⟨by omega,hc,_,ldT,by omega,hc,_,ldL,yep hgt ?_⟩;obtain ⟨p5,p6⟩:=(q3.ext xd).jm (j:=k) (v:=.int .i64 (IntKind.wrap .i64 (bZ b.2 k / 65536-1))) (by rw [List.length_set];exact ahx) rfl;refine ⟨by omega,hc,_,ldT,by omega,hc,⟨rfl,p5⟩,kM (by omega),kM (by omega),kM (by omega),λcV tV=> ?_⟩;obtain ⟨q5,q6⟩:=p6 cV tV;have z25:=q6.size;have dT:Ext w cV:=q6.ext (cW.tr xd) λi hi=>by omega
  have awF:=(ahy.ext xd).same (q6.same _ (ahy.ext xd).lt (by omega));have hw:IntKind.wrap .i64 (bZ b.2 k / 65536-1)=ij b k:=by rw [wI,topp hq]
  replace q5:Row cV w3.heap.size (((Kh (ij b) k).set k (.int .i64 (bZ b.2 k / 65536))).set k ((IntKind.wrap .i64 (bZ b.2 k / 65536-1)))) Vv:=q5;rw [List.set_set,hw,LO (ij b) vD] at q5;exact fB gy ⟨n-1,by omega,rfl,rfl,rfl,last dT (by omega) awF q5⟩
 ·rw [hns] at hq;have hq:bZ b.2 k / 65536*65536≠bZ b.2 k:=by simpa using hq
  rw [<-topq hq,LO (ij b) vD] at q3;exact fB gy ⟨n-1,by omega,rfl,rfl,rfl,last (cW.tr xd) (by omega) (ahy.ext xd) (q3.ext xd)⟩
def afZ(b:Bx):Prop:=b.2.1-b.1.1<=131072/\b.2.2.1-b.1.2.1<=262144/\b.2.2.2-b.1.2.2<=131072
set_option maxHeartbeats 4000000 in
def O6(b:Bx)(hn:bY b 99000000000000)(hf:sM b)(hs:afZ b)(w:World):Calls Tryz.prog 69 #[qS b] w λe w'=>
  ∃(s:Sl)(l:List Ce)(B:Nat),e=.returned (.slice s.a s.n s.c)/\w.heap.size<=B/\aF B 41 3 w' s (l.map dO)/\(∀c ∈ l,pN b c)/\l.length<=200/\Ext w w':=by
 apply PO.vc;intro w0 e0;have x0:Ext w w0:=(Ext.cu _).bg e0;have z0:=zA e0;refine (Tw b hn hf w0).mono ?_;rintro e w1 ⟨rfl,x1⟩;have z1:=x1.size;refine ⟨_,_,_,_,_,_,_,rfl,x1.k,λw9 e9 bN AY bc Da cU Km=> ?_⟩;have bS:Ext w1 cU:=((((Ext.cu _).bg e9).bg AY).ag Da (Nat.le_refl _)).ag Km (by have:=zA e9;omega);have z9:=zA e9;have z12:cU.heap.size=w1.heap.size+2:=by rw [zR Km,zR Da,zA AY,zA e9]
 clear e0 e9 AY Da Km;have xx:Ext w cU:=x0.tr (x1.tr bS);have Ko:=hn;unfold bY at Ko;unfold sM at hf;unfold afZ at hs;have l0:iP b 0=b.1.1 / 65536:=by unfold iP;rw [U5]
 have l1:iP b 1=b.1.2.1 / 65536:=by unfold iP;rw [U6]
 have l2:iP b 2=b.1.2.2 / 65536:=by unfold iP;rw [U7]
 have t0:ij b 0=(b.2.1-1) / 65536:=by unfold ij;rw [U5]
 have t1:ij b 1=(b.2.2.1-1) / 65536:=by unfold ij;rw [U6]
 have t2:ij b 2=(b.2.2.2-1) / 65536:=by unfold ij;rw [U7]
 have lr:∀x y z,iP b 0<=x->x<=ij b 0->iP b 1<=y->y<=ij b 1->iP b 2<=z->z<=ij b 2->pN b (x,y,z):=λx y z h1 h2 h3 h4 h5 h6=>by unfold pN;simp only;omega
 have g0:ij b 0-iP b 0<=2/\iP b 0<=ij b 0:=by omega
 have g1:ij b 1-iP b 1<=4/\iP b 1<=ij b 1:=by omega
 have g2:ij b 2-iP b 2<=2/\iP b 2<=ij b 2:=by omega
 have m0: -2000000000<=iP b 0/\ij b 0<=2000000000:=by omega
 have m1: -2000000000<=iP b 1/\ij b 1<=2000000000:=by omega
 have m2: -2000000000<=iP b 2/\ij b 2<=2000000000:=by omega
 generalize iP b 0=a0 at*;generalize iP b 1=a1 at*;generalize iP b 2=a2 at*;generalize ij b 0=c0 at*;generalize ij b 1=c1 at*;generalize ij b 2=c2 at*;clear l0 l1 l2 t0 t1 t2;have one3:∀c:Ce,One (dO c):=λc u hu=>by simp at hu;rcases hu with rfl|rfl|rfl<;>rfl
 refine ⟨λn y s wr=>∃l:List Ce,a1<=y/\y<=c1+1/\n=(c1+1-y).toNat/\aF cU.heap.size 41 3 wr s (l.map dO)/\(∀c ∈ l,pN b c)/\(l.length:Int)<=16*(y-a1)/\Ext cU wr,⟨_,rfl,rfl,rfl,[],Int.le_refl _,by show a1<=c1+1;omega,rfl,aF.nil,λc hc=>(by cases hc),by show (0:Int)<=16*(a1-a1);omega,Ext.cu _⟩,?_⟩;rintro n us y s wy ⟨l,hy1,hy2,rfl,ho,hl,dD,xy⟩;refine Br.mk (λ_=>Br.mk (λhq=> ?_) (λhq=> ?_)) (λq=>by cases q)
 case refine_2=>exact ⟨s,l,cU.heap.size,rfl,xx.size,ho,hl,by omega,xx.tr xy⟩
 have hq:y<=c1:=by simpa using hq
 refine ⟨λn z s wr=>∃l:List Ce,a2<=z/\z<=c2+1/\n=(c2+1-z).toNat/\aF cU.heap.size 41 3 wr s (l.map dO)/\(∀c ∈ l,pN b c)/\(l.length:Int)<=16*(y-a1)+4*(z-a2)/\Ext cU wr,⟨_,rfl,rfl,rfl,l,Int.le_refl _,by show a2<=c2+1;omega,rfl,ho,hl,by show (l.length:Int)<=16*(y-a1)+4*(a2-a2);omega,xy⟩,?_⟩;clear ho hl dD xy;rintro n wg z s2 wz ⟨l2,hz1,hz2,rfl,wi,Hg,hlen2,xz⟩;refine Br.mk (λB4=> ?_) (λB4=> ?_)
 case refine_2=>
  have B4:¬z<=c2:=by simpa using B4
  refine ⟨(c1+1-(y+1)).toNat,by omega,rfl,rfl,rfl,l2,by rw [wI];omega,by rw [wI];omega,by rw [wI],wi,Hg,by rw [wI];omega,xz⟩
 have B4:z<=c2:=by simpa using B4
 refine ⟨λn x s wr=>∃l:List Ce,a0<=x/\x<=c0+1/\n=(c0+1-x).toNat/\aF cU.heap.size 41 3 wr s (l.map dO)/\(∀c ∈ l,pN b c)/\(l.length:Int)<=16*(y-a1)+4*(z-a2)+(x-a0)/\Ext cU wr,⟨_,rfl,rfl,rfl,l2,Int.le_refl _,by show a0<=c0+1;omega,rfl,wi,Hg,by show (l2.length:Int)<=16*(y-a1)+4*(z-a2)+(a0-a0);omega,xz⟩,?_⟩;clear wi Hg hlen2 xz;rintro n us3 x s3 wx ⟨l3,hx1,Ra,rfl,ho3,hl3,hlen3,xw⟩;have zw:=xw.size;refine Br.mk (λhq3=> ?_) (λhq3=> ?_)
 case refine_2=>
  have hq3:¬x<=c0:=by simpa using hq3
  refine ⟨(c2+1-(z+1)).toNat,by omega,rfl,rfl,rfl,l3,by rw [wI];omega,by rw [wI];omega,by rw [wI],ho3,hl3,by rw [wI];omega,xw⟩
 have hq3:x<=c0:=by simpa using hq3
 intro iq e34;have tL:s3.n=l3.length:=by rw [(ho3.rd (show 0<3 by decide)).n,List.length_map]
 obtain ⟨hp,bu⟩:=ho3.iO (bytes:=24) (news:=dO (x,y,z)) (.cells #[.int .i64 x,.int .i64 y,.int .i64 z] 41) zw rfl (one3 (x,y,z)) (by omega) (by omega);subst e34;refine ⟨hp,λMr jN hr=> ?_⟩;obtain ⟨f1,f2,f3,f4,f5,f6⟩:=bu Mr jN hr;have xal:=Ext.al wx (.cells #[.int .i64 x,.int .i64 y,.int .i64 z] 41);have kp:∀{j:Nat},j<cU.heap.size->jN.heap[j]? =(wx.alloc (.cells #[.int .i64 x,.int .i64 y,.int .i64 z] 41)).heap[j]? :=λ{j} hj=>(f5 j (λq=>by have:=(ho3.own.lt q).1;omega) (by omega)).trans (xal.k).symm
 refine ⟨kp (by omega),kp (by omega),kp (by omega),f1,(c0+1-(x+1)).toNat,by omega,rfl,rfl,rfl,l3++ [(x,y,z)],by rw [wI];omega,by rw [wI];omega,by rw [wI],?_,λc hc=> ?_,?_,Below.trans xw f4⟩
 ·rw [List.map_append];exact f2
 ·rcases List.mem_append.1 hc with hc|hc
  ·exact hl3 c hc
  ·rw [List.mem_singleton.1 hc];exact lr x y z hx1 hq3 hy1 hq hz1 B4
 ·rw [wI,List.length_append,List.length_singleton];omega
def O7{s:Sl}{l:List Int}{w:World}(hs:RdK w s 1 (l.map λn=> [.int .i64 n]))(hl:∀x ∈ l,x≠-1->aC x=false)(hn:l.length<=1000000):ah 71 #[s] w λe w'=>e=false/\w'=w:=by
 apply PQ.vc;have tL:s.n=l.length:=by rw [hs.n,aN]
 refine ⟨λn x wr=>∃k:Nat,x=k/\k+n=l.length/\wr=w,⟨l.length,0,rfl,by omega,rfl⟩,?_⟩;rintro n us x wr ⟨k,rfl,hk,rfl⟩;refine Br.mk (λhq=> ?_) (λhq=>⟨rfl,rfl⟩);have hq:=dn hq;obtain ⟨v,hv⟩:=bB (l:=l) (i:=k) ab;have dq:(l.map λn=> [Value.int .i64 n])[k]? =some [.int .i64 v]:=by rw [aV,hv];rfl
 have inb:ez s.a (k:Int) s.n:=hs.iz aG ab hq;have ldv:Vc.ld wr (ae s.a ((k:Int).toNat*1))=some (.int .i64 v):=by have q:=hs.at dq (j:=0) (v:=.int .i64 v) rfl;rw [fC] at q;exact q
 have nx:∃n5,n5<n/\∃k':Nat,ak ((k:Int)+1)=k'/\k'+n5=l.length/\wr=wr:=⟨n-1,by omega,k+1,by rw [wI];omega,by omega,rfl⟩;refine ⟨inb,v,ldv,Br.mk (λB4=> ?_) (λ_=>nx)⟩;have B4:=dn B4;refine ⟨inb,v,ldv,(rj v wr).mono ?_⟩;rintro e w8 ⟨rfl,rfl⟩;exact ⟨_,rfl,fB (hl v (aU hv) B4) nx⟩
variable {R:Ending->World->Prop} {w:World} {a0 a1 a2 a3 a4 a5 a6 a7 a8 a9 aw ao au aP aQ aR bM bH bI DV aq ar aA bz bR bQ fe fg eM DW bE bO bC yu yw vV vW yx yy yz DX DY DZ D3 D4 D5 D6 D7 D8 D9:Int}
def SX.vc{a0:Addr}(h:
 ∃(p0:Option Addr),ld w (ae (some a0) 0)=some (.pointer p0)/\
 ah 18 #[p0] w (λe w1=>∃(p2:Option Addr),e=p2/\
 ah 27 #[p2] w1 (λe w3=>∃(v4:Value),e=v4/\
 ah 12 #[a0] w3 (λe w5=>∃(s6:Sl),e=s6/\
 ∃I7:Nat->Int->World->Prop,
 (∃n8,I7 n8 (0) w5)/\
 ∀(n8:Nat)(us9:Nat->Value)(bk:Int)(bc:World),I7 n8 bk bc->
 Br (decide (bk<((s6.n:Nat):Int)))
 (ez s6.a bk s6.n/\∃(cn:Int),ld bc (ae s6.a ((bk:Int).toNat*1))=some (.int .i64 cn)/\
 ah 29 #[a0,cn] bc (λe bJ=>∃(cD cp cZ cA cr cW dh dJ:Int)(Cd Zn:Bool),e=Value.tuple #[.agg #[cD,cp,cZ,cA,cr,cW,dh,dJ,Cd],Zn]/\
 Aw bJ #[aa,aa,aa,aa,aa,aa,aa,aa,false] 70 λcV=>
 Sw cV bJ #[cD,cp,cZ,cA,cr,cW,dh,dJ,Cd] λfb=>
 ah 70 #[.agg #[cD,cp,cZ,cA,cr,cW,dh,dJ,Cd]] fb (wE λik gr iM iB il eF eB=>Kp bJ fb eB/\
 ah 69 #[.agg #[ik,gr,iM,iB,il,eF]] eB (Rs λMr iq=>Kp bJ eB iq/\
 ∃I36:Nat->Int->Sl->World->Prop,
 (∃n37,aL [cD,cp,cZ,cA,cr,cW,dh,dJ,Cd]/\I36 n37 (0) ⟨none,0,0⟩ iq)/\
 ∀(n37:Nat)(aC5:Nat->Value)(kH:Int)(ZY:Sl)(iR:World),I36 n37 kH ZY iR->
 Br (decide (kH<((Mr.n:Nat):Int)))
 (ez Mr.a kH Mr.n/\∃(qw lK pH:Int),af iR (ae Mr.a ((kH:Int).toNat*3)) 0 [qw,lK,pH]/\
 cL Tryz.prog v4 [.agg #[qw,lK,pH]] iR (Ri λqF oM=>Kp bJ iR oM/\
 Aw oM #[qF] 3 λgf=>
 ba 8 1 gf ZY 1 [qF]/\∀(TT:Sl)(lR:World),aX 3 1 gf ZY 1 [qF] TT lR->K2 bJ oM gf lR (
 ∃n42,n42<n37/\aL [cD,cp,cZ,cA,cr,cW,dh,dJ,Cd]/\I36 n42 ((ak (kH+1))) TT lR)))
 (ah 71 #[ZY] iR (Rb λb52 vX=>Kp bJ iR vX/\
 Br b52
 (R false vX)
 (ah 44 #[.agg #[cD,cp,cZ,cA,cr,cW,dh,dJ,Cd]] vX (Rb λb54 Q8=>Kp bJ vX Q8/\
 Br (!b54)
 (R false Q8)
 (∃HP,HP<n8/\I7 HP ((ak (bk+1))) Q8)))))))))
 (R true bc))))):ah 17 #[a0] w R:=
 cq ⟨[(10,⟨[(10,.int .i64),(9,.slice)],[],[]⟩),(4,⟨[(5,.int .i64)],[],[]⟩)],[],[]⟩ Tryz.func17 h
def BX.vc{a2:Sl}(h:
 ah 9 #[a0,a1,(9:Int)] w (λe w0=>∃(p1 p2:Option Addr),e=Value.tuple #[p1,p2]/\
 Br (p1).isNone
 (R false w0)
 (∃I3:Nat->Int->World->Prop,
 (∃n4,I3 n4 (0) w0)/\
 ∀(n4:Nat)(us5:Nat->Value)(x6:Int)(w7:World),I3 n4 x6 w7->
 Br (decide (x6<((a2.n:Nat):Int)))
 (Br (x6<40)
 (ez a2.a x6 a2.n/\∃(x9 bk bA bS cn bW cD cp cZ cA cr cW dh dJ dA eG:Int)(Mn:Bool),af w7 (ae a2.a ((x6:Int).toNat*17)) 0 [x9,bk,bA,bS,cn,bW,cD,cp,cZ,cA,cr,cW,dh,dJ,dA,eG,Mn]/\
 ah 15 #[p1,p2,.agg #[x9,bk,bA,bS,cn,bW,cD,cp,cZ,cA,cr,cW,dh,dJ,dA,eG,Mn]] w7 (λe fb=>∃(B7:Bool),e=B7/\
 Br (!B7)
 (R false fb)
 (ah 17 #[p1] fb (λe gQ=>∃(b29:Bool),e=b29/\
 Br (!b29)
 (R false gQ)
 (∃n8,n8<n4/\I3 n8 ((ak (x6+1))) gQ)))))
 (ah 14 #[] w7 (λe fw=>∃(TU:Bool),e=TU/\
 R TU fw)))
 (ah 14 #[] w7 (λe lA=>∃(Zi:Bool),e=Zi/\
 R Zi lA))))):ah 5 #[a0,a1,a2] w R:=
 cq ⟨[(5,⟨[(9,.int .i64)],[],[]⟩)],[],[]⟩ Tryz.func5 h
def afY{b:dE}(hf:eJ b.aE 98000000000000)(hm:tI b):afZ b.box:=by have e:b.box=_:=Af hf hm.1 hm.2.1;rw [e];unfold tI at hm;unfold afZ;simp only;omega
set_option maxHeartbeats 8000000 in
def free_spec{F:Nat->Prop}{w:World}{g s o t:Nat}{M:Sm}{occ:Value}{L:List (Option dQ)}{ai:Int}{n0:Nat}{m:Int}(hE:EF F w g s o t M occ L)(hT:eL ai n0 M.T)(hF:nc ai M.T L)(hL:pL m L)(hm:m<=70000000000000):
  ah 17 #[g] w λe w'=>e=true/\Ext w w':=by
 apply SX.vc;obtain ⟨Fs,IQ,jR,-,-⟩:=hE.wu;obtain ⟨Fw,hW,-,-⟩:=IQ.world;refine ⟨_,jR,(gW IQ).mono ?_⟩;rintro e u1 ⟨rfl,hv⟩;subst hv;refine ⟨_,rfl,(gw hW).mono ?_⟩;rintro e u1 ⟨rfl,hv⟩;subst hv;refine ⟨_,rfl,(JO hE).mono ?_⟩;rintro e u3 ⟨sl,rfl,ho,x3⟩;have QZ:sl.n=(cF L).length:=by rw [(ho.rd (show 0<1 by decide)).n,aN]
 have hll:=uf L;refine ⟨_,rfl,λn x u=>∃i:Nat,x=i/\i+n=(cF L).length/\Ext u3 u,⟨(cF L).length,0,rfl,by omega,Ext.cu _⟩,?_⟩;rintro n us x u0 ⟨i,rfl,lr,xu⟩;refine Br.mk (λhq=> ?_) (λhq=>⟨rfl,x3.tr xu⟩);have hq:=dn hq;obtain ⟨k,hk⟩:=bB (l:=cF L) (i:=i) ab;obtain ⟨k,rfl,aln,y,hy⟩:=Gs (aU hk);have eV:=Gt hy;obtain ⟨ZF,hfree⟩:=hF y eV;have oky:=hL y eV;obtain ⟨bf,bn⟩:=Ag (oky.1.up ab) ZF;have bs:=afY (oky.1.up ab) ZF;have jj:RdK u0 sl 1 ((cF L).map λi=> [.int .i64 i]):=(ho.rd aG).ext xu;have dq:((cF L).map λi=> [Value.int .i64 i])[i]? =some [.int .i64 (k:Int)]:=by rw [aV,hk];rfl
 have inb:ez sl.a (i:Int) sl.n:=jj.iz aG ab hq;have ldv:Vc.ld u0 (ae sl.a ((i:Int).toNat*1))=some (.int .i64 (k:Int)):=by have q:=jj.at dq (j:=0) (v:=.int .i64 (k:Int)) rfl;rw [fC] at q;exact q
 have hE0:=hE.ext (x3.tr xu);refine ⟨inb,_,ldv,(XC hE0 k).mono ?_⟩;rintro e u14 ⟨rfl,bW⟩;have hb:O5 L (k:Int)=(y.1,true):=by unfold O5;rw [hy]
 rw [hb];have Y9:=bW.size;refine ⟨_,_,_,_,_,_,_,_,_,_,rfl,λu25 tV u26 yI=> ?_⟩;have fE:Ext u14 u26:=(aT tV).ag yI (aD _);have z26:u26.heap.size=u14.heap.size+1:=by rw [zR yI,zA tV]
 refine (vl y.1 oky.wdi u26).mono ?_;rintro e u27 ⟨rfl,fD⟩;have z27:=fD.size;refine ⟨_,_,_,_,_,_,rfl,fD.heap ab,(O6 y.1.box bn bf bs u27).mono ?_⟩;rintro e u34 ⟨Mr,l,B,rfl,hB,hoc,hlc,hll2,im⟩;have z34:=im.size;have xa:=xu.tr (bW.tr (fE.tr (fD.tr im)));have hcn:Mr.n=l.length:=by rw [(hoc.rd (show 0<3 by decide)).n,aN]
 refine ⟨Mr,rfl,im.heap ab,λn x s2 u=>∃(j:Nat)(r:List Int),x=j/\j+n=l.length/\r.length=j/\(∀v ∈ r,v≠-1->aC v=false)/\aF u34.heap.size 3 1 u s2 (r.map λv=> [.int .i64 v])/\Ext u34 u,⟨l.length,rfl,0,[],rfl,by omega,rfl,λv hv=>(by cases hv),aF.nil,Ext.cu _⟩,?_⟩;rintro n4 us4 x ZY u41 ⟨j,r,rfl,hj,hrl,hrs,hor,kJ⟩;have z41:=kJ.size;have hrn:ZY.n=r.length:=by rw [(hor.rd (show 0<1 by decide)).n,aN]
 apply Br.mk<;>intro B4
 ·have B4:=dn B4;obtain ⟨c,hc⟩:=bB (l:=l) (i:=j) ab;have hcrow:(l.map dO)[j]? =some (dO c):=by rw [aV,hc];rfl
  have apx:RdK u41 Mr 3 (l.map dO):=(hoc.rd aG).ext kJ;have apy:=hlc c (aU hc);have aly:qC c:=Nl ((BS (bn.up aG) bf c).2 apy);have hvs:fx M.T.2 c≠-1->aC (fx M.T.2 c)=false:=λq=>by
   rcases ahS hT c with e|e
   ·exact absurd e q
   ·rw [e];exact hfree c apy
  have avs:=hE.ext (x3.tr (xa.tr kJ));refine ⟨apx.iz aG ab B4,_,_,_,apx.cg hcrow,?_⟩;refine (λR' k=>dG (R':=R') (avs.tl.at aly) k) _ ?_;rintro e u46 ⟨rfl,g8⟩;have z46:=g8.size;refine ⟨_,rfl,g8.heap ab,λu48 e48=> ?_⟩;obtain ⟨hp,bu⟩:=(hor.ext g8).iO (bytes:=8) (news:=[(fx M.T.2 c)]) (.cells #[(fx M.T.2 c)] 3) ab rfl (sW _ _) ab ab;subst e48;refine ⟨hp,λTT u50 hr=> ?_⟩;obtain ⟨f1,f2,f3,f4,f5,f6⟩:=bu TT u50 hr;have xal:=Ext.al u46 (.cells #[(fx M.T.2 c)] 3);refine ⟨(f5 _ (λq=>by have:=(hor.own.lt q).1;omega) ab).trans (xal.heap ab).symm,f1,n4-1,by omega,rfl,j+1,r++ [fx M.T.2 c],by rw [wI];omega,by omega,by rw [cS,hrl];rfl,λv hv=> ?_,?_,Below.trans (kJ.tr g8) (f4.mono ab)⟩
  ·rcases c5.1 hv with hv|hv
   ·exact hrs v hv
   ·rw [gU.1 hv];exact hvs
  ·rw [bX];exact f2
 ·refine (O7 (hor.rd aG) hrs ab).mono ?_;rintro e u51 ⟨rfl,hv⟩;subst hv;refine ⟨_,rfl,rfl,fB rfl ((N1 y.1 u51).mono ?_)⟩;rintro e u53 ⟨rfl,iT⟩;have hmy:y.1.may=true:=ajJ ZF (oky.1.up ab);rw [hmy];exact ⟨_,rfl,iT.heap ab,fB rfl ⟨n-1,by omega,i+1,by rw [wI];omega,by omega,xa.tr (kJ.tr iT)⟩⟩
end Go.Proofs.YtkkkfkopcfdmaaaGreatDoor
