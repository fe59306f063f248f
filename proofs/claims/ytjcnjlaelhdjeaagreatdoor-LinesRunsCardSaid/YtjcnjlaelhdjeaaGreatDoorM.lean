import Derived.Test.YtjcnjlaelhdjeaaGreatDoorL
import Derived.Test.YtjcnjlaelhdjeaaGreatDoorJ
import Derived.Test.YtjcnjlaelhdjeaaGreatDoorG
import Derived.Test.YtjcnjlaelhdjeaaGreatDoorD
set_option linter.all false
namespace Go.Proofs.YtjcnjlaelhdjeaaGreatDoor
open Go Go.Vc Go.RowKit Go.Proofs Go.cC Go.aO Go.Code Go.fi Go.fL Go.iZ
set_option maxRecDepth 100000
set_option maxHeartbeats 8000000
def okR(L:lCs):Prop:=∀(i:Nat)(y:cS),cG L i=some y->y.1.may=true/\∀n ∈ tC y.1,zY n
section
variable {w0 w w':World} {gb gq gf gs gn gr:Nat} {now:Int} {av:List (Option Nat)} {P:lCs} {sl:Sl} {l l':List Int} {R:eWp}
def ah5{v x:Value}(h:av.length=16):(v::(av.map pA++ [x])).length=18:=by rw [cD,bY,aJ,h];rfl
def adD{v x:Value}(h:av.length=16):(v::(av.map pA++ [x]))[17]? =some x:=by rw [J6,pY (by rw [aJ];omega),aJ,h];rfl
def RS.amb(h:RS w0 w gb gq gf gs gn gr now av P sl l)(s':Sl):Wr w (some ⟨gr,17,none⟩) 1/\∀u,u=bC w (some ⟨gr,17,none⟩) [.slice s'.a s'.n s'.c]->RS w0 u gb gq gf gs gn gr now av P s' l/\Mod (λi=>i=gr) w u:=by
 have hl:=ah5 (v:=.int .i64 now) (x:=.slice sl.a sl.n sl.c) h.e.n;obtain ⟨p1,p2⟩:=h.g.fF (j:=17) (v:=.slice s'.a s'.n s'.c) (by rw [hl];decide) rfl;rw [aF] at p1 p2;refine ⟨p1,λu eu=> ?_⟩;obtain ⟨q1,q2⟩:=p2 u eu;have e2:putCells (Value.int .i64 now::(av.map pA++ [Value.slice sl.a sl.n sl.c])) 17 [.slice s'.a s'.n s'.c]=.int .i64 now::(av.map pA++ [.slice s'.a s'.n s'.c]):=by show List.set _ _ _=_;rw [List.set_cons_succ,List.set_append_right _ _ (by rw [List.length_map,h.e.n];decide),List.length_map,h.e.n];rfl
 rw [e2] at q1;obtain ⟨⟨s,h1⟩,⟨⟨τ,c1⟩,⟨τ',c2⟩,c3⟩,h3,⟨cs',hc,h4⟩,h5,h6,h7,h8⟩:=h;exact ⟨⟨⟨s,q2.ext h1.x λi hi=>by omega,h1.lt,q2.row h1.row (by omega),h1.rd,h1.nc,h1.by_⟩,⟨⟨τ,q2.row c1 (by omega)⟩,⟨τ',q2.row c2 (by omega)⟩,c3⟩,q2.row h3 (by omega),⟨cs',hc,q2.row h4 (by omega)⟩,q1,h6.same λa ha=>q2.same a (h6.lt ha) (by have:=h8 a ha;omega),h7,h8⟩,q2⟩
end
def okW(l:List fi.It):Prop:=∀x ∈ l,zY x.1/\(-2147483648<=x.2.1/\x.2.1<=2147483648)/\(-2147483648<=x.2.2.1/\x.2.2.1<=2147483648)/\-2147483648<=x.2.2.2/\x.2.2.2<=2147483648
def acC{α:Type}{l:List α}(h:l.length=16):∃a0 a1 a2 a3 a4 a5 a6 a7 a8 a9 S5 a11 a12 a13 a14 a15,l=[a0,a1,a2,a3,a4,a5,a6,a7,a8,a9,S5,a11,a12,a13,a14,a15]:=by
 match l,h with
 | [a0,a1,a2,a3,a4,a5,a6,a7,a8,a9,S5,a11,a12,a13,a14,a15],_=>exact ⟨_,_,_,_,_,_,_,_,_,_,_,_,_,_,_,_,rfl⟩
abbrev lf9(f s:Ce)(a b:Int):LV:=Gb (⟨f,s,a,b,false⟩,(0,0,false))
def Yr{w:World}{s:Sl}{M:Sm}{L:lCs}(hs:dB w s 1 (byR (dA M L)))(hc:s.n<=s.c)(hL:okR L)(hW:okW M.q.l)(hM:0<=M.now/\M.now<=1099511627776):
  ae 248 #[s] w λe w'=>∃(av:List (Option Nat))(sl:Sl),e=Value.tuple #[.agg (.int .i64 M.now::(av.map pA++ [Value.slice sl.a sl.n sl.c])).toArray,true]/\Ext w w'/\EL w' av (wF L (br L))/\(∀a,some a ∈ av->w.heap.size<=a)/\ar w Q.cl 4 w' sl ((M.q.l.take 2000).map fR):=by
 apply Qv.vc;intro w0 e0 w1 e1 w2 e2 w3 e3 w4 e4 w5 e5 w6 e6 w7 e7;have z0:=zA e0;have z1:=zA e1;have z2:=zA e2;have z3:w3.heap.size=w2.heap.size:=by rw [e3,setRow_size]
 have z4:=zA e4;have z5:w5.heap.size=w4.heap.size:=by rw [e5,setRow_size]
 have z6:=zA e6;have z7:w7.heap.size=w6.heap.size:=by rw [e7,setRow_size]
 have hr:Xp w w7 w s (dA M L)/\Cx w7 w.heap.size w1 w3.heap.size w5/\Row w7 w1 [.bool true] 4/\∃cs,cs.length=18/\Row w7 w0 cs Ub:=by
  have x1:=aV e1;have x2:=aV e2;have x3:Ext w1 w3:=x2.af e3 (ak _);have x5:Ext w3 w5:=(aV e4).af e5 (ak _);have x7:Ext w5 w7:=(aV e6).af e7 (ak _);have mQ:=x5.tr x7;have dS:=x3.tr mQ;have x07:=x1.tr dS;have r0:Row w0 w [s] tBy:=Row.nw e0;have r1:Row w1 w0 [ai,pno,pno,pno,pno,pno,pno,pno,pno,pno,pno,pno,pno,pno,pno,pno,pno,.slice none 0 0] Ub:=Row.nw e1;have r3:Row w3 w1 [.bool true] 4:=by rw [e3];exact Row.set (by rw [e2];exact Row.new w1 [_] _) _
  have r5:Row w5 w3 [smF w.heap.size w1] 32:=by rw [e5];exact Row.set (by rw [e4];exact Row.new w3 [_] _) _
  have r7:Row w7 w5 [nmF w3] 69:=by rw [e7];exact Row.set (by rw [e6];exact Row.new w5 [_] _) _
  exact ⟨⟨(aV e0).tr x07,ak _,r0.ext x07,hs,hc,WT M L⟩,⟨⟨_,r5.ext x7⟩,⟨_,r7⟩,aa,aa⟩,r3.ext mQ,_,rfl,r1.ext dS⟩
 obtain ⟨hr,hcx,hf,cs,ti,hq⟩:=hr;have eB:dA M L=j7 M.now++(((br L).length:Int) % 256::(dV L (br L)++iq M.q.l)):=by unfold dA gj;simp only [fY,List.cons_append,Pp]
 rw [eB] at hr;obtain ⟨τ,hn⟩:=hcx.n;refine ⟨_,hn.at 0 rfl,?_⟩;refine (λR' k=>bJ (R':=R') (uX hcx (n:=M.now) aa hr) k) _ ?_;rintro e w9 ⟨rfl,m9,s9,h9⟩;have z9:=m9.size;refine ⟨_,rfl,m9.same _ aa aa,λbB yr bO uv=> ?_⟩;have z11:=zA yr;have z12:bO.heap.size=bB.heap.size:=by rw [uv,setRow_size]
 have cw:Ext w9 bO:=(aV yr).af uv (ak _);have g12:Row bO w9 (.int .i64 M.now::((List.replicate 16 none).map pA++ [.slice none 0 0])) Ub:=by rw [uv];exact Row.set (by rw [yr];exact Row.new w9 [_,_,_,_,_,_,_,_,_,_,_,_,_,_,_,_,_,_] _) _
 have H12:RS w bO w w0.heap.size w1.heap.size w3.heap.size w5 w9.heap.size M.now (List.replicate 16 none) (wF L []) ⟨none,0,0⟩ (((br L).length:Int) % 256::(dV L (br L)++iq M.q.l)):=by
  refine ⟨⟨s9,h9.ext cw⟩,(hcx.mod m9).ext cw,(m9.row hf aa).ext cw,⟨cs,ti,(m9.row hq aa).ext cw⟩,g12,⟨bo,Mx _ _,λi a q=> ?_,λi q=> ?_,λi j a q=> ?_⟩,aa,λa ha=> ?_⟩
  ·rw [zZ] at q;split at q<;>cases q
  ·have:i<16:=by
    rw [zZ] at q;split at q
    ·assumption
    ·cases q
   rw [QD this];rfl
  ·rw [zZ] at q;split at q<;>cases q
  ·cases List.eq_of_mem_replicate ha
 refine ⟨λu=>RS w u w w0.heap.size w1.heap.size w3.heap.size w5 w9.heap.size M.now (List.replicate 16 none) (wF L []) ⟨none,0,0⟩ (((br L).length:Int) % 256::(dV L (br L)++iq M.q.l)),?_,?_⟩
 ·refine ⟨true,H12.f.at 0 rfl,M.now,H12.g.at 0 rfl,Br.mk (λ_=>⟨M.now,H12.g.at 0 rfl,?_⟩) (λq=> ?_)⟩
  ·dsimp only;rw [show decide (M.now<=1099511627776)=true from decide_eq_true hM.2];obtain ⟨p1,p2⟩:=H12.amc;exact ⟨p1,λu eu=>(p2 u eu).1⟩
  ·have q:=fC q;omega
 generalize hgb:w.heap.size=gb at*;generalize hgq:w0.heap.size=gq at*;generalize hgf:w1.heap.size=gf at*;generalize hgs:w3.heap.size=gs at*;generalize hgn:w5.heap.size=gn at*;generalize hgr:w9.heap.size=gr at*;intro us cX H21;refine ⟨λu=>∃av,RS w u gb gq gf gs gn gr M.now av (wF L (br L)) ⟨none,0,0⟩ (iq M.q.l),H21.sm1 λiH H24 m24=>⟨_,rfl,λn x b u=>∃(d r:List Int)(av:List (Option Nat)),br L=d++r/\x=r.length/\n=r.length/\(∀i ∈ r,b<i)/\RS w u gb gq gf gs gn gr M.now av (wF L d) ⟨none,0,0⟩ (dV L r++iq M.q.l),⟨_,[],br L,_,rfl,?_,rfl,λi hi=> ?_,H24⟩,?_⟩,?_⟩
 ·have:=uF L;omega
 ·obtain ⟨j,rfl,-⟩:=zg hi;omega
 ·rintro n us x b ik ⟨d,r,av,hdr,rfl,rfl,hb,H31⟩
  cases r with
  |nil=>
   refine Br.mk (λhq=> ?_) (λ_=> ?_)
   ·simp at hq
   ·rw [mX] at hdr;rw [hdr];exact ⟨av,H31⟩
  |cons i0 r=>
  refine Br.mk (λ_=>⟨true,H31.f.at 0 rfl,?_⟩) (λhq=>by rw [cD] at hq;simp at hq);obtain ⟨i,rfl,hi,y,hy⟩:=zg (L:=L) (x:=i0) (hdr▸C8 _ (List.mem_cons_self ..));have hps:=Zr L;rw [hdr] at hps;obtain ⟨-,Ww,hp3⟩:=List.pairwise_append.1 hps;have hid:(i:Int) ∉ d:=λq=>by have:=hp3 _ q _ (List.mem_cons_self ..);omega
  have hmr:∀j ∈ r,(i:Int)<j:=(List.pairwise_cons.1 Ww).1;obtain ⟨ajK,h47⟩:=hL i y hy;have eR:dV L ((i:Int)::r)++iq M.q.l=(i:Int)::(j7 y.1.au.1++(j7 y.1.au.2.1++(j7 y.1.au.2.2++(j7 y.1.speed.1++(j7 y.1.speed.2.1++(j7 y.1.speed.2.2++(j7 y.1.wd++(j7 y.1.ht++(stB y.1.fM::(dV L r++iq M.q.l)))))))))):=by unfold dV;rw [eL,kZ];unfold FH;rw [hy];unfold BC qD;simp only [eL,List.map_nil,kZ,List.flatten_nil,fY,List.cons_append,Pp,mX]
  rw [eR] at H31;have q1:=h47 _ (List.mem_cons_self ..);have q2:=h47 y.1.au.2.1 bo;have q3:=h47 y.1.au.2.2 bo;have q4:=h47 y.1.speed.1 bo;have q5:=h47 y.1.speed.2.1 bo;have q6:=h47 y.1.speed.2.2 bo;have q7:=h47 y.1.wd bo;have q8:=h47 y.1.ht bo;have haz:=H31.free hi hid;refine H31.sm1 λiI H35 m35=>⟨_,rfl,λjJ e37=> ?_⟩
  have z37:=zA e37;have r37:Row jJ iI [ai,ai,ai,ai,ai,ai,ai,ai,false,ai,ai,false] kc:=Row.nw e37;have hk:gr<iI:=H35.g.lt;have hka:some iI.heap.size ∉ av:=λq=>by have:=H35.e.lt q;omega
  have KN:iI.heap.size≠gb:=by have:=H35.o;omega
  have H37:=H35.ext (aV e37);generalize iI=k at*;refine RS.gL (v:=y.1.au) ⟨q1,q2,q3⟩ H37 λtN H38 m38=>⟨_,_,_,rfl,m38.same _ r37.lt KN,λpF e42=> ?_⟩
  have H42:=H38.own hk hka e42;have r42:Row pF k (lf9 y.1.au (0,0,0) 0 0) kc:=by rw [e42];exact Row.set (m38.row r37 KN) _
  refine RS.gL (v:=y.1.speed) ⟨q4,q5,q6⟩ H42 λiS H43 m43=>⟨_,_,_,rfl,m43.same _ r42.lt KN,λoK e47=> ?_⟩
  have H47:=H43.own hk hka e47;have r47:Row oK k (lf9 y.1.au y.1.speed 0 0) kc:=by rw [e47];exact Row.set (m43.row r42 KN) _
  refine RS.num q7 H47 λnH H49 m49=>⟨_,rfl,m49.same _ r47.lt KN,λw51 e51=> ?_⟩
  have H51:=H49.own hk hka e51;have r51:Row w51 k (lf9 y.1.au y.1.speed y.1.wd 0) kc:=by rw [e51];exact Row.set (m49.row r47 KN) _
  refine RS.num q8 H51 λw53 H53 m53=>⟨_,rfl,m53.same _ r51.lt KN,λyN e55=> ?_⟩
  have H55:=H53.own hk hka e55;have r55:Row yN k (lf9 y.1.au y.1.speed y.1.wd y.1.ht) kc:=by rw [e55];exact Row.set (m53.row r51 KN) _
  refine RS.sm1 H55 λpI H57 m57=>⟨_,rfl,m57.same _ r55.lt KN,λpR TU=> ?_⟩
  have H59:=H57.own hk hka TU;have eS:(stB y.1.fM==1)=y.1.fM:=by cases y.1.fM<;>rfl
  have hS:stB y.1.fM<=1:=by cases y.1.fM<;>decide
  rw [eS] at TU;have r59:Row pR k (Gb (Zs y)) kc:=by rw [TU];exact Row.set (m57.row r55 KN) (Gb (Zs y))
  have hbi:=hb i (List.mem_cons_self ..);refine ⟨λu=>RS w u gb gq gf gs gn gr M.now av (wF L d) ⟨none,0,0⟩ (dV L r++iq M.q.l)/\Row u k (Gb (Zs y)) kc,⟨true,H59.f.at 0 rfl,Br.mk (λ_=>Br.mk (λ_=>Br.mk (λ_=>Br.mk (λ_=> ?_) (λhq=> ?_)) (λhq=> ?_)) (λhq=> ?_)) (λhq=>by cases hq)⟩,?_⟩
  ·refine ⟨_,_,_,_,_,_,_,_,_,r59.bK (vs:=pk y.1) (λj hj=> ?_),(Qq y.1 pR).mono ?_⟩
   ·rcases (show j=0\/j=1\/j=2\/j=3\/j=4\/j=5\/j=6\/j=7\/j=8 by simp at hj;omega) with rfl|rfl|rfl|rfl|rfl|rfl|rfl|rfl|rfl<;>rfl
   rintro e w71 ⟨rfl,Ba⟩;have H71:=H59.ext Ba;obtain ⟨p1,p2⟩:=H71.amc;refine ⟨_,rfl,p1,λu eu=> ?_⟩;rw [ajK] at eu;have hkf:k≠gf:=by have:=H71.o;omega
   exact ⟨(p2 u eu).1,(p2 u eu).2.row (r59.ext Ba) hkf⟩
  ·simp at hq;omega
  ·simp at hq;omega
  ·simp at hq;omega
  rintro us KV ⟨H79,r79⟩;refine ⟨true,H79.f.at 0 rfl,?_⟩;obtain ⟨p1,p2⟩:=H79.put hi r79 hk hka haz;refine ⟨aa,aa,⟨rfl,p1⟩,λu eu=>⟨r.length,by rw [cD];omega,d++ [(i:Int)],r,av.set i (some k),by rw [hdr,fY];rfl,?_,rfl,hmr,?_⟩⟩
  ·rw [cD,aK (by unfold cT;have:=uF L;rw [hdr,bY,cD] at this;omega)];omega
  ·rw [<-amd hi hy];exact p2 u eu
 rintro us w83 ⟨av,H83⟩;generalize hWW:M.q.l.take 2000=W;have hWl:W.length=min M.q.l.length 2000:=by rw [<-hWW,cK,Nat.min_comm]
 have hWk:okW W:=λx hx=>hW x (og (hWW▸hx))
 have eW:iq M.q.l=((W.length:Nat):Int) / 256 % 256::((W.length:Nat):Int) % 256::(W.map iA).flatten:=by unfold iq;rw [hWW,hWl];rfl
 rw [eW] at H83;have o83:=H83.o;have g83:=H83.g.lt;generalize hB:w83.heap.size=B at*;have haB:∀a,some a ∈ av->a<B:=λa ha=>hB▸H83.e.lt ha
 refine ⟨λu=>∃sl,RS w u gb gq gf gs gn gr M.now av (wF L (br L)) sl []/\ar B Q.cl 4 u sl (W.map fR),H83.sm2 λw86 H86 m86=>⟨_,rfl,λn x u=>∃(k:Nat)(sl:Sl),k+n=W.length/\x=n/\B<=u.heap.size/\RS w u gb gq gf gs gn gr M.now av (wF L (br L)) sl ((W.drop k).map iA).flatten/\ar B Q.cl 4 u sl ((W.take k).map fR),⟨W.length,0,⟨none,0,0⟩,aa,aa,hB▸m86.size,H86,ar.nil⟩,?_⟩,?_⟩
 ·rintro n us x w92 ⟨k,sl,X2,rfl,aFO,H92,K92⟩;refine Br.mk (λhq=>⟨true,H92.f.at 0 rfl,?_⟩) (λhq=>by
   have hq:=fC hq;obtain rfl:k=W.length:=by omega
   rw [List.drop_length] at H92;rw [kA] at K92;exact ⟨sl,H92,K92⟩)
  have hq:=fC hq;obtain ⟨it,hit⟩:=bZ (l:=W) (i:=k) aa;have hok:=hWk it (aQ hit);obtain ⟨t1,t2,t3,t4⟩:=hok;have eD:((W.drop k).map iA).flatten=j7 it.1++(j7 it.2.1++(j7 it.2.2.1++(j7 it.2.2.2++((W.drop (k+1)).map iA).flatten))):=by
   have:W.drop k=it::W.drop (k+1):=by obtain ⟨fD,he⟩:=cP.1 hit;rw [wN fD,he]
   rw [this,eL,kZ];unfold iA qD;simp only [eL,List.map_nil,kZ,List.flatten_nil,fY,mX]
  rw [eD] at H92;have Oo:∀g,sl.aX=some g->B<=g/\g<w92.heap.size:=λg hg=>K92.own.lt hg
  have tL:sl.n=k:=by have:=(K92.rd (show 0<4 by decide)).n;rw [aJ,cK] at this;omega
  refine RS.num t1 H92 λIj H96 m96=>⟨_,rfl,λw98 e98 Ic e99=> ?_⟩
  have z96:=m96.size;have z98:=zA e98;have z99:=zR e99;have Yb:Ext Ij Ic:=(aV e98).af e99 (ak _);have r99:Row Ic Ij (fR (it.1,0,0,0)) Q.cl:=by rw [e99];exact Row.set (by rw [e98];exact Row.new Ij [_,_,_,_] _) _
  have K99:=(K92.aW λg hg=>m96.same g (Oo g hg).2 (by have:=Oo g hg;omega)).ext Yb;have H99:=H96.ext Yb;refine RS.gL (v:=it.2) ⟨by unfold zY;omega,by unfold zY;omega,by unfold zY;omega⟩ H99 λtg ayw ajM=>⟨_,_,_,rfl,ajM.same _ aa aa,λabm asG Bf asH yB ajN=> ?_⟩
  have ayx:=ajM.size;have aFT:=zA asG;have aFU:=zR asH;have aFV:=zR ajN;have Ev:Ext tg Bf:=(aV asG).af asH (ak _);have ayy:=(ajM.row r99 aa).ext Ev;have ayz:=(K99.aW λg hg=>ajM.same g (by have:=Oo g hg;omega) (by have:=Oo g hg;omega)).ext Ev;have hka:some Ij.heap.size ∉ av:=λq=>by have:=haB _ q;omega
  have ayA:=(ayw.ext Ev).own aa hka ajN;have ayB:=ayz.aW (w':=yB) λg hg=>by rw [ajN];exact setRow_other _ _ _ _ (by have:=Oo g hg;omega)
  have ayC:Row yB Ij (fR it) Q.cl:=by rw [ajN];exact Row.set ayy _
  have zd:=oa yB;have xd:=Ext.dr yB;have Hd:=ayA.ext xd;have Kd:=ayB.ext xd;have rd:=ayC.ext xd;refine ⟨λu=>RS w u gb gq gf gs gn gr M.now av (wF L (br L)) sl ((W.drop (k+1)).map iA).flatten/\ar B Q.cl 4 u sl ((W.take k).map fR)/\yB.heap.size<=u.heap.size,⟨true,Hd.f.at 0 rfl,Br.mk (λ_=>(QE it.2 ⟨t2,t3,t4⟩ _).mono ?_) (λhq=>by cases hq)⟩,?_⟩
  ·rintro e um ⟨rfl,rF⟩;have ayD:=rF.size;have abD:=Hd.ext rF;have ayE:=Kd.ext rF;have ayF:=rd.ext rF;refine ⟨_,_,_,rfl,rF.heap aa,ayF.bK (λj hj=> ?_),Lo.wv abD.f,Br.mk (λ_=>⟨sl,?_,?_⟩) (λhq=> ?_)⟩
   ·rcases (show j=0\/j=1\/j=2 by simp at hj;omega) with rfl|rfl|rfl<;>rfl
   ·have:=abD.g.at 17 (adD abD.e.n);rw [aF] at this;exact this
   ·obtain ⟨p1,p2⟩:=abD.amc;refine ⟨p1,λq=> ?_,λu eu=>⟨rfl,?_⟩⟩
    ·have q:gf=Ij.heap.size:=Option.some.inj q;have:=abD.o;omega
    ·rw [show decide (((sl.n:Nat):Int)<2000)=true from decide_eq_true aa] at eu;obtain ⟨p3,p4⟩:=p2 u eu;exact ⟨p3,ayE.aW λg hg=>p4.same g (by have:=Oo g hg;omega) (by have:=Oo g hg;have:=abD.o;omega),by have:=p4.size;omega⟩
   ·simp at hq
  ·rintro us oL ⟨ajO,ayG,aFW⟩;have S6:=ajO.g.at 17 (adD ajO.e.n);rw [aF] at S6;refine ⟨sl,S6,λEy asI=> ?_⟩;have aFX:=zA asI;subst asI;obtain ⟨hp,bq⟩:=ayG.kU (bytes:=32) (news:=fR it) (.cells (fR it).toArray Q.cl) aa rfl (Q.sa it) aa aa;refine ⟨hp,λaoO yD asJ=> ?_⟩;obtain ⟨f1,f2,f3,f4,f5,f6⟩:=bq aoO yD asJ;have aFY:=f4.size;have z92:Ij.heap.size+1<=oL:=by omega
   have yx:∀j,j<oL.heap.size->(∀g,sl.aX=some g->g≠j)->yD.heap[j]? =oL.heap[j]? :=λj hj hn=>f5 j (λq=>hn j q rfl) hj
   have abq:∀j,j<oL.heap.size->(oL.alloc (.cells (fR it).toArray Q.cl)).heap[j]? =oL.heap[j]? :=λj hj=>(Ext.al oL _).heap hj
   have ayH:RS w yD gb gq gf gs gn gr M.now av (wF L (br L)) sl ((W.drop (k+1)).map iA).flatten:=by
    have hn:∀j,j<B->yD.heap[j]? =oL.heap[j]? :=λj hj=>yx j aa λg hg=>by have:=Oo g hg;omega
    have o:=ajO.o;obtain ⟨⟨s,h1⟩,⟨⟨τ,c1⟩,⟨τ',c2⟩,c3⟩,h3,⟨cs',hc,h4⟩,h5,h6,h7,h8⟩:=ajO;exact ⟨⟨s,h1.x.trans (f4.mono aa),h1.lt,h1.row.same (hn _ aa),h1.rd,h1.nc,h1.by_⟩,⟨⟨τ,c1.same (hn _ aa)⟩,⟨τ',c2.same (hn _ aa)⟩,c3⟩,h3.same (hn _ aa),⟨cs',hc,h4.same (hn _ aa)⟩,h5.same (hn _ aa),h6.same λa ha=>hn _ (haB a ha),h7,h8⟩
   obtain ⟨p1,p2⟩:=ayH.amb aoO;refine ⟨(yx _ aa λg hg=>by have:=Oo g hg;omega).trans (abq _ aa).symm,f1,p1,λq=> ?_,λq=> ?_,λu eu=> ?_⟩
   ·have q:gr=Ij.heap.size:=Option.some.inj q;omega
   ·have q:gr=oL.heap.size:=Option.some.inj q;omega
   ·obtain ⟨p3,p4⟩:=p2 u eu;have:=p4.size;refine ⟨n-1,aa,k+1,aoO,aa,by rw [wI];omega,aa,p3,?_⟩;have eT:(W.take (k+1)).map fR=(W.take k).map fR++ [fR it]:=by rw [dq,hit,bS];rfl
    rw [eT];exact f2.aW (w':=u) λg hg=>p4.same g (f2.own.lt hg).2 (by have:=(f2.own.lt hg).1;omega)
 rintro us oM ⟨sl,ayI,ayJ⟩;have Hd:=ayI.ext (Ext.dr oM);have Kd:=ayJ.ext (Ext.dr oM);have hx:=Hd.x0;have ho:=Hd.o;obtain ⟨a0,a1,a2,a3,a4,a5,a6,a7,a8,a9,S5,a11,a12,a13,a14,a15,rfl⟩:=acC Hd.e.n;obtain ⟨s1,hr1⟩:=Hd.r;have Fc:s1.n=0:=hr1.n;obtain ⟨cs',hc',hq'⟩:=Hd.q;refine ⟨_,_,_,_,_,_,_,_,_,_,_,_,_,_,_,_,_,_,Lo.wv Hd.g,true,Hd.f.at 0 rfl,s1,hr1.row.at 0 rfl,hq'.wr (o:=0) (n:=18) aa,λTv ayK=> ?_⟩;have Yf:=ayK.trans (hq'.bC (o:=0) (by rw [hc'];exact ak 18) (by
  show ∀u ∈ _,_
  repeat' (refine List.forall_mem_cons.2 ⟨rfl,?_⟩)
  exact λ_ q=>by cases q))
 rw [dE (by rw [hc'];rfl)] at Yf;have ajP:∀j,j≠gq->Tv.heap[j]? =oM.drew.heap[j]? :=λj hj=>by rw [Yf];exact setRow_other _ _ _ _ hj
 have ayL:Row Tv gq (.int .i64 M.now::([a0,a1,a2,a3,a4,a5,a6,a7,a8,a9,S5,a11,a12,a13,a14,a15].map pA++ [Value.slice sl.a sl.n sl.c])) Ub:=by rw [Yf];exact Row.set hq' _
 refine ⟨Lo.wv (hr1.row.same (ajP _ aa)),Lo.wv (Hd.f.same (ajP _ aa)),_,_,_,_,_,_,_,_,_,_,_,_,_,_,_,_,_,_,Lo.wv ayL,[a0,a1,a2,a3,a4,a5,a6,a7,a8,a9,S5,a11,a12,a13,a14,a15],sl,by rw [Fc];rfl,hx.af Yf aa,Hd.e.same λa ha=>ajP a (by have:=Hd.a a ha;omega),λa ha=>by have:=Hd.a a ha;omega,(Kd.aW (w':=Tv) λg hg=>ajP g (by have:=(Kd.own.lt hg).1;omega)).low aa⟩
section
variable {F:Nat->Prop} {w:World} {g s o t:Nat} {M M':Sm} {occ:Value} {L L0:lCs}
def Ir(h:EF F w g s o t M occ L0){a:Sl}(ha:dB w a 1 (byR (dA M' L)))(hc:a.n<=a.c)(hL:okR L)(hW:okW M'.q.l)(hM:0<=M'.now/\M'.now<=1099511627776)(hq:yF ⟨4096,0,M'.q.l.take 2000⟩):
  ae 185 #[g,.slice a.a a.n a.c] w λe w'=>e=(0:Int)/\dQ F w g s o t {M with q:=⟨4096,0,M'.q.l.take 2000⟩,now:=M'.now} occ (wF L (br L)) w':=by
 apply (tV.vc (a1:=a));refine (Yr ha hc hL hW hM).mono ?_;rintro e w0 ⟨av,sq,rfl,x0,ju,hav,hrq⟩;have z0:=x0.size;obtain ⟨a0,a1,a2,a3,a4,a5,a6,a7,a8,a9,S5,a11,a12,a13,a14,a15,rfl⟩:=acC ju.n;refine ⟨_,_,_,_,_,_,_,_,_,_,_,_,_,_,_,_,_,_,_,rfl,λfw wi cX vu=> ?_⟩;have z20:=zA wi;have z21:=zR vu;have am7:Ext w0 cX:=(aV wi).af vu (ak _);have r21:Row cX w0 (.int .i64 M'.now::([a0,a1,a2,a3,a4,a5,a6,a7,a8,a9,S5,a11,a12,a13,a14,a15].map pA++ [Value.slice sq.a sq.n sq.c])) Ub:=by rw [vu];exact Row.set (by rw [wi];exact Row.new w0 [_,_,_,_,_,_,_,_,_,_,_,_,_,_,_,_,_,_] _) _
 have fj:=x0.tr am7;obtain ⟨Fs,av0,dh,hsf,hel0,rfl⟩:=h;have ng:¬Fs g:=hsf.qi dh kM.1.1 kM.1.2.1 kM.1.2.2.1 kM.1.2.2.2.1 kM.1.2.2.2.2.1 kM.1.2.2.2.2.2.1 kM.1.2.2.2.2.2.2;have hFl:∀{i},Fs i->i<w.heap.size:=λhi=>hsf.lt hi
 have hrow21:=dh.ext fj;have hgw:=dh.lt;have S6:(Value.pointer (aB s)::av0.map pA).length=17:=by rw [cD,aJ,hel0.n]
 have ep:ab (aB g) 1=some ⟨g,1,none⟩:=aF ..;rw [ep];refine ⟨⟨rfl,hrow21.wr (o:=1) (n:=16) (by rw [S6];exact ak 17)⟩,λq=> ?_,λdt Du=> ?_⟩
 ·have q:g=w0.heap.size:=Option.some.inj q;omega
 have CB:=Du.trans (hrow21.bC (o:=1) (by rw [S6];exact ak 17) (by
  show ∀u ∈ _,_
  repeat' (refine List.forall_mem_cons.2 ⟨rfl,?_⟩)
  exact λ_ q=>by cases q))
 have ecs:putCells (Value.pointer (aB s)::av0.map pA) 1 ([a0,a1,a2,a3,a4,a5,a6,a7,a8,a9,S5,a11,a12,a13,a14,a15].map pA)=.pointer (aB s)::[a0,a1,a2,a3,a4,a5,a6,a7,a8,a9,S5,a11,a12,a13,a14,a15].map pA:=by obtain ⟨b0,b1,b2,b3,b4,b5,b6,b7,b8,b9,b10,b11,b12,KO,V5,X5,rfl⟩:=acC hel0.n;rfl
 have r22:Row dt g (.pointer (aB s)::[a0,a1,a2,a3,a4,a5,a6,a7,a8,a9,S5,a11,a12,a13,a14,a15].map pA) uE:=by rw [<-ecs,CB];exact Row.set hrow21 _
 have o22:∀j,j≠g->dt.heap[j]? =cX.heap[j]? :=λj hj=>by rw [CB];exact setRow_other _ _ _ _ hj
 have z22:dt.heap.size=cX.heap.size:=by rw [CB,setRow_size]
 have m22:Mod (λi=>i=g) cX dt:=⟨by rw [CB];rfl,by rw [CB];rfl,by rw [CB];rfl,Nat.le_of_eq z22.symm,λi _ hn=>o22 i hn⟩;have mm:Mod (λi=>i=g) w dt.drew:=((Mod.aq fj).trans m22).trans (Mod.aq (Ext.dr dt));have am8:SF Fs dt.drew s o t M occ:=hsf.same λi hi=>mm.same i (hFl hi) λq=>ng (q▸hi)
 have aq6:EL dt.drew [a0,a1,a2,a3,a4,a5,a6,a7,a8,a9,S5,a11,a12,a13,a14,a15] (wF L (br L)):=ju.same λa ha=>(o22 a (by have:=hav a ha;omega)).trans (am7.heap (ju.lt ha))
 have aq7:=hrq.ext am7;have am9:=aq7.aW (w':=dt.drew) λb hb=>o22 b (by have:=(aq7.own.lt hb).1;omega)
 have gl:=am9.rd (show 0<4 by decide);refine ⟨_,(r22.ext (Ext.dr dt)).at 0 rfl,(zf am8 M'.now sq (M'.q.l.take 2000) gl (λb hb=>⟨(am9.own.lt hb).2,λhf=>by have:=hFl hf;have:=(am9.own.lt hb).1;omega⟩) hq).mono ?_⟩;rintro e iH ⟨rfl,F',ajh,ht⟩;have zd:=oa dt;refine ⟨_,rfl,ht.mod.same _ aa λhf=>by have:=hFl hf;omega,rfl,λi=>i=g\/F' i\/some i ∈ [a0,a1,a2,a3,a4,a5,a6,a7,a8,a9,S5,a11,a12,a13,a14,a15],⟨F',_,ht.mod.row (r22.ext (Ext.dr dt)) ng,?_,aq6.same λa ha=>ht.mod.same a (aq6.lt ha) λhf=>by have:=hFl hf;have:=hav a ha;omega,rfl⟩,(mm.mono λi _ hi=> .inl hi).trans (ht.mod.mono λi _ hi=> .inr (.inl hi)),λi hi=> ?_⟩
 ·have en:min (max M'.now 0) 1099511627776=M'.now:=by omega
  rw [en] at ajh;exact ajh
 ·rcases hi with hi|hi|hi
  ·exact .inl (.inl hi)
  ·rcases ht.sub i hi with q|q
   ·exact .inl (.inr (.inl q))
   ·exact .inr (by have:=mm.size;omega)
  ·exact .inr (hav i hi)
end
section
variable {F:Nat->Prop} {w:World} {g s o t:Nat} {M M':Sm} {occ:Value} {L L0:lCs}
def Sa(h:EF F w g s o t M occ L0)(aW:Int)(hW:M.T.1.l.length<=1000000)(hl:eA M.T.1.l<=1099511627776)(hW':(cA M.T.1 aW).1.l.length<=1000000)(hk:(Go.cC.qd (cA M.T.1 aW).1 0).1=dA M' L/\(Go.cC.qd (cA M.T.1 aW).1 0).2.2=true)
  (hL:okR L)(hw:okW M'.q.l)(hM:0<=M'.now/\M'.now<=1099511627776)(hq:yF ⟨4096,0,M'.q.l.take 2000⟩):
  ae 123 #[g,aW] w λe w'=>e=Value.int .i64 (cA M.T.1 aW).2/\dQ F w g s o t {M with T:=((cA M.T.1 aW).1,[]),q:=⟨4096,0,M'.q.l.take 2000⟩,now:=M'.now} occ (wF L (br L)) w':=by
 obtain ⟨Fs,hs,pO,-⟩:=h.Is;obtain ⟨Fw,hWd,bq⟩:=h.world;apply oq.vc;refine ⟨_,pO,(eN hs).bj λw1 S7=> ?_⟩;subst S7;refine ⟨_,rfl,(jl hWd).bj λw3 H2=> ?_⟩;subst H2;refine ⟨_,rfl,(AV hWd hW hl aW).bj λw5 hr5=> ?_⟩;obtain ⟨F5,h5,t5⟩:=bq hr5;obtain ⟨Fw5,hW5,-⟩:=h5.world;refine ⟨_,rfl,(Dh hW5 hW').mono ?_⟩;rintro e w7 ⟨s8,rfl,gl,Ib,x7⟩;obtain ⟨hk1,X4⟩:=hk;refine ⟨s8,_,rfl,?_⟩;show Br (!(Go.cC.qd (cA M.T.1 aW).1 0).2.2) _ _;rw [X4];have gl:dB w7 s8 1 (byR (dA M' L)):=by rw [<-hk1];exact gl
 refine Br.mk (λq=>by cases q) λ_=>(Ir (h5.ext x7) gl Ib hL hw hM hq).bj λcu hr=> ?_
 refine ⟨_,rfl,Br.mk (λq=>by cases q) λ_=>⟨rfl,?_⟩⟩;exact dQ.tr t5 (dQ.aq x7 hr)
end
open Go.nK
def PH:∀l:List ByteArray,(∀t ∈ l,t.size<=1000)->(Lib.join (l.map (·.data.toList)) [32]).length<=l.length*1001
 | [],_=>dU _
 |t::l,h=>by
  have i1:=PH l λx hx=>h x (qY _ hx)
  have i2:t.data.toList.length<=1000:=by have:=h t (List.mem_cons_self ..);have e:=eM t;unfold bl at e;omega
  cases l with
  |nil=>simp [Lib.join,List.intercalate] at i2 ⊢;omega
  |cons t2 l2=>
   simp only [eL,Lib.join,List.intercalate,List.intersperse,kZ,bY,cD,kX] at i1 i2 ⊢;omega
def iP{l:List ByteArray}(h:∀t ∈ l,t.size<=1000)(hn:l.length<=500):(eG l).size<=1000000:=by have h1:=PH l h;have e:=eM (eG l);have:bl (eG l)=Lib.join (l.map (·.data.toList)) [32]:=rfl;rw [this] at e;omega
def cF{n:Int}(hn:cT n):(bI n).size<=100:=by
 unfold cT at hn;have key:(Lib.itoa n).length<=21:=by
  unfold Lib.itoa;split
  ·have:=Ma 19 n.natAbs aa;simp only [cD];omega
  ·have:=Ma 19 n.toNat aa;omega
 have e:=eM (bI n);have:bl (bI n)=Lib.itoa n:=rfl;rw [this] at e;omega
def Yy{x:Int}(h:er x):(iT x).size<=100:=by
 unfold er at h;have:∀n:Fin 14,(iT ((n.val:Nat):Int)).size<=100:=by decide+kernel
 have:=this ⟨x.toNat,aa⟩;rwa [show ((x.toNat:Nat):Int)=x by omega] at this
def ni{u v:World}{xs:LV}{txs:List ByteArray}(hv:v=u.alloc (.cells xs.toArray 20))(hl:txs.length=xs.length)(hn:xs.length<=500)(hit:∀(i:Nat) x t,xs[i]? =some x->txs[i]? =some t->xy v x t)(nE:∀t ∈ txs,t.size<=1000):
  eU 154 #[.slice (aB u.heap.size) xs.length xs.length] v (Value.string (eG txs)):=
 acT hv hl aa hit λt ht=>by have:=nE t ht;omega
def all_cons{v:World}{x:Value}{t:ByteArray}{xs:LV}{ts:List ByteArray}(h0:xy v x t)(h:∀(i:Nat) x t,xs[i]? =some x->ts[i]? =some t->xy v x t):∀(i:Nat) y s,(x::xs)[i]? =some y->(t::ts)[i]? =some s->xy v y s
 |0,y,s,h1,h2=>by cases h1;cases h2;exact h0
 |i+1,y,s,h1,h2=>h i y s h1 h2
def all_nil{v:World}{ts:List ByteArray}:∀(i:Nat) y s,([]:LV)[i]? =some y->ts[i]? =some s->xy v y s:=λi y s h=>by cases h
def Us{u v:World}{xs:LV}{txs:List ByteArray}{x:Int}(hx:er x)(hv:v=u.alloc (.cells xs.toArray 20))(hl:txs.length=xs.length)(hn:xs.length<=500)(hit:x=0->∀w,Ext v w->∀(i:Nat) y t,xs[i]? =some y->txs[i]? =some t->xy w y t)(nE:∀t ∈ txs,t.size<=1000):
  eU 167 #[x,.slice (aB u.heap.size) xs.length xs.length] v (Value.string (if x=0 then eG txs else iT x)):=by
 apply acU.vc (a1:=⟨aB u.heap.size,xs.length,xs.length⟩);apply Br.mk<;>intro c
 ·intro w0 e0;refine (jn e0 (ql hx w0) (fq _)).bj λw1 x1=> ?_
  have:x≠0:=by simpa using c
  exact ⟨_,rfl,by rw [if_neg this],(aV e0).tr x1⟩
 ·have c:=fC c;refine (ni hv hl hn (hit c v (Ext.bU _)) nE).bj λw1 x1=> ?_
  exact ⟨_,rfl,by rw [if_pos c],x1⟩
section
variable {k:Nat} {w:World} {F:Nat->Prop} {sh g s o t B ga:Nat} {M:Sm} {occ:Value} {L:Lv} {ws:List ByteArray}
def Mc.tab(h:Mc k w F sh g s o t B ga M occ L ws){u:World}(m:Mod (λi=>F i\/i=ga) w u):lf u:=h.t u m
def dQ.mod{u:World}{M':Sm}{occ':Value}{L':Lv}(hr:dQ F w g s o t M' occ' L' u):Mod F w u:=by obtain ⟨F',-,ht⟩:=hr;exact ht.mod
def akm(M:Sm)(L:Lv)(ws:List ByteArray):Option Out:=(gE ws).bind λx=>(ku x.2).bind λ_=>some (iT (zy L x.1).1,M,(zy L x.1).2)
def Py(h:Mc k w F sh g s o t B ga M occ L ws):ae 98 #[sh,ga] w (MR k w ga F g s o t (akm M L ws)):=by
 apply BE.vc;refine (h.at _).num λn r u _ m1 h1=>h1.fin λ_ h2=>⟨_,h2.ld,(Yz h2.c.e n).bj λw4 hr=> ?_⟩
 refine ⟨_,rfl,λw6 e6=>(jn e6 (ql (ahJ L n) w6) (fq _)).bj λw7 x7=> ?_⟩;exact ⟨_,rfl,h2.TH (fq _) (h2.c.i.lv (acV h2.c.i.b n)) hr ((aV e6).tr x7)⟩
def acL(M:Sm)(L:Lv)(ws:List ByteArray):Option Out:=(lG ws).bind λv=>(gE v.2).bind λa=>(gE a.2).bind λb=>(ku b.2).bind λ_=>
 some (if (iU M L (nO v.1 a.1 b.1)).2.1=0 then eG [bI (iU M L (nO v.1 a.1 b.1)).1] else iT (iU M L (nO v.1 a.1 b.1)).2.1,M,(iU M L (nO v.1 a.1 b.1)).2.2)
def Mc.len(h:Mc k w F sh g s o t B ga M occ L ws):L.length=16:=by obtain ⟨av,-,he,-⟩:=h.e.row;exact he.m
def JO(M:Sm)(hL:L.length=16)(b:eJ):cT (iU M L b).1:=by
 have h: -1<=tu L/\tu L<=L.length:=by
  rcases di (λx:Option cS=>x.isNone) L with ⟨e,-⟩|⟨i,x,hx,-,e,-⟩
  ·unfold tu;rw [e];omega
  ·unfold tu;rw [e];have:=(cP.1 hx).1;omega
 unfold iU cT
 repeat' split
 all_goals (simp only;omega)
def Lx(h:Mc k w F sh g s o t B ga M occ L ws):ae 97 #[sh,ga] w (MR k w ga F g s o t (acL M L ws)):=by
 apply zB.vc;refine (h.at _).vec λx y z r u _ m1 h1 w4 e4 w5 e5=> ?_
 have x5:Ext u w5:=Ext.af (aV e4) e5 (ak _);have z5:=xh e4 e5;have hB:=h1.le;refine (h1.ext x5).num λa r2 u2 ha m2 h2=>⟨(h1.ext x5).aW m2 hB aa,?_⟩
 have z2:=m2.size;refine h2.num λb r3 u3 hb m3 h3=>⟨h2.aW m3 hB aa,h3.fin λ_ h4=>⟨rfl,?_⟩⟩
 have z3:=m3.size;have h5:=h4.ext (Ext.dr u3);refine ⟨_,h5.ld,(Ut h5.c.e (x,y,z) a b (sB ha)).bj λbO hr=> ?_⟩;have nf:¬F u.heap.size:=λq=>by have:=h.e.lt q;have:=h1.m.size;omega
 refine ⟨_,_,rfl,h5.PI hr hB (by show _<u3.heap.size;omega) nf,λdj pJ=> ?_⟩;have m12:Mod (λi=>F i\/i=ga) w bO:=(h5.m.mono λi _ hi=> .inr hi).trans (hr.mod.mono λi _ hi=> .inl hi);have hz:=hr.mod.size;have hz:u3.heap.size<=bO:=hz;have nE:=cF (JO M h.len (nO (x,y,z) a b));refine (Us (acW M L _) (xs:=[.iface 3 (.int .i64 (iU M L (nO (x,y,z) a b)).1)]) pJ (txs:=[bI (iU M L (nO (x,y,z) a b)).1]) rfl bo (λ_ v xv=>all_cons (gT (h.tab (m12.trans (Mod.aq ((aV pJ).tr xv)))) (JO M h.len _)) all_nil) (λt ht=>by rw [gU.1 ht];omega)).bj λcp dz=> ?_
 have xx:=(aV pJ).tr dz;refine ⟨_,rfl,dz.heap (by rw [pJ];simp;omega),?_⟩;refine h5.TH ?_ (h5.c.i.lv (YF h5.c.i.b _)) hr xx;split
 ·exact iP (λt ht=>by rw [gU.1 ht];exact c8 nE aw) bo
 ·exact fq _
end
def aiT{D:Dk}(h:nT D):∀x ∈ D.l,x.2.length<=1048576:=by intro x hx;obtain ⟨i,hi⟩:=JM.1 hx;have h1:=h.len (i+1);rw [Gz hi] at h1;have h2:=B6 (qU ((D.l.take i).foldl lay D.safe) x);rw [mw] at h2;have h3:=h.r;omega
def ae3{D:Dk}(h:nT D):eA D.l<=D.l.length*1048576:=Xs (aiT h)
section
variable {k:Nat} {w:World} {F:Nat->Prop} {sh g s o t B ga:Nat} {M:Sm} {occ:Value} {L:Lv} {ws:List ByteArray}
def EF.qok(h:EF F w g s o t M occ L):yF M.q:=by obtain ⟨Fs,hs,-⟩:=h.Is;obtain ⟨-,-,-,-,hq,-⟩:=hs.queue;exact hq
def EF.dok(h:EF F w g s o t M occ L):nT M.T.1:=by obtain ⟨Fw,hW,-⟩:=h.world;obtain ⟨F1,hT,-⟩:=hW.table;exact hT.ok
def EF.few(h:EF F w g s o t M occ L):M.T.2.length<=16:=by obtain ⟨Fw,hW,-⟩:=h.world;have:=hW.len;omega
def Inv.d(h:Inv k M L)(hk:k<=1000):M.T.1.l.length<=20000:=by have:M.T.1.l.length<=20*k:=h.n.1.d;omega
def Inv.sok(h:Inv k M L)(hk:k<=1000):qJ M 500000000:=h.s.mono aa
def akl(M:Sm)(L:Lv)(ws:List ByteArray):Option Out:=(ku ws).bind λ_=>some (iT (tQ M.T.1 0 (dA M L)).2,akh M L,L)
def Px(h:Mc k w F sh g s o t B ga M occ L ws):ae 96 #[sh,ga] w (MR k w ga F g s o t (akl M L ws)):=by
 apply Cd.vc;have hd:=h.i.d h.z;refine (h.at _).fin λ_ h2=>⟨_,h2.ld,(Ys h2.c.e aa).bj λw4 hr=> ?_⟩
 refine ⟨_,rfl,λw6 e6=>(jn e6 (ql (akO _ _ _) w6) (fq _)).bj λw7 x7=> ?_⟩;exact ⟨_,rfl,h2.TH (fq _) (h.i.tab ((h.i.n.1.aW (h.i.rok h.e.qok)).mono aa aa)) hr ((aV e6).tr x7)⟩
def JK(M:Sm)(L:Lv)(ws:List ByteArray):Option Out:=(ku ws).bind λ_=>some (eG [bI (hZ M.T.1 M.T.2).2.1,iT (hZ M.T.1 M.T.2).2.2],{M with T:=(hZ M.T.1 M.T.2).1},L)
def DD(h:Mc k w F sh g s o t B ga M occ L ws):ae 93 #[sh,ga] w (MR k w ga F g s o t (JK M L ws)):=by
 apply vf.vc;have hd:=h.i.d h.z;have h16:=h.e.few;refine (h.at _).fin λ_ h2=> ?_
 obtain ⟨Fs,hS,Of,-,-⟩:=h2.c.e.Is;obtain ⟨Fw,hW,bq⟩:=h2.c.e.world;refine ⟨_,h2.ld,cJ.2 ⟨rfl,cJ.2 ⟨rfl,aB s,Of,(eN hS).gK ?_⟩⟩⟩;refine ⟨_,rfl,(jl hW).gK ?_⟩;refine ⟨_,rfl,(DA hW aa).bj λw7 hr=> ?_⟩;have hr:=bq hr;obtain ⟨q1,q2,q3⟩:=ae4 M.T.2 M.T.1 [] 0 (jN 0);have pE:cT (hZ M.T.1 M.T.2).2.1:=by unfold cT;unfold hZ;omega
 have fE:=cF pE;have xh:=Yy q1;have m7:Mod (λi=>F i\/i=ga) w w7:=(h2.m.mono λi _ hi=> .inr hi).trans (hr.mod.mono λi _ hi=> .inl hi);have nE:∀t ∈ [bI (hZ M.T.1 M.T.2).2.1,iT (hZ M.T.1 M.T.2).2.2],t.size<=1000:=λt ht=>by
  rcases cj.1 ht with rfl|ht
  ·omega
  ·rw [gU.1 ht];exact c8 xh aw
 refine ⟨_,_,rfl,λbc vy=>(ni (xs:=[.iface 3 (.int .i64 _),.iface 168 (.int .i64 _)]) vy (txs:=[bI (hZ M.T.1 M.T.2).2.1,iT (hZ M.T.1 M.T.2).2.2]) rfl bo (all_cons (gT (h.t _ (m7.trans (Mod.aq (aV vy)))) pE) (all_cons (ql q1 bc) all_nil)) nE).bj λbB bR=> ?_⟩;refine ⟨_,rfl,h2.TH (iP nE bo) (h.i.tab ((h.i.n.1.aqS (D:=M.T.1) (l:=M.T.2)).mono aa aa)) hr ((aV vy).tr bR)⟩
def akk(M:Sm)(L:Lv)(ws:List ByteArray):Option Out:=(gE ws).bind λx=>(ku x.2).bind λ_=>some (ByteArray.mk #[111,107],{M with T:=(ov M.T.1 x.1,M.T.2)},L)
def Lw(h:Mc k w F sh g s o t B ga M occ L ws):ae 94 #[sh,ga] w (MR k w ga F g s o t (akk M L ws)):=by
 apply Cc.vc;refine (h.at _).num λn r u hn m1 h1=>h1.fin λ_ h2=> ?_
 obtain ⟨Fs,hS,Of,-,-⟩:=h2.c.e.Is;obtain ⟨Fw,hW,bq⟩:=h2.c.e.world;refine ⟨_,h2.ld,cJ.2 ⟨rfl,cJ.2 ⟨rfl,aB s,Of,(eN hS).gK ?_⟩⟩⟩;refine ⟨_,rfl,(jl hW).gK ?_⟩;obtain ⟨F1,hT,-,hrt⟩:=hW.table;obtain ⟨st,d,g1,g2,g3⟩:=amP hT;refine ⟨_,rfl,cJ.2 ⟨rfl,cJ.2 ⟨rfl,_,g1,cJ.2 ⟨rfl,cJ.2 ⟨rfl,cJ.2 ⟨rfl,_,g2,(g3 n (sB hn)).bj λbB hr=> ?_⟩⟩⟩⟩⟩⟩;refine ⟨rfl,λbO uv=>(jn uv .ok aw).bj λbw cN=> ?_⟩;exact ⟨_,rfl,h2.TH aw (h.i.tab ((h.i.n.1.fail (D:=M.T.1) (l:=M.T.2) n).mono aa aa)) (bq (hrt hr)) ((aV uv).tr cN)⟩
def amQ{l:List fi.It}(h:∀x ∈ l,okT x):okW l:=λx hx=>by
 obtain ⟨h1,h2⟩:=h x hx
 unfold Ck at h1
 unfold zY
 omega
def amR{q:QS}(h:yF q):yF ⟨4096,0,q.l.take 2000⟩:=by
 refine ⟨⟨by show (1:Int)<=4096;decide,by show (4096:Int)<=4096;decide⟩,?_,h.sorted.sublist (List.take_sublist ..),?_⟩
 ·show (((q.l.take 2000).length:Nat):Int)<=4096;rw [cK];omega
 ·show ((q.l.take 2000).map _).Nodup;rw [List.map_take];exact h.nodup.sublist (List.take_sublist ..)
def aiU{L:Lv}(h:kH L):okR L:=by intro i y hy;have hm:=h y (uU hy);obtain ⟨h1,h2,h3,h4⟩:=kl.1 hm;refine ⟨hm,λn hn=> ?_⟩;unfold da at h3 h4;unfold zY;simp only [cj,iY,or_false] at hn;rcases hn with rfl|rfl|rfl|rfl|rfl|rfl|rfl|rfl<;>omega
open Classical in
noncomputable def HI(D:Dk):Option (Sm × Lv):=if h:∃x:Sm × Lv,Rok x.1 x.2/\(Go.cC.qd D 0).1=dA x.1 x.2/\(Go.cC.qd D 0).2.2=true then some (Classical.choose h) else none
def KG{D:Dk}{x:Sm × Lv}(h:HI D=some x):Rok x.1 x.2/\(Go.cC.qd D 0).1=dA x.1 x.2/\(Go.cC.qd D 0).2.2=true:=by
 unfold HI at h;split at h
 ·rename_i q
  cases h
  exact Classical.choose_spec q
 ·cases h
def aaK{D:Dk}(hk:KR D)(h:HI D=none):(Go.cC.qd D 0).2.2=false:=by
 unfold HI at h;split at h
 ·cases h
 ·rename_i q;rcases hk.ld with e|⟨M,L,e⟩
  ·exact e
  ·exact absurd ⟨(M,L),e⟩ q
noncomputable def yj(M:Sm)(n:Int):Sm × Lv:=match HI (cA M.T.1 n).1 with
 |some x=>({M with T:=((cA M.T.1 n).1,[]),q:=⟨4096,0,x.1.q.l.take 2000⟩,now:=x.1.now},wF x.2 (br x.2))
 |none=>({M with T:=((cA M.T.1 n).1,[]),q:=⟨4096,0,[]⟩,now:=0},xt)
def amS{L:Lv}{d:List Int}{y:cS}(h:some y ∈ wF L d):∃z,some z ∈ L/\y.1=z.1:=by
 unfold wF at h;obtain ⟨i,-,h⟩:=bf.1 h;split at h
 ·obtain ⟨z,hz,rfl⟩:=wJ.1 h;exact ⟨z,uU hz,rfl⟩
 ·cases h
def Inv.Dj(h:Inv k M L)(n:Int):Inv (k+1) (yj M n).1 (yj M n).2:=by
 have ht:nM (k+1) (20*(k+1)) ((cA M.T.1 n).1,[]):=(h.n.1.Dj (D:=M.T.1) (l:=M.T.2) n).mono aa aa;have hs:qJ M (300000*(k+1)):=h.s.mono aa;unfold yj
 cases hk:HI (cA M.T.1 n).1 with
 |none=>exact ⟨λy hy=>(by cases (O4.1 hy).2),⟨⟨jN 0,by simp only;omega⟩,hs.c,⟨jN 0,(by show (0:Int)<=1099511627776;decide)⟩,hs.d⟩,⟨ht,λx hx=>(by cases hx),jN 0,(by show (0:Int)<=1099511627776;decide)⟩,h.u⟩
 |some x=>
  obtain ⟨hr,-,-⟩:=KG hk;refine ⟨λy hy=> ?_,⟨⟨jN 0,by simp only;omega⟩,hs.c,hr.n,hs.d⟩,⟨ht,λy hy=>hr.q y (og hy),hr.n⟩,h.u⟩;obtain ⟨z,hz,e⟩:=amS hy;show y.1.may=true;rw [e];exact hr.b z hz
def ae5(h:EF F w g s o t M occ L)(hI:Inv k M L)(hk:k<=1000)(n:Int):ae 123 #[g,n] w λe w'=>e=Value.int .i64 (cA M.T.1 n).2/\dQ F w g s o t (yj M n).1 occ (yj M n).2 w':=by
 have hd:=hI.d hk;have hl:=ae3 h.dok;have TB:eA M.T.1.l<=1099511627776:=c8 hl aa;have hc:(cA M.T.1 n).1.l.length<=1000000:=dU _;unfold yj
 cases hk:HI (cA M.T.1 n).1 with
 |none=>exact R2 h n aa TB hc (aaK (hI.n.1.r.Dj n) hk)
 |some x=>
  obtain ⟨hr,h1,h2⟩:=KG hk;exact Sa h n aa TB hc ⟨h1,h2⟩ (aiU hr.b) (amQ hr.q) hr.n (amR hr.o)
noncomputable def acK(M:Sm)(ws:List ByteArray):Option Out:=(gE ws).bind λx=>(ku x.2).bind λ_=>some (eG [bI (cA M.T.1 x.1).2],yj M x.1)
def Iw(h:Mc k w F sh g s o t B ga M occ L ws):ae 95 #[sh,ga] w (MR k w ga F g s o t (acK M ws)):=by
 apply AH.vc;refine (h.at _).num λn r u _ m1 h1=>h1.fin λ_ h2=>⟨_,h2.ld,(ae5 h2.c.e h2.c.i h.z n).bj λw4 hr=> ?_⟩
 have hd:=h.i.d h.z;have hl:=ae3 h.e.dok;have pE:cT (cA M.T.1 n).2:=by have:nu M.T.1 n=min (max n 0) (eA M.T.1.l):=rfl;have e:(cA M.T.1 n).2=eA M.T.1.l-nu M.T.1 n:=rfl;have:eA M.T.1.l<=20000*1048576:=c8 hl (qW _ hd);unfold cT;omega
 have fE:=cF pE;have m4:Mod (λi=>F i\/i=ga) w w4:=(h2.m.mono λi _ hi=> .inr hi).trans (hr.mod.mono λi _ hi=> .inl hi);have nE:∀t ∈ [bI (cA M.T.1 n).2],t.size<=1000:=λt ht=>by rw [gU.1 ht];omega
 refine ⟨_,rfl,λw6 e6=>(ni (xs:=[.iface 3 (.int .i64 _)]) e6 (txs:=[bI (cA M.T.1 n).2]) rfl bo (all_cons (gT (h.t _ (m4.trans (Mod.aq (aV e6)))) pE) all_nil) nE).bj λw7 x7=> ?_⟩;exact ⟨_,rfl,h2.TH (iP nE bo) (h2.c.i.Dj n) hr ((aV e6).tr x7)⟩
end
section
variable {k:Nat} {w w0:World} {F:Nat->Prop} {sh g s o t B ga:Nat} {M:Sm} {occ:Value} {L:Lv} {ws:List ByteArray} {R:eWp}
def Mc.ok(h:Mc k w F sh g s o t B ga M occ L ws):ES 70368744177664 L:=h.i.b.ok
def Mc.sok(h:Mc k w F sh g s o t B ga M occ L ws):qJ M 800000000:=(h.i.sok h.z).mono aa
def Mc.wide(h:Mc k w F sh g s o t B ga M occ L ws){c:Ce}{b:Int}(h0:(jv M.T.2 c b).2=0):fo c:=by obtain ⟨hy,e,he,hp⟩:=KE h0;have:=Sj (by rw [<-hp];exact (h.i.n.1.e e he).1) hy;unfold fo;omega
def At.nf{p:Option Out}(h:At k w0 w F sh g s o t B ga M occ L ws R p){b:Nat}(hb:w0.heap.size<=b)(h0:EF F w0 g s o t M occ L):¬F b:=λq=>by have:=h0.lt q;omega
def At.own{u:World}{ws0:List ByteArray}{p:Option Out}(h:At k w0 w F sh g s o t B ga M occ L ws R p)(h0:Mc k w0 F sh g s o t B ga M occ L ws0){b:Nat}(hb:w0.heap.size<=b)(m:Mod (λi=>i=b) w u):At k w0 u F sh g s o t B ga M occ L ws R p:=by
 have hs:=h0.r.row.lt;have hB:=h0.a.le;have hg:=h0.a.lt;have hz:=m.size;have hz0:=h.m.size;have hm:Mod (λi=>i=ga) w0 u:=h.m.tr m λi hi=> .inr aa
 exact ⟨⟨h.c.e.same λi hi=>m.same i (h.c.e.lt hi) (λq=>by have:=h0.e.lt hi;omega),⟨h.c.r.row.same (m.same sh h.c.r.row.lt aa)⟩,h.c.a.aW aa λi hi=>m.same i aa aa,h0.f,h0.n,h0.i,λu' m'=>h0.t u' ((hm.mono λi _ hi=> .inr hi).trans m'),h0.z,h0.q⟩,hm,h.r⟩
def akn(M:Sm)(L:Lv)(ws:List ByteArray):Option Out:=(gE ws).bind λn=>(gE n.2).bind λx=>(gE x.2).bind λz=>(C6 z.2).bind λj=>(ady (ej j.1 (ByteArray.mk #[48])||ej j.1 (ByteArray.mk #[49]))).bind λ_=>(ku j.2).bind λ_=>
 some (iT (AZ L n.1 (x.1,z.1,ej j.1 (ByteArray.mk #[49]))).1,M,(AZ L n.1 (x.1,z.1,ej j.1 (ByteArray.mk #[49]))).2)
def Pz(h:Mc k w F sh g s o t B ga M occ L ws):ae 99 #[sh,ga] w (MR k w ga F g s o t (akn M L ws)):=by
 apply Cf.vc;refine (h.at _).num λn r u _ m1 h1=>h1.num λx r2 u2 _ m2 h2 w4 e4 w5 e5=> ?_
 have x5:Ext u2 w5:=Ext.af (aV e4) e5 (ak _);have z5:=xh e4 e5;have hB:=h2.le;have Il:=h2.m.size;have h5:=h2.ext x5;refine h5.num λz r3 u3 _ m3 h3=>⟨h5.aW m3 hB aa,λw8 e8=> ?_⟩
 have z3:=m3.size;have m8:=iB u3 u2.heap.size #[.int .i64 x,.int .i64 z,false];rw [<-e8] at m8;have z8:=m8.size;have h8:=h3.own h Il m8;refine h8.word λj r4 u4 _ m4 h4=>⟨h8.aW m4 hB aa,Br.mk (λc=> ?_) (λc=> ?_)⟩
 all_goals
  have z4:=m4.size
  refine h4.ama (by rw [c];rfl) λ_ h5=>⟨rfl,λbO uv=> ?_⟩
  have m12:=iB u4 u2.heap.size #[.int .i64 x,.int .i64 z,.bool (ej j (ByteArray.mk #[49]))]
  rw [<-uv] at m12
  have z12:=m12.size
  have h6:=(h5.own h Il m12)
  refine h6.fin λ_ h7=>⟨rfl,?_⟩
  have h9:=h7.ext (Ext.dr bO)
  refine ⟨_,h9.ld,(aa8 h9.c.e n (x,z,ej j (ByteArray.mk #[49]))).bj λdj hr=> ?_⟩
  have hz:bO.heap.size<=dj:=hr.mod.size
  refine ⟨_,rfl,h9.PI hr hB (by show _<bO.heap.size;omega) (h9.nf Il h.e),λcM uq=>(jn uq (ql (ai5 L n (x,z,ej j (ByteArray.mk #[49]))) cM) (fq _)).bj λdN de=> ?_⟩
  exact ⟨_,rfl,de.heap (by rw [uq];simp;omega),h9.TH (fq _) (h.i.lv (ae0 h.i.b n (x,z,ej j (ByteArray.mk #[49])))) hr ((aV uq).tr de)⟩
def acM(M:Sm)(L:Lv)(ws:List ByteArray):Option Out:=(gE ws).bind λn=>(lG n.2).bind λv=>(Zn v.2).bind λb=>(ku b.2).bind λ_=>some (iT (te M L n.1 v.1 b.1).1,(te M L n.1 v.1 b.1).2,L)
def Ly(h:Mc k w F sh g s o t B ga M occ L ws):ae 100 #[sh,ga] w (MR k w ga F g s o t (acM M L ws)):=by
 apply AI.vc;refine (h.at _).num λn r u _ m1 h1=>h1.vec λx y z r2 u2 _ m2 h2 w4 e4 w5 e5=> ?_
 have x5:Ext u2 w5:=Ext.af (aV e4) e5 (ak _);have z5:=xh e4 e5;have hB:=h2.le;have Il:=h2.m.size;have h5:=h2.ext x5;refine h5.aX λb r3 u3 _ m3 h3=>⟨h5.aW m3 hB aa,h3.fin λ_ h4=>⟨rfl,?_⟩⟩
 have z3:=m3.size;have h6:=h4.ext (Ext.dr u3);refine ⟨_,h6.ld,(SW h6.c.e h.ok aw n (x,y,z) b h.sok).bj λbO hr=> ?_⟩;have hz:u3.heap.size<=bO:=hr.mod.size;refine ⟨_,rfl,h6.PI hr hB (by show _<u3.heap.size;omega) (h6.nf Il h.e),λdj pJ=>(jn pJ (ql (afq M L n (x,y,z) b) dj) (fq _)).bj λcp dz=> ?_⟩;exact ⟨_,rfl,dz.heap (by rw [pJ];simp;omega),h6.TH (fq _) (h.i.place n (x,y,z) b) hr ((aV pJ).tr dz)⟩
def ako(M:Sm)(L:Lv)(ws:List ByteArray):Option Out:=(lG ws).bind λc=>(Zn c.2).bind λb=>(ku b.2).bind λ_=>some (iT (iE M L c.1 b.1).1,(iE M L c.1 b.1).2,L)
def Lz(h:Mc k w F sh g s o t B ga M occ L ws):ae 101 #[sh,ga] w (MR k w ga F g s o t (ako M L ws)):=by
 apply Ch.vc;refine (h.at _).cell λx y z r2 u2 hc m2 h2 w4 e4 w5 e5=> ?_
 have x5:Ext u2 w5:=Ext.af (aV e4) e5 (ak _);have z5:=xh e4 e5;have hB:=h2.le;have Il:=h2.m.size;have h5:=h2.ext x5;refine h5.aX λb r3 u3 _ m3 h3=>⟨h5.aW m3 hB aa,h3.fin λ_ h4=>⟨rfl,?_⟩⟩
 have z3:=m3.size;have h6:=h4.ext (Ext.dr u3);refine ⟨_,h6.ld,(Dt h6.c.e h.ok (x,y,z) b (Xb hc) h.wide h.sok).bj λbO hr=> ?_⟩;have hz:u3.heap.size<=bO:=hr.mod.size;refine ⟨_,rfl,h6.PI hr hB (by show _<u3.heap.size;omega) (h6.nf Il h.e),λdj pJ=>(jn pJ (ql (Oa M L (x,y,z) b) dj) (fq _)).bj λcp dz=> ?_⟩;exact ⟨_,rfl,dz.heap (by rw [pJ];simp;omega),h6.TH (fq _) (h.i.afp L (x,y,z) b) hr ((aV pJ).tr dz)⟩
def acN(M:Sm)(L:Lv)(ws:List ByteArray):Option Out:=(gE ws).bind λn=>(lG n.2).bind λv=>(ku v.2).bind λ_=>
 some (if (mG M L n.1 v.1).1.2=0 then eG [lp (mG M L n.1 v.1).1.1] else iT (mG M L n.1 v.1).1.2,(mG M L n.1 v.1).2,L)
def yb(b:Int):(lp b).size<=100:=by
 unfold lp;split
 ·exact dU _
 ·rw [dn]
  cases h:nmT[b.toNat]? with
  |none=>exact dU _
  |some x=>
   have hx:=aQ h;have:∀x ∈ nmT,x.size<=100:=by decide+kernel
   exact this x hx
def L1(h:Mc k w F sh g s o t B ga M occ L ws):ae 102 #[sh,ga] w (MR k w ga F g s o t (acN M L ws)):=by
 apply xX.vc;refine (h.at _).num λn r u _ m1 h1=>h1.vec λx y z r2 u2 _ m2 h2 w4 e4 w5 e5=> ?_
 have x5:Ext u2 w5:=Ext.af (aV e4) e5 (ak _);have z5:=xh e4 e5;have hB:=h2.le;have Il:=h2.m.size;have h5:=h2.ext x5;refine h5.fin λ_ h4=>⟨rfl,?_⟩
 have h6:=h4.ext (Ext.dr w5);refine ⟨_,h6.ld,(SX h6.c.e h.ok aw n (x,y,z) h.sok).bj λbc hr=> ?_⟩;have hz:w5.heap.size<=bc:=hr.mod.size;refine ⟨_,_,rfl,h6.PI hr hB (by show _<w5.heap.size;omega) (h6.nf Il h.e),(km _ bc).bj λbw cN=> ?_⟩;have zx:=cN.size;refine ⟨_,rfl,cN.heap aa,λdj pJ=>(Us (am1 M L n (x,y,z)) (xs:=[.iface 9 (.string _)]) pJ (txs:=[lp (mG M L n (x,y,z)).1.1]) rfl bo (λ_ v xv=>all_cons (.s _) all_nil) (λt ht=>by rw [gU.1 ht];exact c8 (yb _) aw)).bj λcp dz=> ?_⟩;refine ⟨_,rfl,dz.heap (by rw [pJ];simp;omega),h6.TH ?_ (h.i.brk n (x,y,z)) hr (cN.tr ((aV pJ).tr dz))⟩;split
 ·exact iP (λt ht=>by rw [gU.1 ht];exact c8 (yb _) aw) bo
 ·exact fq _
end
open Tryz
variable {R:eWp} {w:World} {a0 a1 a2:Int}
def Cp.vc{a0:Addr}{a1:Addr}(h:(λA=>
 ae 152 #[a1] w (Qp R (gk λx1 w0=>ae 166 #[a1] w0 (Qp R (zJ λx3 x4 x5 w2=>Aw w2 #[ai,ai,ai] 73 λw6=>
 Sw w6 w2 #[x3,x4,x5] λw7=>
 ae 153 #[a1] w7 (Qp R (Rt λw8=>Kp w2 w7 w8/\
 ∃J9:Int->Option Addr->wPp,
 (fu w8.drew (ab (some a0) 0) λJt=>(λAa=>
 (ae 131 Aa w8.drew (Qp R (aia λcw cN cY dm dz dS de bB=>Kp w2 w8.drew bB/\
 Aw bB A 184 λeQ=>
 Sw eQ bB #[cw,cN,cY,dm,dz,dS] λfw=>
 aP [x3,x4,x5]/\J9 de (aB bB) fw)))/\(Aw w8.drew A 184 λcX=>
 ae 131 Aa cX (Qp R (aia λim jR gM nY jH rI kK dt=>Kp w2 cX dt/\oC w8 cX dt/\
 Sw dt w8.drew.heap.size #[im,jR,gM,nY,jH,rI] λpN=>
 aP [x3,x4,x5]/\J9 kK (aB w8.drew.heap.size) pN)))) #[Jt,x1,.agg #[x3,x4,x5]])/\
 ∀arM:Nat->Value,∀(mR:Int)(Bm:Option Addr)(ky:World),J9 mR Bm ky->
 aN (eI Bm) (jV ky.drew (ab Bm 3) λpG=>
 aN (eI Bm) (aN (eI (ab Bm 0)) (jV ky.drew (ab (ab Bm 0) 0) λpP=>
 aN (eI Bm) (aN (eI (ab Bm 0)) (jV ky.drew (ab (ab Bm 0) 1) λmQ=>
 aN (eI Bm) (aN (eI (ab Bm 0)) (jV ky.drew (ab (ab Bm 0) 2) λnI=>
 aN (eI Bm) (jV ky.drew (ab Bm 4) λrD=>
 aN (eI Bm) (jV ky.drew (ab Bm 5) λrK=>
 ae 170 #[pG] ky.drew (Qp R (oB λt42 kN=>Kp w2 ky.drew kN/\
 ah kN (ab Bm 5) 0 [rK]/\ah kN (ab Bm 4) 0 [rD]/\ah kN (ab (ab Bm 0) 2) 0 [nI]/\ah kN (ab (ab Bm 0) 1) 0 [mQ]/\ah kN (ab (ab Bm 0) 0) 0 [pP]/\Aw kN #[.iface 9 (.string t42),.iface 3 (pP),.iface 3 (mQ),.iface 3 (nI),.iface 3 (rD),.iface 3 (rK)] 20 λiS=>
 ae 167 #[mR,.slice (aB kN) 6 6] iS (Qp R (oB λt45 kh=>Kp w2 iS kh/\
 ah kh (ab Bm 5) 0 [rK]/\ah kh (ab Bm 4) 0 [rD]/\ah kh (ab (ab Bm 0) 2) 0 [nI]/\ah kh (ab (ab Bm 0) 1) 0 [mQ]/\ah kh (ab (ab Bm 0) 0) 0 [pP]/\R (Value.string t45) kh)))))))))))))))))))) #[ai,ai,ai,ai,ai,ai]):ae 103 #[a0,a1] w R:=
 lg (an:=⟨[],[(5,⟨[(8,.int .i64),(7,.ptr)],[],[]⟩)],[]⟩) (args:=[.pointer (some a0),.pointer (some a1)]) Tryz.Y6 Tryz.mixed func103 h (by kernel_rfl)
def DN.vc{a0:Addr}(h:
 uo (λI0 n1=>I0 n1 (31) w) λI0 n1 wZ x3 w4=>
 Br (x3>=0)
 (fu w4 (ab (some a0) 0) λp6=>
 ae 113 #[p6,.agg #[a1,x3,a2]] w4 (gk λx8 w7=>Br (x8==(-1))
 (R (Value.int .i64 (-2)) w7)
 (Br (x8==0)
 (∃n5,n5<n1/\I0 n5 ((aC (x3-1))) w7)
 (R x3 w7))))
 (R (Value.int .i64 (-1)) w4)):ae 134 #[a0,a1,a2] w R:=
 cq (Oy 2 7) func134 h
def Xa{w:World}(hT:lf w){x y z:Int}(hx:cT x)(hy:cT y)(hz:cT z):xy w (.iface 73 (.agg #[x,y,z])) (eG [bI x,bI y,bI z]):=
 .v x y z _ λu v xu e=>ni (xs:=[.iface 3 (.int .i64 x),.iface 3 (.int .i64 y),.iface 3 (.int .i64 z)]) e rfl bo
  (all_cons (gT (qn hT (xu.ba e)) hx) (all_cons (gT (qn hT (xu.ba e)) hy) (all_cons (gT (qn hT (xu.ba e)) hz) all_nil)))
  λt ht=>by have h1:=cF hx;have h2:=cF hy;have h3:=cF hz;simp only [cj,iY,or_false] at ht;rcases ht with rfl|rfl|rfl<;>omega
def ac3{w:World}(hT:lf w)(b:Bool):xy w (.iface 4 (.bool b)) (eG [bI (if b then 1 else 0)]):=by
 have hi:cT (if b then 1 else 0):=by unfold cT;cases b<;>decide
 exact .b b _ λu v xu e=>ni (xs:=[.iface 3 (.int .i64 (if b then 1 else 0))]) e rfl bo (all_cons (gT (qn hT (xu.ba e)) hi) all_nil)
  λt ht=>by rw [gU.1 ht];exact c8 (cF hi) aw
def JV{x y z:Int}(hx:cT x)(hy:cT y)(hz:cT z):(eG [bI x,bI y,bI z]).size<=1000:=by
 have h1:=cF hx;have h2:=cF hy;have h3:=cF hz;have e:=eM (eG [bI x,bI y,bI z]);have e1:=eM (bI x);have e2:=eM (bI y);have e3:=eM (bI z);have:bl (eG [bI x,bI y,bI z])=bl (bI x)++32::(bl (bI y)++32::bl (bI z)):=by show Lib.join [bl (bI x),bl (bI y),bl (bI z)] [32]=_;simp [Lib.join,List.intercalate]
 rw [this] at e;simp at e;omega
section
variable {k:Nat} {w w0:World} {F:Nat->Prop} {sh g s o t B ga:Nat} {M:Sm} {occ:Value} {L:Lv} {ws:List ByteArray} {R:eWp}
def Lu(M:Sm)(L:Lv)(ws:List ByteArray):Option Out:=(lG ws).bind λc=>(ku c.2).bind λ_=>some (tw (jm M.T.2 c.1),M,L)
def UF(b:Int):(tw b).size<=1000000:=by
 unfold tw;split
 ·decide
 ·exact JW b
def Uh(h:Mc k w F sh g s o t B ga M occ L ws):ae 104 #[sh,ga] w (MR k w ga F g s o t (Lu M L ws)):=by
 refine YT h.e h.r h.a h.f h.n JW _ ?_ ?_
 ·intro lD u m;have e:Lu M L ws=none:=by
   unfold Lu
   cases hp:lG ws with
   |none=>rfl
   |some x=>
    obtain ⟨c,r⟩:=x;show (ku r).bind _=none;unfold ku;rw [if_neg λq=>lD c (by rw [hp,q])];rfl
  rw [e];exact MR.bad m
 ·intro c hp;refine ⟨Xb hp,λu m=> ?_⟩;have e:Lu M L ws=some (tw (jm M.T.2 c),M,L):=by unfold Lu;rw [hp];rfl
  rw [e];exact MR.same h (UF _) m (Ext.bU _)
def YU{F:Nat->Prop}{w:World}{o t:Nat}{aj limit:Int}{T:Tb}{ch:List Cg}(h:WF F w o t aj limit T ch)(x z:Int)(hx:cT x)(hz:cT z):
  eU 134 #[o,x,z] w (Value.int .i64 (vT T.2 x z 32)):=by
 obtain ⟨F1,sc,hT,hR,hO,rfl⟩:=id h;apply DN.vc;refine ⟨λn y w'=>y+1=n/\y<=31/\Ext w w'/\vT T.2 x z 32=vT T.2 x z n,⟨32,aa,aa,Ext.bU _,rfl⟩,?_⟩;rintro n us y w4 ⟨hy,aE5,x4,he⟩;apply Br.mk<;>intro c
 ·replace c:=lT c;obtain ⟨k,rfl⟩:∃k:Nat,n=k+1:=⟨n-1,aa⟩;have hyk:y=(k:Nat):=by omega
  subst hyk;refine ⟨_,(hR.ext x4).at 0 rfl,(Bt (hT.ext x4) (x,(k:Int),z) ⟨hx,(show cT (k:Int) by unfold cT;omega),hz⟩).bj λw7 x7=> ?_⟩;refine ⟨_,rfl,Br.mk (λc1=> ?_) (λc1=>Br.mk (λc2=> ?_) (λc2=> ?_))⟩
  ·simp only [beq_iff_eq] at c1;refine ⟨?_,x4.tr x7⟩;rw [he];unfold vT;rw [if_pos c1]
  ·simp only [beq_eq_false_iff_ne] at c1;simp only [beq_iff_eq] at c2;have wr:aC ((k:Int)-1)=(k:Int)-1:=wI;refine ⟨k,aa,?_⟩;rw [wr];refine ⟨aa,aa,x4.tr x7,?_⟩;rw [he];show vT T.2 x z (k+1)=_;rw [vT,if_neg c1,if_pos c2]
  ·simp only [beq_eq_false_iff_ne] at c1 c2;refine ⟨?_,x4.tr x7⟩;rw [he];unfold vT;rw [if_neg c1,if_neg c2]
 ·replace c:=l6 c;have:n=0:=by omega
  subst this;exact ⟨by rw [he];rfl,x4⟩
def aqn(M:Sm)(L:Lv)(ws:List ByteArray):Option Out:=(zp ws).bind λp=>(ku p.2).bind λ_=>some (eG [bI (vT M.T.2 p.1.1 p.1.2 32)],M,L)
def ahS{p:Int × Int}{r:List ByteArray}(h:zp ws=some (p,r)):cT p.1/\cT p.2:=by
 unfold zp at h;split at h
 ·cases h
 ·rename_i x r1 h1;split at h
  ·cases h
  ·rename_i z r2 h2
   cases h
   exact ⟨sB h1,sB h2⟩
def Ui(h:Mc k w F sh g s o t B ga M occ L ws):ae 105 #[sh,ga] w (MR k w ga F g s o t (aqn M L ws)):=by
 apply DP.vc;refine (h.at _).pos λx z r u hp m1 h1 w4 e4 w5 e5=> ?_
 have x5:Ext u w5:=Ext.af (aV e4) e5 (ak _);have z5:=xh e4 e5;have hB:=h1.le;obtain ⟨hx,hz⟩:=ahS hp;refine (h1.ext x5).fin λ_ h4=>⟨rfl,?_⟩
 have hb:Row w5.drew u.heap.size [.int .i64 x,.int .i64 z] 139:=by
  have:Row w5 u.heap.size [.int .i64 x,.int .i64 z] 139:=by have hr4:Row w4 u.heap.size [ai,ai] 139:=Row.nw e4;rw [e5];exact hr4.set [_,_]
  exact this.ext (Ext.dr w5)
 have h5:=h4.ext (Ext.dr w5);have hsh:=h5.c.r.row;obtain ⟨Fs,hS,Of,-,-⟩:=h5.c.e.Is;obtain ⟨Fw,hW,-,-⟩:=hS.world;refine ⟨_,h5.ld,cJ.2 ⟨rfl,cJ.2 ⟨rfl,aB s,Of,(eN hS).gK ?_⟩⟩⟩;have ls:∀{v:World},Ext w5.drew v->ah v (ab (aB sh) 0) 0 [g]:=λxv=>by rw [aF];exact (hsh.ext xv).bK (λj _=>by simp)
 refine ⟨_,rfl,rfl,hb.bK (o:=1) (λj hj=>by simp at hj;subst hj;rfl),hb.bK (o:=0) (λj hj=>by simp at hj;subst hj;rfl),ls (Ext.bU _),(YU hW x z hx hz).bj λbc bM=> ?_⟩;have hs5:=oa w5;have zx:=bM.size;have hT:=WJ M.T.2 x z 32;have pE:cT (vT M.T.2 x z 32):=by unfold cT;omega
 have fE:=cF pE;have nE:∀t ∈ [bI (vT M.T.2 x z 32)],t.size<=1000:=λt ht=>by rw [gU.1 ht];omega
 refine ⟨_,rfl,bM.heap aa,ls bM,λbO uv=> ?_⟩;have cw:=bM.ba uv;refine (ni (xs:=[.iface 3 (.int .i64 _)]) uv (txs:=[bI (vT M.T.2 x z 32)]) rfl bo (all_cons (gT (h.t _ ((h5.m.mono λi _ hi=> .inr hi).trans (Mod.aq cw))) pE) all_nil) nE).bj λbw cN=> ?_
 exact ⟨_,rfl,cN.heap (by rw [uv];simp;omega),ls (cw.tr cN),h5.same (iP nE bo) (cw.tr cN)⟩
def akq(M:Sm)(L:Lv)(ws:List ByteArray):Option Out:=(gE ws).bind λn=>(ku n.2).bind λ_=>
 some (if (eH L n.1).2=true then eG [eG [bI (eH L n.1).1.au.1,bI (eH L n.1).1.au.2.1,bI (eH L n.1).1.au.2.2],eG [bI (eH L n.1).1.speed.1,bI (eH L n.1).1.speed.2.1,bI (eH L n.1).1.speed.2.2],eG [bI (if (eH L n.1).1.fM then 1 else 0)]] else ByteArray.mk #[110,111,110,101],M,L)
def ahT(h:kH L)(n:Int):(cT (eH L n).1.au.1/\cT (eH L n).1.au.2.1/\cT (eH L n).1.au.2.2)/\cT (eH L n).1.speed.1/\cT (eH L n).1.speed.2.1/\cT (eH L n).1.speed.2.2:=by
 unfold eH
 cases hy:cG L n with
 |none=>unfold cT ac4;decide
 |some y=>
  have hm:y.1.may=true:=h y (by
   unfold cG at hy;split at hy
   ·exact aQ (PZ.1 hy)
   ·cases hy)
  obtain ⟨-,-,h3,h4⟩:=kl.1 hm;unfold da at h3 h4;unfold cT;simp only;omega
def PB(h:Mc k w F sh g s o t B ga M occ L ws):ae 106 #[sh,ga] w (MR k w ga F g s o t (akq M L ws)):=by
 apply BI.vc;refine (h.at _).num λn r u _ m1 h1=>h1.fin λ_ h2=>⟨_,h2.ld,(YV h2.c.e n).bj λw4 x4=> ?_⟩
 refine ⟨_,_,_,_,_,_,_,_,_,_,rfl,λdj pJ cp CE=> ?_⟩;have dz:Ext u cp:=x4.tr (Ext.af (aV pJ) CE (ak _));have z16:=xh pJ CE;refine Br.mk (λc=>λcM uq=> ?_) (λc=>λfw wi=> ?_)
 ·have c:(eH L n).2=false:=by simpa using c
  refine (jn uq (.s _) aw).bj λdN de=> ?_
  refine ⟨_,rfl,de.heap (by rw [uq];simp;omega),?_⟩;have h3:=h2;simp only [c,Bool.false_eq_true,if_false] at h3;exact h3.same aw ((dz.ba uq).tr de)
 ·have c:(eH L n).2=true:=by simpa using c
  obtain ⟨⟨f1,f2,f3⟩,s1,s2,s3⟩:=ahT h.i.b n;have hb:cT (if (eH L n).1.fM then 1 else 0):=by unfold cT;split<;>decide
  have hT:lf fw:=h.t _ ((h2.m.mono λi _ hi=> .inr hi).trans (Mod.aq (dz.ba wi)));have j1:(eG [bI (if (eH L n).1.fM then 1 else 0)]).size<=1000:=by rw [join_one];exact c8 (cF hb) aw
  have nE:∀t ∈ [eG [bI (eH L n).1.au.1,bI (eH L n).1.au.2.1,bI (eH L n).1.au.2.2],eG [bI (eH L n).1.speed.1,bI (eH L n).1.speed.2.1,bI (eH L n).1.speed.2.2],eG [bI (if (eH L n).1.fM then 1 else 0)]],t.size<=1000:=λt ht=>by
   simp only [cj,iY,or_false] at ht;rcases ht with rfl|rfl|rfl
   ·exact JV f1 f2 f3
   ·exact JV s1 s2 s3
   ·exact j1
  refine (ni (xs:=[.iface 73 (.agg #[_,_,_]),.iface 73 (.agg #[_,_,_]),.iface 4 (.bool _)]) wi (txs:=[eG [bI (eH L n).1.au.1,bI (eH L n).1.au.2.1,bI (eH L n).1.au.2.2],eG [bI (eH L n).1.speed.1,bI (eH L n).1.speed.2.1,bI (eH L n).1.speed.2.2],eG [bI (if (eH L n).1.fM then 1 else 0)]]) rfl bo (all_cons (Xa hT f1 f2 f3) (all_cons (Xa hT s1 s2 s3) (all_cons (ac3 hT _) all_nil))) nE).bj λcX fj=> ?_
  refine ⟨_,rfl,fj.heap (by rw [wi];simp;omega),?_⟩;have h3:=h2;simp only [c,if_true] at h3;exact h3.same (iP nE bo) ((dz.ba wi).tr fj)
def akr(M:Sm)(L:Lv)(ws:List ByteArray):Option Out:=(ku ws).bind λ_=>some (Xc L,M,L)
def Xd(h:Mc k w F sh g s o t B ga M occ L ws)(hw:ws≠ []){q:Unit->Option Out}{K:wPp}:ae 153 #[ga] w λe u=>ID (MR k w ga F g s o t ((ku ws).bind q)) e u (e=pH/\K u):=
 (h.at _).fin λq=>absurd q hw
def UG:(Xc L).size<=1000000:=by
 unfold Xc;refine iP (λt ht=> ?_) (by rw [aJ];have:=ac5 L;omega);obtain ⟨n,hn,rfl⟩:=bf.1 ht;have h0:=xC hn;have:∀n:Fin 100,(ByteArray.mk (Lib.decDigits n.val).toArray).size<=1000:=by decide+kernel
 exact this ⟨n.toNat,aa⟩
def L3(h:Mc k w F sh g s o t B ga M occ L ws):ae 107 #[sh,ga] w (MR k w ga F g s o t (akr M L ws)):=by
 by_cases hw:ws=[]
 ·subst hw;refine (P2 h.e h.r h.a).bj λu x=> ?_
  exact MR.same h UG (Mod.refl _ _) x
 ·apply q9.vc;exact Xd h hw
def JX(n:Int):ByteArray:=if -600000<=n/\n<=600000 then bI n else ByteArray.mk #[]
def C0(n:Int):(JX n).size<=100:=by
 unfold JX;split
 ·exact cF inO
 ·decide
def aks(M:Sm)(L:Lv)(ws:List ByteArray):Option Out:=(ku ws).bind λ_=>some (eG (wM JX M.T.2),M,L)
def L4(h:Mc k w F sh g s o t B ga M occ L ws):ae 108 #[sh,ga] w (MR k w ga F g s o t (aks M L ws)):=by
 have h16:=h.e.few;by_cases hw:ws=[]
 ·subst hw;have it:∀{u:World} {n:Int},Ext w u-> -600000<=n/\n<=600000->xy u (.iface 3 (.int .i64 n)) (JX n):=λxu hn=>by unfold JX;rw [if_pos hn];exact gT (h.t _ (Mod.aq xu)) inO
  refine (P3 h.e h.r h.a (it:=JX) (λu xu e he=> ?_) aa λn=>c8 (C0 n) aw).mono ?_
  ·obtain ⟨q,-,-⟩:=h.i.n.1.e e he;unfold EP at q;exact ⟨it xu aa,it xu aa⟩
  ·rintro _ u ⟨rfl,x⟩;refine MR.same h (iP (λt ht=> ?_) (by rw [JY];omega)) (Mod.refl _ _) x;unfold wM at ht;obtain ⟨l,hl,ht⟩:=List.mem_flatten.1 ht;obtain ⟨e,-,rfl⟩:=bf.1 hl;simp at ht;rcases ht with rfl|rfl<;>exact c8 (C0 _) aw
 ·apply re.vc;exact Xd h hw
end
def Xz{d c0:Ce}{r:Int}:∀(n k:Nat) {s:S3} {h0 h:Hi},wS d c0 k s h0.1->h ∈ goK d c0 r n s h0->(0<=h0.2.2/\h0.2.2<=4294967296*(k+1))->0<=h.2.2/\h.2.2<=4294967296*(k+n+1)
 |0,k,s,h0,h,hr,hm,h1=>by cases hm
 |n+1,k,s,h0,h,hr,hm,h1=>by
  unfold goK at hm
  split at hm
  ·rcases cj.1 hm with rfl|hm
   ·omega
   ·cases hq:ja d s h0 with
    |none=>rw [hq] at hm;cases hm
    |some q=>
     rw [hq] at hm
     have h2:=Rj hr hq
     have h3:0<=q.2.2.2/\q.2.2.2<=4294967296*((k+1:Nat)+1):=by
      have ha:=at3 s;have hs:=Rk (a:=eO s 3) hr aa;unfold ja at hq;split at hq
      ·cases hq
      ·rename_i fA;injection hq with hq;rw [<-hq];simp only;have hp:0<=(iD s (eO s 3)).1*65536:=by have:=hs.2.1.1;omega
       have hle:(iD s (eO s 3)).1*65536 /(iD s (eO s 3)).2<=(iD s (eO s 3)).1*65536:=Int.ediv_le_self _ hp;have OK:0<=(iD s (eO s 3)).1*65536 /(iD s (eO s 3)).2:=Int.ediv_nonneg hp (by rw [hs.1];unfold ya;omega);have:=hs.2.1.2;omega
     have:=Xz n (k+1) h2 hm h3;omega
  ·cases hm
def aiz{M:Sm}{L:lCs}{m:Int}(hL:ES m L)(hm:m<=99970000000000)(n:Int)(gL:Ce):(cT (cQ M L n gL).1.1.1/\cT (cQ M L n gL).1.1.2.1/\cT (cQ M L n gL).1.1.2.2)/\cT (cQ M L n gL).1.2.2.1/\cT (cQ M L n gL).1.2.2.2:=by
 by_cases h0:(cQ M L n gL).2=0
 ·have hn:=(Co hL hm h0).1;obtain ⟨y,-,-,hc,-⟩:=Rl h0;have hh:=Rm (by rw [aiA];decide) hc;have ht:0<=(cQ M L n gL).1.2.2.2/\(cQ M L n gL).1.2.2.2<=4294967296*40:=by
   unfold lA at hc;split at hc
   ·rename_i h hf;injection hc with hc;rw [<-hc];have pV:=G1 hf;unfold lC at pV;have hb:=Kn (eP (py y.1)) (kf gL) (λi hi=>by
     have:i=0\/i=1\/i=2:=by omega
     unfold kf wT dK;rcases this with rfl|rfl|rfl<;>simp<;>omega)
    have:=Xz _ 0 hb pV ⟨jN 0,(by show (0:Int)<=4294967296*((0:Nat)+1);decide)⟩;have e5:=aiA;rw [e5] at this;simp only;omega
   ·injection hc with _ hc
    cases hc
  unfold jQ at hn;unfold cT;omega
 ·have e:(cQ M L n gL).1=Vr:=by
   unfold cQ at h0 ⊢
   cases hq:cG L n with
   |none=>rfl
   |some y=>
    rw [hq] at h0;simp only at h0 ⊢;split
    ·rfl
    ·rename_i q2;split
     ·rfl
     ·rename_i q3;rw [if_neg q2,if_neg q3] at h0;exact absurd rfl h0
  rw [e];unfold Vr cT;decide
section
variable {k:Nat} {w w0:World} {F:Nat->Prop} {sh g s o t B ga:Nat} {M:Sm} {occ:Value} {L:Lv} {ws:List ByteArray} {R:eWp}
def Ro(h:Rp):List ByteArray:=[lp h.2.1,bI h.1.1,bI h.1.2.1,bI h.1.2.2,bI h.2.2.1,bI h.2.2.2]
def akp(M:Sm)(L:Lv)(ws:List ByteArray):Option Out:=(gE ws).bind λn=>(lG n.2).bind λv=>(ku v.2).bind λ_=>
 some (if (cQ M L n.1 v.1).2=0 then eG (Ro (cQ M L n.1 v.1).1) else iT (cQ M L n.1 v.1).2,M,L)
def PA(h:Mc k w F sh g s o t B ga M occ L ws):ae 103 #[sh,ga] w (MR k w ga F g s o t (akp M L ws)):=by
 apply Cp.vc;refine (h.at _).num λn r u _ m1 h1=>h1.vec λx y z r2 u2 _ m2 h2 w4 e4 w5 e5=> ?_
 have x5:Ext u2 w5:=Ext.af (aV e4) e5 (ak _);have z5:=xh e4 e5;have hB:=h2.le;have Il:=h2.m.size;have h5:=h2.ext x5;have hz5:=h5.m.size;refine h5.fin λ_ h4=>⟨rfl,?_⟩
 have h6:=h4.ext (Ext.dr w5);have d5:=oa w5;have L6:=vM h6.c.e h.ok aw n (x,y,z);generalize hl:cQ M L n (x,y,z)=l at*;have pE:=aiz (M:=M) h.ok aw n (x,y,z);rw [hl] at pE;have her:er l.2:=hl▸M4 M L n (x,y,z);refine ⟨λe p v=>Ext w5.drew v/\e=l.2/\∃b,p=aB b/\Row v b [l.1.1.1,l.1.1.2.1,l.1.1.2.2,l.1.2.1,l.1.2.2.1,l.1.2.2.2] 184,⟨_,h6.ld,L6.mono ?_,?_⟩,?_⟩
 ·rintro _ bB ⟨rfl,bR⟩;refine ⟨_,_,_,_,_,_,_,rfl,bR.heap aa,λeQ S8 fw wi=>⟨rfl,?_,rfl,_,rfl,?_⟩⟩
  ·exact bR.tr (Ext.af (aV S8) wi (ak _))
  ·rw [wi];exact Row.set (by rw [S8];exact Row.new _ [_,_,_,_,_,_] _) _
 ·intro cX vu;have fj:=aV vu;have z21:=fE vu;refine ((hl▸vM (h6.ext fj).c.e h.ok aw n (x,y,z))).bj λdt gI=> ?_
  have z22:=gI.size;refine ⟨_,_,_,_,_,_,_,rfl,gI.heap aa,gI.heap aa,λpN e30=>⟨rfl,?_,rfl,_,rfl,?_⟩⟩
  ·exact Ext.af (fj.tr gI) e30 (ak _)
  ·rw [e30];exact Row.set ((show Row cX w5.drew.heap.size _ _ by rw [vu];exact Row.new _ [_,_,_,_,_,_] _).ext gI) _
 ·rintro us e p v ⟨xv,rfl,b,rfl,hr⟩;have hv:=hr.ext (Ext.dr v);have lr:∀{u:World},Ext v.drew u->∀j:Nat,∀a,[Value.int .i64 l.1.1.1,l.1.1.2.1,l.1.1.2.2,l.1.2.1,l.1.2.2.1,l.1.2.2.2][j]? =some a->Vc.ld u (jS b j)=some a:=λxu j a ha=>by rw [(hv.ext xu).ld];exact ha
  have zv:=xv.size;have dv:v.drew.heap.size=v.heap.size:=rfl;have lL:∀{u:World},Ext v.drew u->∀j:Nat,∀a,[Value.int .i64 l.1.1.1,l.1.1.2.1,l.1.1.2.2,l.1.2.1,l.1.2.2.1,l.1.2.2.2][j]? =some a->ah u (jS b j) 0 [a]:=λxu j a ha=>(hv.ext xu).bK (o:=j) (vs:=[a]) (λi hi=>by simp at hi;subst hi;simpa using ha)
  simp only [aF];refine cJ.2 ⟨rfl,_,lr (Ext.bU _) 3 _ rfl,cJ.2 ⟨rfl,cJ.2 ⟨rfl,_,lr (Ext.bU _) 0 _ rfl,cJ.2 ⟨rfl,cJ.2 ⟨rfl,_,lr (Ext.bU _) 1 _ rfl,cJ.2 ⟨rfl,cJ.2 ⟨rfl,_,lr (Ext.bU _) 2 _ rfl,cJ.2 ⟨rfl,_,lr (Ext.bU _) 4 _ rfl,cJ.2 ⟨rfl,_,lr (Ext.bU _) 5 _ rfl,(km _ v.drew).bj λkN lO=> ?_⟩⟩⟩⟩⟩⟩⟩⟩⟩;have z41:=lO.size;have nb:u2.heap.size<v.heap.size:=by omega
  refine ⟨_,rfl,lO.heap aa,lL lO 5 _ rfl,lL lO 4 _ rfl,lL lO 2 _ rfl,lL lO 1 _ rfl,lL lO 0 _ rfl,λiS X6=> ?_⟩;have vS:=lO.ba X6;obtain ⟨⟨i1,i2,i3⟩,i4,i5⟩:=pE;have nE:∀t ∈ Ro l.1,t.size<=1000:=λt ht=>by have a0:=yb l.1.2.1;have a1:=cF i1;have a2:=cF i2;have a3:=cF i3;have a4:=cF i4;have a5:=cF i5;unfold Ro at ht;simp only [cj,iY,or_false] at ht;rcases ht with rfl|rfl|rfl|rfl|rfl|rfl<;>omega
  have hT:∀{u:World},Ext v.drew u->lf u:=λxu=>h.t _ ((h6.m.mono λi _ hi=> .inr hi).trans (Mod.aq ((xv.tr (Ext.dr v)).tr xu)))
  refine (Us her (xs:=[.iface 9 (.string _),.iface 3 (.int .i64 _),.iface 3 (.int .i64 _),.iface 3 (.int .i64 _),.iface 3 (.int .i64 _),.iface 3 (.int .i64 _)]) X6 (txs:=Ro l.1) rfl bo (λ_ u xu=>all_cons (.s _) (all_cons (gT (hT (vS.tr xu)) i1) (all_cons (gT (hT (vS.tr xu)) i2) (all_cons (gT (hT (vS.tr xu)) i3) (all_cons (gT (hT (vS.tr xu)) i4) (all_cons (gT (hT (vS.tr xu)) i5) all_nil)))))) nE).bj λkh rE=> ?_
  have xx:=vS.tr rE;refine ⟨_,rfl,rE.heap (by rw [X6];simp;omega),lL xx 5 _ rfl,lL xx 4 _ rfl,lL xx 2 _ rfl,lL xx 1 _ rfl,lL xx 0 _ rfl,?_⟩;refine h6.same ?_ ((xv.tr (Ext.dr v)).tr xx);split
  ·exact iP nE (by simp [Ro])
  ·exact fq _
end
section
variable {k:Nat} {w w0:World} {F:Nat->Prop} {sh g s o t B ga:Nat} {M:Sm} {occ:Value} {L:Lv} {ws:List ByteArray} {R:eWp}
def akt(M:Sm)(L:Lv)(ws:List ByteArray):Option Out:=(gE ws).bind λn=>(ku n.2).bind λ_=>(ady (decide (n.1>=1) && decide (n.1<=100))).bind λ_=>
 some (eG [bI (fP n.1.toNat M L).1,bI (fP n.1.toNat M L).2.1.now],(fP n.1.toNat M L).2.1,(fP n.1.toNat M L).2.2)
def PC(h:Mc k w F sh g s o t B ga M occ L ws):ae 109 #[sh,ga] w (MR k w ga F g s o t (akt M L ws)):=by
 apply Ci.vc;refine (h.at _).num λn r u _ m1 h1=>h1.fin λ_ h2=>Br.mk (λc=> ?_) (λc=> ?_)
 ·have c1:1<=n:=of_decide_eq_true c;refine h2.ama (b:=decide (n<=100)) (by rw [c];rfl) λhb h3=> ?_
  have c2:n<=100:=of_decide_eq_true hb;have hk:=h.z;have hsh:=h3.c.r.row;have fD:=hsh.lt;have shell:∀{v:World},Mod F u v->Vc.ld v (ab (aB sh) 0)=some (.pointer (aB g)):=λm=>by rw [aF,(hsh.same (m.same sh fD h.q)).ld];rfl
  refine ⟨λm x y v=>∃j:Nat,x=j/\y=(fP j M L).1/\(j:Int)+m=n/\∃occ',dQ F u g s o t (fP j M L).2.1 occ' (fP j M L).2.2 v,⟨n.toNat,0,rfl,rfl,aa,occ,h3.c.e.res (Ext.bU _)⟩,?_⟩;rintro m us x y v ⟨j,rfl,rfl,hj,occ',hr⟩;obtain ⟨hJ,ht1,ht2⟩:=h.i.akR j;obtain ⟨F',hE,ht⟩:=id hr;have hs:qJ (fP j M L).2.1 600000000:=hJ.s.mono aa;apply Br.mk<;>intro c
  ·have c:(j:Int)<n:=of_decide_eq_true c;refine ⟨_,shell hr.mod,(Zl hE hJ.b.ok aw aw hJ.n.due hs hJ.u).mono ?_⟩;rintro _ bO ⟨rfl,jY,-⟩;have hl:=E0 (q:=(fP j M L).2.1.q) (now:=qK (fP j M L).2.1) hJ.u;have TB:(vX (fP j M L).2.1).length<=64:=hl;refine ⟨_,rfl,m-1,aa,j+1,by rw [wI];omega,?_,aa,_,dQ.tr ht jY⟩;rw [wI];rfl
  ·have c:¬(j:Int)<n:=of_decide_eq_false c;have hj0:n.toNat=j:=by omega
   obtain ⟨Fs,hS,Of,-,-⟩:=hE.Is;refine ⟨_,shell hr.mod,cJ.2 ⟨rfl,cJ.2 ⟨rfl,aB s,Of,(KC hS).gK ?_⟩⟩⟩;have i1:cT (fP j M L).1:=by unfold cT;omega
   have i2:cT (fP j M L).2.1.now:=by have:=hs.now;unfold cT;omega
   have s1:=cF i1;have s2:=cF i2;have nE:∀t ∈ [bI (fP j M L).1,bI (fP j M L).2.1.now],t.size<=1000:=λt ht=>by simp only [cj,iY,or_false] at ht;rcases ht with rfl|rfl<;>omega
   refine ⟨_,rfl,λdN Od=> ?_⟩;have hT:lf dN:=h.t _ (((h3.m.mono λi _ hi=> .inr hi).trans (hr.mod.mono λi _ hi=> .inl hi)).trans (Mod.aq (aV Od)));refine (ni (xs:=[.iface 3 (.int .i64 _),.iface 3 (.int .i64 _)]) Od (txs:=[bI (fP j M L).1,bI (fP j M L).2.1.now]) rfl bo (all_cons (gT hT i1) (all_cons (gT hT i2) all_nil)) nE).bj λeQ dR=> ?_
   refine ⟨_,rfl,?_⟩;have h4:=h3;simp only [hj0] at h4;exact h4.TH (iP nE bo) (hJ.inv aa) hr ((aV Od).tr dR)
 ·exact h2.ama (b:=false) (by rw [c];rfl) λhb=>by cases hb
def k9(ws:List ByteArray):Option Out:=(lG ws).bind λv=>(ku v.2).bind λ_=>some (ByteArray.mk #[111,107],yG v.1.1 v.1.2.1 200000 v.1.2.2,xt)
def am4(room:Int):KR (T6 room):=λx hx=>by rcases hx with hx|hx<;>cases hx
def Inv.new(a b c:Int)(k:Nat):Inv k (yG a b 200000 c) xt:=
 ⟨λy hy=>(by cases (O4.1 hy).2),⟨⟨jN 0,by simp only;omega⟩,dU _,⟨jN 0,(by show (0:Int)<=1099511627776;decide)⟩,dU _⟩,⟨⟨λe he=>(by cases he),dU _,am4 _⟩,λx hx=>(by cases hx),jN 0,(by show (0:Int)<=1099511627776;decide)⟩,by show 1<=min (max c 1) 64/\min (max c 1) 64<=64;omega⟩
def Yu(h:Mc k w F sh g s o t B ga M occ L ws)(hw:k9 ws=none):ae 86 #[sh,ga] w λe u=>e=H8/\Mod (λi=>i=ga) w u:=by
 have key:ae 86 #[sh,ga] w (MR k w ga F g s o t ((gE ws).bind λa=>(gE a.2).bind λb=>(gE b.2).bind λc=>(ku c.2).bind λ_=>none)):=by
  apply qu.vc;refine (h.at _).num λa r u h1 m1 q1=>q1.num λb r2 u2 h2 m2 q2=>q2.num λc r3 u3 h3 m3 q3=>q3.fin λhr q4=> ?_
  exfalso;unfold k9 lG at hw;simp only [h1,h2,h3,hr] at hw
  cases hw
 refine key.mono λe u hr=> ?_
 generalize hp:((gE ws).bind λa=>(gE a.2).bind λb=>(gE b.2).bind λc=>(ku c.2).bind λ_=>(none:Option Out))=p at hr;have:p=none:=by
  rw [<-hp]
  cases gE ws with
  |none=>rfl
  |some a=>
   show (gE a.2).bind _=none
   cases gE a.2 with
   |none=>rfl
   |some b=>
    show (gE b.2).bind _=none
    cases gE b.2 with
    |none=>rfl
    |some c=>
     show (ku c.2).bind _=none
     cases ku c.2<;>rfl
 subst this;exact hr
end
section
variable {k:Nat} {w w0 u u':World} {F:Nat->Prop} {sh g s o t B ga:Nat} {M:Sm} {occ:Value} {L:Lv} {ws r:List ByteArray} {line c:ByteArray} {T:ByteArray}
def aql(h:EF F w g s o t M occ L):∃F1,TF F1 w t M.aj M.cap M.T/\∀{w':World} {T':Tb},Fz F1 w t M.aj M.cap T' w'->dQ F w g s o t {M with T:=T'} occ L w':=by obtain ⟨Fw,hW,bq⟩:=h.world;obtain ⟨F1,hT,-,hrt⟩:=hW.table;exact ⟨F1,hT,λhr=>bq (hrt hr)⟩
def Lq(h:EF F w g s o t M occ L)(hW:M.T.1.l.length<=1000000)(p:Po):
  ae 89 #[t,pv p] w λe w'=>e=Value.int .i64 (oh M.T.1 M.T.2 p).2/\dQ F w g s o t {M with T:=(oh M.T.1 M.T.2 p).1} occ L w':=by
 obtain ⟨F1,hT,bq⟩:=aql h;exact (Iu hT hW p).mono λe w' hh=>⟨hh.1,bq hh.2⟩
def JH(h:EF F w g s o t M occ L)(hp:∀y ∈ M.T.2,-1000000000<=y.2.2.2/\y.2.2.2<=1000000000)(p:Po):
  (ae 91 #[t,pv p] w λe w'=>e=Value.int .i64 (zo M.T.2 p).2/\dQ F w g s o t {M with T:=(M.T.1,(zo M.T.2 p).1)} occ L w')/\
  ae 92 #[t,pv p] w λe w'=>e=Value.int .i64 (k7 M.T.2 p).2/\dQ F w g s o t {M with T:=(M.T.1,(k7 M.T.2 p).1)} occ L w':=by
 obtain ⟨F1,hT,bq⟩:=aql h;obtain ⟨st,d,r,sl,its,g1,e,rfl⟩:=hT;have hp':∀y ∈ its,-1000000000<=y.pins/\y.pins<=1000000000:=λy hy=>hp y.ob (by rw [<-e];exact bf.2 ⟨y,hy,rfl⟩)
 rw [<-e];exact ⟨(acG g1 hp' p).mono λe w' hh=>⟨hh.1,bq (wG hh.2)⟩,(Ud g1 hp' p).mono λe w' hh=>⟨hh.1,bq (wG hh.2)⟩⟩
def alV(j:Nat)(M:Sm)(p:Po):Int × Sm:=match j with
 |0=>((Bh M.aj M.cap M.T.1 M.T.2 p).2,{M with T:=(Bh M.aj M.cap M.T.1 M.T.2 p).1})
 |1=>((oh M.T.1 M.T.2 p).2,{M with T:=(oh M.T.1 M.T.2 p).1})
 |2=>((TG M.T.1 M.T.2 p).2,{M with T:=(TG M.T.1 M.T.2 p).1})
 |3=>((zo M.T.2 p).2,{M with T:=(M.T.1,(zo M.T.2 p).1)})
 |_=>((k7 M.T.2 p).2,{M with T:=(M.T.1,(k7 M.T.2 p).1)})
def Lr(j:Nat)(M:Sm)(L:Lv)(r:List ByteArray):Option Out:=match zp r with|some (p,[])=>some (iT (alV j M p).1,(alV j M p).2,L)|_=>none
def uL(hl:line.size<=4294967296)(hw:cc line=c::r)(j:Nat)(hj:j<5)(hi:uM[j+1]? =some c):kG k line M L ((Lr j M L r).getD (k8,M,L)):=by
 refine kG.tbl hl hw j hj hi (alV j M) λ{w F g s o t occ} h hI hk p=> ?_
 have hd:=hI.d hk;have hT:=hI.n.1;have ht:∀{T'},nM k (20*k+1) T'->Inv (k+1) {M with T:=T'} L:=λq=>hI.tab (q.mono aa aa)
 have hp:∀y ∈ M.T.2,-1000000000<=y.2.2.2/\y.2.2.2<=1000000000:=λy hy=>by obtain ⟨-,q1,q2⟩:=hT.e y hy;omega
 have:j=0\/j=1\/j=2\/j=3\/j=4:=by omega
 rcases this with rfl|rfl|rfl|rfl|rfl
 ·exact ⟨ahC ..,ht (hT.load (D:=M.T.1) (l:=M.T.2) p),bV (by kernel_rfl) rfl (Ue h aa p)⟩
 ·exact ⟨Yt ..,ht (hT.alX (D:=M.T.1) (l:=M.T.2) p),bV (by kernel_rfl) rfl (Lq h aa p)⟩
 ·exact ⟨acH ..,ht (hT.flush (D:=M.T.1) (l:=M.T.2) p),bV (by kernel_rfl) rfl (Pu h aa p)⟩
 ·exact ⟨(acI ..).1,hI.tab ((hT.pin (D:=M.T.1) (l:=M.T.2) p).mono aa aa),bV (by kernel_rfl) rfl (JH h hp p).1⟩
 ·exact ⟨(acI ..).2,hI.tab ((hT.aqm (D:=M.T.1) (l:=M.T.2) p).mono aa aa),bV (by kernel_rfl) rfl (JH h hp p).2⟩
def Uf(hl:line.size<=4294967296)(hw:cc line=ByteArray.mk #[119,111,114,108,100]::r):kG k line M L ((k9 r).getD (k8,M,L)):=by
 intro w0 w F sh g s o t occ hk hT hx hF0 hsh0 h hs hF hI;have mP:=hs.row.lt;have hz:=hx.size;have nE:((k9 r).getD (k8,M,L)).1.size<=1000000:=by
  cases hq:k9 r with
  |none=>show k8.size<=1000000;decide
  |some x=>
   unfold k9 at hq
   cases h1:lG r with
   |none=>rw [h1] at hq;cases hq
   |some v=>
    rw [h1] at hq
    cases h2:ku v.2 with
    |none=>simp only [Option.bind_some,h2] at hq;cases hq
    |some _=>simp only [Option.bind_some,h2] at hq;cases hq;show (ByteArray.mk #[111,107]).size<=1000000;decide
 refine (JI h hs line hl hw 0 86 rfl (λ_ _ _ _ _=>rfl) (λargs w=>cU Tryz.func86 (by kernel_rfl) rfl args w)
  (λtx u=>tx=((k9 r).getD (k8,M,L)).1/\∃g' s' o' t' occ' F',EF F' u g' s' o' t' ((k9 r).getD (k8,M,L)).2.1 occ' ((k9 r).getD (k8,M,L)).2.2/\Iv u sh g'/\¬F' sh/\Mod (λi=>F i\/i=sh) w u/\(∀i,F' i->F i\/w.heap.size<i)/\Inv (k+1) ((k9 r).getD (k8,M,L)).2.1 ((k9 r).getD (k8,M,L)).2.2) ?_ ?_).mono ?_
 ·rintro t' v v' ⟨rfl,g',s',o',t',occ',F',hE,hS,hn,hm,dP,hI'⟩ hm';have nF:¬F' w:=λq=>(dP _ q).elim (λq=>by have:=h.lt q;omega) (λq=>by omega)
  exact ⟨rfl,g',s',o',t',occ',F',hE.same λi hi=>hm'.same i (hE.lt hi) (λq=>nF (q▸hi)),⟨hS.row.same (hm'.same sh hS.row.lt aa)⟩,hn,hm.tr hm' (λi hi=> .inr aa),dP,hI'⟩
 ·intro v B ga xv ON hga;have hgl:=ON.lt;have hle:=ON.le;have hFga:¬F ga:=λq=>by have:=h.lt q;omega
  have hzv:=xv.size;have hc:Mc k v F sh g s o t B ga M occ L r:=⟨h.ext xv,⟨hs.row.ext xv⟩,ON,hFga,aa,hI,λu m=>WU hT (hx.tr xv) m λi hi=>hi.elim (hF0 i) (λq=>by omega),hk,hF⟩
  cases hq:k9 r with
  |none=>
   refine (Yu hc hq).bj λv' m=> ?_
   refine ⟨m.same _ aa aa,.inr ⟨rfl,rfl,g,s,o,t,occ,F,hc.ef m,⟨hc.r.row.same (m.same sh hc.r.row.lt aa)⟩,hF,(Mod.aq xv).tr m (λi hi=> .inr aa),λi hi=> .inl hi,hI.up⟩⟩
  |some x=>
   have hp:∃a b c,lG r=some ((a,b,c),[])/\x=(ByteArray.mk #[111,107],yG a b 200000 c,xt):=by
    unfold k9 at hq
    cases h1:lG r with
    |none=>rw [h1] at hq;cases hq
    |some y=>
     obtain ⟨⟨a,b,c⟩,r'⟩:=y;rw [h1] at hq;by_cases h2:r'=[]
     ·subst h2
      cases hq
      exact ⟨a,b,c,rfl,rfl⟩
     ·have:ku r'=none:=by unfold ku;rw [if_neg h2]
      simp only [Option.bind_some,this] at hq
      cases hq
   obtain ⟨a,b,c,hp,rfl⟩:=hp;refine (Lt (w:=v) ⟨hs.row.ext xv⟩ ON aa hp).mono ?_;rintro e v' ⟨rfl,hm,g',s',o',t',F',hE,hS,hF'⟩;exact ⟨hm.same _ aa aa,.inl ⟨_,rfl,rfl,g',s',o',t',Ug,F',hE,hS,λq=>by have:=hF' _ q;omega,(Mod.aq xv).tr hm (λi hi=>by rcases hi with hi|hi;exact .inr aa;exact .inl (.inr hi)),λi hi=> .inr (by have:=hF' i hi;omega),Inv.new a b c _⟩⟩
 ·rintro e w' ⟨t',rfl,rfl,g',s',o',t',occ',F',hE,hS,hn,hm,dP,hI'⟩;exact ⟨rfl,nE,g',s',o',t',occ',F',hE,hS,hn,hm,λi hi=>(dP i hi).imp id (λq=>by omega),hI'⟩
noncomputable def acJ(i:Nat)(M:Sm)(L:Lv)(r:List ByteArray):Option Out:=match i with
 |0=>k9 r
 |1=>Lr 0 M L r
 |2=>Lr 1 M L r
 |3=>Lr 2 M L r
 |4=>Lr 3 M L r
 |5=>Lr 4 M L r
 |6=>JK M L r
 |7=>akk M L r
 |8=>acK M r
 |9=>akl M L r
 |10=>acL M L r
 |11=>akm M L r
 |12=>akn M L r
 |13=>acM M L r
 |14=>ako M L r
 |15=>acN M L r
 |16=>akp M L r
 |17=>Lu M L r
 |18=>aqn M L r
 |19=>akq M L r
 |20=>akr M L r
 |21=>aks M L r
 |22=>akt M L r
 |_=>none
def acO(hl:line.size<=4294967296)(hw:cc line=c::r){i:Nat}(hi:uM[i]? =some c):kG k line M L ((acJ i M L r).getD (k8,M,L)):=by
 match i with
 |0=>cases hi;exact Uf hl hw
 |1=>exact uL hl hw 0 aw hi
 |2=>exact uL hl hw 1 aw hi
 |3=>exact uL hl hw 2 aw hi
 |4=>exact uL hl hw 3 aw hi
 |5=>exact uL hl hw 4 aw hi
 |6=>exact kG.uN hl hw 6 93 hi (λ_ _ _ _ _ _=>rfl) (λargs w=>cU Tryz.func93 (by kernel_rfl) rfl args w) DD
 |7=>exact kG.uN hl hw 7 94 hi (λ_ _ _ _ _ _=>rfl) (λargs w=>cU Tryz.func94 (by kernel_rfl) rfl args w) Lw
 |8=>exact kG.uN hl hw 8 95 hi (λ_ _ _ _ _ _=>rfl) (λargs w=>cU Tryz.func95 (by kernel_rfl) rfl args w) Iw
 |9=>exact kG.uN hl hw 9 96 hi (λ_ _ _ _ _ _=>rfl) (λargs w=>cU Tryz.func96 (by kernel_rfl) rfl args w) Px
 |10=>exact kG.uN hl hw 10 97 hi (λ_ _ _ _ _ _=>rfl) (λargs w=>cU Tryz.func97 (by kernel_rfl) rfl args w) Lx
 |11=>exact kG.uN hl hw 11 98 hi (λ_ _ _ _ _ _=>rfl) (λargs w=>cU Tryz.func98 (by kernel_rfl) rfl args w) Py
 |12=>exact kG.uN hl hw 12 99 hi (λ_ _ _ _ _ _=>rfl) (λargs w=>cU Tryz.func99 (by kernel_rfl) rfl args w) Pz
 |13=>exact kG.uN hl hw 13 100 hi (λ_ _ _ _ _ _=>rfl) (λargs w=>cU Tryz.func100 (by kernel_rfl) rfl args w) Ly
 |14=>exact kG.uN hl hw 14 101 hi (λ_ _ _ _ _ _=>rfl) (λargs w=>cU Tryz.func101 (by kernel_rfl) rfl args w) Lz
 |15=>exact kG.uN hl hw 15 102 hi (λ_ _ _ _ _ _=>rfl) (λargs w=>cU Tryz.func102 (by kernel_rfl) rfl args w) L1
 |16=>exact kG.uN hl hw 16 103 hi (λ_ _ _ _ _ _=>rfl) (λargs w=>cU Tryz.func103 (by kernel_rfl) rfl args w) PA
 |17=>exact kG.uN hl hw 17 104 hi (λ_ _ _ _ _ _=>rfl) (λargs w=>cU Tryz.func104 (by kernel_rfl) rfl args w) Uh
 |18=>exact kG.uN hl hw 18 105 hi (λ_ _ _ _ _ _=>rfl) (λargs w=>cU Tryz.func105 (by kernel_rfl) rfl args w) Ui
 |19=>exact kG.uN hl hw 19 106 hi (λ_ _ _ _ _ _=>rfl) (λargs w=>cU Tryz.func106 (by kernel_rfl) rfl args w) PB
 |20=>exact kG.uN hl hw 20 107 hi (λ_ _ _ _ _ _=>rfl) (λargs w=>cU Tryz.func107 (by kernel_rfl) rfl args w) L3
 |21=>exact kG.uN hl hw 21 108 hi (λ_ _ _ _ _ _=>rfl) (λargs w=>cU Tryz.func108 (by kernel_rfl) rfl args w) L4
 |22=>exact kG.uN hl hw 22 109 hi (λ_ _ _ _ _ _=>rfl) (λargs w=>cU Tryz.func109 (by kernel_rfl) rfl args w) PC
 |n+23=>exact absurd hi (by simp [uM])
open Classical in
noncomputable def lV(M:Sm)(L:Lv)(ws:List ByteArray):Out:=match ws with
 | []=>(ByteArray.mk #[],M,L)
 |c::r=>(if h:∃i:Nat,uM[i]? =some c then acJ (Classical.choose h) M L r else none).getD (k8,M,L)
def JL(k:Nat)(M:Sm)(L:Lv)(hl:line.size<=4294967296):kG k line M L (lV M L (cc line)):=by
 cases hw:cc line with
 |nil=>
  have:=kG.H8 (k:=k) (M:=M) (L:=L) hl λc r q=>by rw [hw] at q;cases q
  rw [hw,if_pos rfl] at this;exact this
 |cons c r=>
  unfold lV;simp only;split
  ·rename_i h;exact acO hl hw (Classical.choose_spec h)
  ·rename_i h;have:=kG.H8 (k:=k) (M:=M) (L:=L) hl λc' r' q=>by
    rw [hw] at q
    cases q
    exact λq=>h (JM.1 q)
   rw [hw,if_neg bo] at this;exact this
def JN{i:Nat}(hi:uM[i]? =some c):lV M L (c::r)=(acJ i M L r).getD (k8,M,L):=by have h:∃i:Nat,uM[i]? =some c:=⟨i,hi⟩;unfold lV;simp only;rw [dif_pos h];have e:Classical.choose h=i:=(List.getElem?_inj (cP.1 (Classical.choose_spec h)).1 se).1 ((Classical.choose_spec h).trans hi.symm);rw [e]
end
open Classical in
noncomputable def nS(Ls:List ByteArray):Nat->Sm × Lv
 |0=>(yG 1 9 200000 16,xt)
 |p+1=>if ou Ls p then (lV (nS Ls p).1 (nS Ls p).2 (cc (Ls.getD p (ByteArray.mk #[])))).2 else nS Ls p
noncomputable def jc(Ls:List ByteArray)(p:Nat):ByteArray:=(lV (nS Ls p).1 (nS Ls p).2 (cc (Ls.getD p (ByteArray.mk #[])))).1
def EX{Ls:List ByteArray}{p:Nat}(h:ou Ls p):nS Ls (p+1)=(lV (nS Ls p).1 (nS Ls p).2 (cc (Ls.getD p (ByteArray.mk #[])))).2:=by rw [nS,if_pos h]
def adI{Ls:List ByteArray}{p:Nat}(h:¬ou Ls p):nS Ls (p+1)=nS Ls p:=by rw [nS,if_neg h]
def Ka{L:List ByteArray}{T:Nat->ByteArray}{p:Nat}(hp:100<=p\/L.length<=p):∀q,gF L T (p+q)=gF L T p
 |0=>rfl
 |q+1=>by
  have lD:¬ou L (p+q):=λh=>by
   obtain ⟨h1,l,hl,-⟩:=h
   have:=(cP.1 hl).1
   omega
  rw [<-Nat.add_assoc,Mz lD,Ka hp q]
def adJ{L:List ByteArray}{T:Nat->ByteArray}{p:Nat}(hp:100<=p\/L.length<=p)(hl:p<=L.length):gF L T p=gF L T L.length:=by have:=Ka (T:=T) hp (L.length-p);rw [show p+(L.length-p)=L.length by omega] at this;exact this.symm
def adK{sh g:Nat}{u u':World}(h:Iv u sh g)(hk:u'.heap[sh]? =u.heap[sh]?):Iv u' sh g:=⟨h.row.same hk⟩
def Xq{w:World}{m:Int}(hm:w.cell? ⟨0,0,none⟩=some (.int .i64 m))(hT:lf w)(script:ByteArray)(nE:script.size<=100000):
  eU 29 #[.string script] w (Value.string ⟨(gF (bA script) (jc (bA script)) (bA script).length).toArray⟩):=by
 obtain ⟨fE,xh⟩:=MH script;have ajR:=Gx script;generalize hL:bA script=L at*;refine adL hm script aa L fE xh (λl hl=>by have:=uZ (hL▸hl);omega) aa (jc L)
  (λsh p F u=>(∃g s o t occ F0,EF F0 u g s o t (nS L p).1 occ (nS L p).2/\Iv u sh g/\¬F0 sh/\F=(λi=>F0 i\/i=sh))/\Inv (min p 100) (nS L p).1 (nS L p).2) ?_ ?_ ?_ ?_ ?_
 ·rintro sh p F u ⟨⟨g,s,o,t,occ,F0,h,hS,hn,rfl⟩,-⟩ i hi;rcases hi with hi|rfl
  ·exact h.lt hi
  ·exact hS.row.lt
 ·rintro sh p F u u' ⟨⟨g,s,o,t,occ,F0,h,hS,hn,rfl⟩,hI⟩ hk;exact ⟨⟨g,s,o,t,occ,F0,h.same λi hi=>hk i (.inl hi),adK hS (hk _ (.inr rfl)),hn,rfl⟩,hI⟩
 ·intro u sh g s o t F h hS hn;exact ⟨_,⟨⟨g,s,o,t,Ug,F,h,hS,hn,rfl⟩,Inv.new _ _ _ _⟩,λi hi=>hi⟩
 ·rintro sh p F u ⟨hE,hI⟩ lD;show _/\_;rw [adI lD];exact ⟨hE,hI.mono aa⟩
 ·rintro sh p F u line xu hF ⟨⟨g,s,o,t,occ,F0,h,hS,hn,rfl⟩,hI⟩ hl hp fA;have ht:ou L p:=⟨hp,line,hl,fA⟩;have hg:L.getD p (ByteArray.mk #[])=line:=by rw [dn,hl];rfl
  have hls:=uZ (s:=script) (hL▸aQ hl);have e1:min p 100=p:=by omega
  have e2:min (p+1) 100=p+1:=by omega
  rw [e1] at hI;refine (JL p (nS L p).1 (nS L p).2 (line:=line) aa w u F0 sh g s o t occ aa hT xu (λi hi=>hF i (.inl hi)) (hF _ (.inr rfl)) h hS hn hI).mono ?_;rintro _ u' ⟨rfl,hz,g',s',o',t',occ',F',h',hS',hn',hm',dP,hI'⟩;have et:jc L p=(lV (nS L p).1 (nS L p).2 (cc line)).1:=by unfold jc;rw [hg]
  refine ⟨by rw [et],by rw [et];exact hz,λi=>F' i\/i=sh,⟨⟨g',s',o',t',occ',F',?_,hS',hn',rfl⟩,?_⟩,hm',λi hi=> ?_⟩
  ·rw [EX ht,hg];exact h'
  ·rw [EX ht,hg,e2];exact hI'
  ·rcases hi with hi|hi
   ·exact (dP i hi).imp .inl id
   ·exact .inl (.inr hi)
def MI:bA Xr=[ke,lj]:=by kernel_rfl
def Zz{w:World}{m:Int}(hm:w.cell? ⟨0,0,none⟩=some (.int .i64 m))(hT:lf w):eU 30 #[] w true:=by
 apply QG.vc;refine (Xq hm hT Xr aw).bj λw' x=> ?_
 have h0:ou [ke,lj] 0:=⟨aw,ke,rfl,by rw [U5];exact List.cons_ne_nil _ _⟩;have k1:lV (yG 1 9 200000 16) xt (cc ke)=(ByteArray.mk #[111,107],M1r,xt):=by
  rw [U5,JN (i:=1) rfl];have e:Lr 0 (yG 1 9 200000 16) xt [DZ,DZ]=some (iT (Bh 1 (yG 1 9 200000 16).cap (yG 1 9 200000 16).T.1 (yG 1 9 200000 16).T.2 (0,0)).2,M1r,xt):=by unfold Lr;rw [avL];rfl
  rw [show acJ 1 (yG 1 9 200000 16) xt [DZ,DZ]=Lr 0 (yG 1 9 200000 16) xt [DZ,DZ] from rfl,e,avM];rfl
 have k2:(lV M1r xt (cc lj)).1=tw 1:=by
  rw [adN,JN (i:=17) rfl];have e:Lu M1r xt [DZ,DZ,DZ]=some (tw (jm M1r.T.2 (0,0,0)),M1r,xt):=by unfold Lu;rw [avN];rfl
  rw [show acJ 17 M1r xt [DZ,DZ,DZ]=Lu M1r xt [DZ,DZ,DZ] from rfl,e,avO];rfl
 have s1:nS [ke,lj] 1=(M1r,xt):=by rw [EX h0];show (lV (yG 1 9 200000 16) xt (cc ke)).2=_;rw [k1]
 have t0:jc [ke,lj] 0=T0 0:=by show (lV (yG 1 9 200000 16) xt (cc ke)).1=_;rw [k1];rfl
 have t1:jc [ke,lj] 1=T0 1:=by unfold jc;rw [s1];show (lV M1r xt (cc lj)).1=_;rw [k2];rfl
 have eo:gF [ke,lj] (jc [ke,lj]) 2=gF [ke,lj] T0 2:=by simp only [gF,t0,t1]
 rw [MI];have e2:(⟨(gF [ke,lj] (jc [ke,lj]) [ke,lj].length).toArray⟩:ByteArray)=aqz:=by apply uC;rw [show [ke,lj].length=2 from rfl,eo,ZA]
 rw [e2];exact ⟨_,rfl,by kernel_rfl,x⟩
variable {R:eWp} {w:World} {a0:Int}
def Dz.vc{a0:ByteArray}(h:(λA=>
 ae 20 #[.string a0,(500:Int)] w (oB λt1 w0=>(λAa=>ae 26 #[] w0 (tR λp3 w2=>Br (p3).isNone
 (R false w2)
 (ae 27 Aa w2 (rZ λs5 w4=>∃I6:Nat->Int->ByteArray->wPp,
 (∃n7,I6 n7 (0) ((ByteArray.mk #[])) w4)/\
 ∀(n7:Nat)(us8:Nat->Value)(x9:Int)(t10:ByteArray)(bB:World),I6 n7 x9 t10 bB->
 Br (decide (x9<((s5.n:Nat):Int)))
 (Br (x9<100)
 (gJ s5.a x9 s5.n/\Lxt bB (ab s5.a ((x9:Int).toNat*1)) λt13=>
 ae 28 #[.string t13] bB (rZ λoI cu=>Br (decide ((((oI.n:Nat):Int):Int)>0))
 (gJ s5.a x9 s5.n/\Lxt cu (ab s5.a ((x9:Int).toNat*1)) λt16=>
 ae 14 #[p3,.string t16] cu (oB λt18 cM=>(((t10).size+(t18).size:Nat):Int)<=IntKind.i64.max/\((((t10++t18)).size+(A).size:Nat):Int)<=IntKind.i64.max/\∃n12,n12<n7/\I6 n12 ((aC (x9+1))) (((t10++t18)++A)) cM))
 (∃n12,n12<n7/\I6 n12 ((aC (x9+1))) (t10) cu)))
 (ae 29 Aa bB (oB λt20 eQ=>Br (ej t20 t10)
 (ae 29 Aa eQ (oB λt22 cX=>Br (ej t22 t10)
 (ae 30 #[] cX (CP λb24 je=>R b24 je))
 (R false cX)))
 (R false eQ))))
 (ae 29 Aa bB (oB λt26 dL=>Br (ej t26 t10)
 (ae 29 Aa dL (oB λt28 gN=>Br (ej t28 t10)
 (ae 30 #[] gN (CP λb30 gz=>R b30 gz))
 (R false gN)))
 (R false dL))))))) #[.string t1])) (ByteArray.mk #[10])):ae 5 #[.string a0] w R:=
 cq ⟨[(8,⟨[(6,.int .i64),(5,.str)],[],[]⟩)],[],[]⟩ func5 h
def Pf.vc{a0:ByteArray}(h:(λA B=>
 ∃I0:Nat->Int->Sl->ByteArray->wPp,
 (∃n1,I0 n1 (0) ⟨none,0,0⟩ B w)/\
 ∀(n1:Nat)(wZ:Nat->Value)(x3:Int)(s4:Sl)(t5:ByteArray)(w6:World),I0 n1 x3 s4 t5 w6->
 Br (decide (x3<A))
 ((0:Int)<=x3/\x3<A/\Br (((((a0).data.toList.getD (x3:Int).toNat 0).toNat:Nat):Int)==10)
 (Aw w6 #[.string t5] 9 λw8=>
 aY 16 1 w8 s4 1 [.string t5]/\∀(s9:Sl)(bc:World),aT 9 1 w8 s4 1 [.string t5] s9 bc->Kp w6 w8 bc/\
 ∃n7,n7<n1/\I0 n7 ((aC (x3+1))) s9 B bc)
 ((0:Int)<=(aC (x3+1))/\(aC (x3+1))<=A/\(0:Int)<=x3/\x3<=(aC (x3+1))/\(((t5).size+(((a0).extract ((x3:Int).toNat) (((aC (x3+1)):Int).toNat))).size:Nat):Int)<=IntKind.i64.max/\∃n7,n7<n1/\I0 n7 ((aC (x3+1))) s4 ((t5++((a0).extract ((x3:Int).toNat) (((aC (x3+1)):Int).toNat)))) w6))
 (Aw w6 #[.string t5] 9 λbB=>
 aY 16 1 bB s4 1 [.string t5]/\∀(nC:Sl)(bw:World),aT 9 1 bB s4 1 [.string t5] nC bw->Kp w6 bB bw/\
 R nC bw)) (((a0).size:Nat):Int) ((ByteArray.mk #[]))):ae 27 #[.string a0] w R:=
 cq ⟨[(4,⟨[(5,.int .i64),(3,.slice),(4,.str)],[],[]⟩)],[],[]⟩ func27 h
abbrev mkB(l:List UInt8):ByteArray:=⟨l.toArray⟩
def adf{l:List UInt8}{p:Nat}(hp:p<l.length):ET (l.take (p+1))=Y0 (ET (l.take p)) (l.getD p 0):=by rw [Gi hp];unfold ET;rw [nk];rfl
def Xi:∀(l:List UInt8)(p:List (List UInt8) × List UInt8),(l.foldl Y0 p).1.length<=p.1.length+l.length/\(l.foldl Y0 p).2.length<=p.2.length+l.length
 | [],p=>⟨ak _,ak _⟩
 |c::r,p=>by
  have:=Xi r (Y0 p c)
  rw [pq,cD]
  have h1:(Y0 p c).1.length<=p.1.length+1/\(Y0 p c).2.length<=p.2.length+1:=by unfold Y0;split<;>simp
  omega
def Qb(s:ByteArray)(w:World)(hs:s.size<=4294967296):ae 27 #[.string s] w λe w'=>∃sl:Sl,e=Value.slice sl.a sl.n sl.c/\ar w 9 1 w' sl ((bA s).map sv)/\Ext w w':=by
 apply Pf.vc;have kE:(bl s).length=s.size:=eM s;have len:∀p,p<=s.size->(ET ((bl s).take p)).1.length<=p/\(ET ((bl s).take p)).2.length<=p:=λp hp=>by have:=Xi ((bl s).take p) ([],[]);rw [cK,kE] at this;unfold ET;simp at this;omega
 refine ⟨λn x sl t v=>∃p:Nat,x=(p:Int)/\p+n=s.size/\t=mkB (ET ((bl s).take p)).2/\ar w 9 1 v sl (((ET ((bl s).take p)).1.map mkB).map sv)/\Ext w v,⟨s.size,0,rfl,aa,rfl,ar.nil,Ext.bU _⟩,?_⟩;rintro n1 wZ x3 s4 t5 w6 ⟨p,rfl,hp,rfl,ho,x6⟩;obtain ⟨l1,l2⟩:=len p aa;have hn:s4.n=(ET ((bl s).take p)).1.length:=by rw [(ar.rd ho aw).n,aJ,aJ]
 have push:∀t:ByteArray,∀v:World,v=w6.alloc (.cells #[.string t] 9)->
   aY 16 1 v ⟨s4.a,s4.n,s4.c⟩ 1 [.string t]/\∀(s9:Sl)(bc:World),aT 9 1 v ⟨s4.a,s4.n,s4.c⟩ 1 [.string t] s9 bc->
    bc.heap[w6.heap.size]? =v.heap[w6.heap.size]?/\ar w 9 1 bc s9 (((ET ((bl s).take p)).1.map mkB++ [t]).map sv)/\Ext w bc:=by
  rintro t v rfl;obtain ⟨a1,a2⟩:=ho.kU (bytes:=16) (news:=sv t) (.cells #[.string t] 9) x6.size rfl (Ua t) aa aa;refine ⟨a1,λs9 bc hr=> ?_⟩;obtain ⟨b1,b2,b3,b4,-⟩:=a2 s9 bc hr;exact ⟨b1,by rw [bS];exact b2,Below.trans x6 b4⟩
 apply Br.mk<;>intro h
 ·have h:=of_decide_eq_true h;have fD:p<(bl s).length:=by omega
  have hnext:=adf fD;refine ⟨aa,h,?_⟩;simp only [gZ];have ec:s.data.toList.getD p 0=(bl s).getD p 0:=rfl;rw [ec,aK (n:=(p:Int)+1) inO];apply Br.mk<;>intro c
  ·have c:(bl s).getD p 0=10:=by have c:=fC c;exact UInt8.toNat.inj (by show _=10;omega)
   have e:ET ((bl s).take (p+1))=((ET ((bl s).take p)).1++ [(ET ((bl s).take p)).2],[]):=by rw [hnext];unfold Y0;rw [if_pos c]
   intro w8 e8;obtain ⟨a1,a2⟩:=push _ w8 e8;refine ⟨a1,λs9 bc hr=> ?_⟩;obtain ⟨b1,b2,b3⟩:=a2 s9 bc hr;exact ⟨b1,n1-1,aa,p+1,aa,aa,by rw [e],by rw [e,bS];exact b2,b3⟩
  ·have c:(bl s).getD p 0≠10:=λq=>by rw [q] at c;cases c
   have e:ET ((bl s).take (p+1))=((ET ((bl s).take p)).1,(ET ((bl s).take p)).2++ [(bl s).getD p 0]):=by rw [hnext];unfold Y0;rw [if_neg c]
   have et:(bl s).drop p=(bl s).getD p 0::(bl s).drop (p+1):=by rw [wN fD,dn,cO fD];rfl
   have ex:mkB (ET ((bl s).take p)).2++s.extract p ((p:Int)+1).toNat=mkB ((ET ((bl s).take p)).2++ [(bl s).getD p 0]):=by apply uC;rw [Bw,qC,Xj,Xj,show ((p:Int)+1).toNat-p=1 by omega,et];rfl
   refine ⟨aa,aa,aa,aa,?_,n1-1,aa,p+1,aa,aa,by rw [ex,e],by rw [e];exact ho,x6⟩;have e3:IntKind.i64.max=9223372036854775807:=by decide
   have s1:(mkB (ET ((bl s).take p)).2).size=(ET ((bl s).take p)).2.length:=by simp [mkB,ByteArray.size]
   have s2:(s.extract p ((p:Int)+1).toNat).size<=s.size:=by rw [<-eM,qC,cK,qe,eM];omega
   rw [e3,s1];omega
 ·have h:=of_decide_eq_false h;have hpe:p=s.size:=by omega
  subst hpe;rw [dI aa] at ho ⊢;have el:bA s=(ET (bl s)).1.map mkB++ [mkB (ET (bl s)).2]:=by have:=adg (bl s) ([],[]);unfold bA;rw [show Gj [] (bl s)=(ET (bl s)).1++ [(ET (bl s)).2] from this.symm,bS];rfl
  intro bB yr;rw [dI aa] at push;obtain ⟨a1,a2⟩:=push _ bB yr;refine ⟨a1,λnC bw hr=> ?_⟩;obtain ⟨b1,b2,b3⟩:=a2 nC bw hr;exact ⟨b1,nC,rfl,by rw [el];exact b2,b3⟩
end Go.Proofs.YtjcnjlaelhdjeaaGreatDoor
