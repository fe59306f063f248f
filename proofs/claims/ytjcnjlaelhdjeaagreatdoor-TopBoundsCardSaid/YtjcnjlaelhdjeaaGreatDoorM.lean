import Derived.Test.YtjcnjlaelhdjeaaGreatDoorL
import Derived.Test.YtjcnjlaelhdjeaaGreatDoorE
import Derived.Test.YtjcnjlaelhdjeaaGreatDoorG
import Derived.Test.YtjcnjlaelhdjeaaGreatDoorD
import Derived.Test.YtjcnjlaelhdjeaaGreatDoorJ
set_option linter.all false
namespace Go.Proofs.YtjcnjlaelhdjeaaGreatDoor
open Go Go.Vc Go.RowKit Go.Proofs Go.bW Go.aN Go.Code Go.dS Go.ej Go.fY
set_option maxRecDepth 100000
set_option maxHeartbeats 8000000
def okR(L:lCs):Prop:=∀(i:Nat)(y:cQ),cE L i=some y->y.1.may=true/\∀n ∈ tk y.1,An n
section
variable {w0 w w':World} {gb gq gf gs gn gr:Nat} {now:Int} {av:List (Option Nat)} {P:lCs} {sl:Sl} {l l':List Int} {R:eWp}
def ail{v x:Value}(h:av.length=16):(v::(av.map pA++ [x])).length=18:=by rw [cL,cj,aK,h];rfl
def ad0{v x:Value}(h:av.length=16):(v::(av.map pA++ [x]))[17]? =some x:=by rw [Kh,pO (by rw [aK];omega),aK,h];rfl
def RS.amu(h:RS w0 w gb gq gf gs gn gr now av P sl l)(s':Sl):Wr w (some ⟨gr,17,none⟩) 1/\∀u,u=bB w (some ⟨gr,17,none⟩) [.slice s'.a s'.n s'.c]->RS w0 u gb gq gf gs gn gr now av P s' l/\Mod (λi=>i=gr) w u:=by
 have hl:=ail (v:=vI now) (x:=.slice sl.a sl.n sl.c) h.e.n;obtain ⟨p1,p2⟩:=h.g.ft (j:=17) (v:=.slice s'.a s'.n s'.c) (by rw [hl];decide) rfl;rw [aF] at p1 p2;refine ⟨p1,λu eu=> ?_⟩;obtain ⟨q1,q2⟩:=p2 u eu;have e2:putCells (vI now::(av.map pA++ [Value.slice sl.a sl.n sl.c])) 17 [.slice s'.a s'.n s'.c]=vI now::(av.map pA++ [.slice s'.a s'.n s'.c]):=by show List.set _ _ _=_;rw [List.set_cons_succ,List.set_append_right _ _ (by rw [List.length_map,h.e.n];decide),List.length_map,h.e.n];rfl
 rw [e2] at q1;obtain ⟨⟨s,h1⟩,⟨⟨τ,c1⟩,⟨τ',c2⟩,c3⟩,h3,⟨cs',hc,h4⟩,h5,h6,h7,h8⟩:=h;exact ⟨⟨⟨s,q2.ext h1.x λi hi=>by omega,h1.lt,q2.row h1.row (by omega),h1.rd,h1.nc,h1.by_⟩,⟨⟨τ,q2.row c1 (by omega)⟩,⟨τ',q2.row c2 (by omega)⟩,c3⟩,q2.row h3 (by omega),⟨cs',hc,q2.row h4 (by omega)⟩,q1,h6.same λa ha=>q2.same a (h6.lt ha) (by have:=h8 a ha;omega),h7,h8⟩,q2⟩
end
def okW(l:List dS.It):Prop:=∀x ∈ l,An x.1/\(-2147483648<=x.2.1/\x.2.1<=2147483648)/\(-2147483648<=x.2.2.1/\x.2.2.1<=2147483648)/\-2147483648<=x.2.2.2/\x.2.2.2<=2147483648
def ac3{α:Type}{l:List α}(h:l.length=16):∃a0 a1 a2 a3 a4 a5 a6 a7 a8 a9 S9 a11 a12 a13 a14 a15,l=[a0,a1,a2,a3,a4,a5,a6,a7,a8,a9,S9,a11,a12,a13,a14,a15]:=by
 match l,h with
 | [a0,a1,a2,a3,a4,a5,a6,a7,a8,a9,S9,a11,a12,a13,a14,a15],_=>exact ⟨_,_,_,_,_,_,_,_,_,_,_,_,_,_,_,_,rfl⟩
abbrev lf9(f s:Ce)(a b:Int):LV:=Gf (⟨f,s,a,b,false⟩,(0,0,false))
def YR{w:World}{s:Sl}{M:Sm}{L:lCs}(hs:RdK w s 1 (byR (dy M L)))(hc:s.n<=s.c)(hL:okR L)(hW:okW M.q.l)(hM:0<=M.now/\M.now<=1099511627776):
  ab 248 #[s] w λe w'=>∃(av:List (Option Nat))(sl:Sl),e=Value.tuple #[.agg (vI M.now::(av.map pA++ [Value.slice sl.a sl.n sl.c])).toArray,true]/\Ext w w'/\EL w' av (wF L (bh L))/\(∀a,some a ∈ av->w.heap.size<=a)/\ar w Q.cc 4 w' sl ((M.q.l.take 2000).map fM):=by
 apply Qy.vc;intro w0 e0 w1 e1 w2 e2 w3 e3 w4 e4 w5 e5 w6 e6 w7 e7;have z0:=zA e0;have z1:=zA e1;have z2:=zA e2;have z3:w3.heap.size=w2.heap.size:=by rw [e3,setRow_size]
 have z4:=zA e4;have z5:w5.heap.size=w4.heap.size:=by rw [e5,setRow_size]
 have z6:=zA e6;have z7:w7.heap.size=w6.heap.size:=by rw [e7,setRow_size]
 have hr:Xu w w7 w s (dy M L)/\Cx w7 w.heap.size w1 w3.heap.size w5/\Row w7 w1 [.bool true] 4/\∃cs,cs.length=18/\Row w7 w0 cs Uc:=by
  have x1:=aU e1;have x2:=aU e2;have x3:Ext w1 w3:=x2.af e3 (ak _);have x5:Ext w3 w5:=(aU e4).af e5 (ak _);have x7:Ext w5 w7:=(aU e6).af e7 (ak _);have mO:=x5.tr x7;have dO:=x3.tr mO;have x07:=x1.tr dO;have r0:Row w0 w [s] tBy:=Row.nw e0;have r1:Row w1 w0 [ai,pno,pno,pno,pno,pno,pno,pno,pno,pno,pno,pno,pno,pno,pno,pno,pno,.slice none 0 0] Uc:=Row.nw e1;have r3:Row w3 w1 [.bool true] 4:=by rw [e3];exact Row.set (by rw [e2];exact Row.new w1 [_] _) _
  have r5:Row w5 w3 [smF w.heap.size w1] 32:=by rw [e5];exact Row.set (by rw [e4];exact Row.new w3 [_] _) _
  have r7:Row w7 w5 [nmF w3] 69:=by rw [e7];exact Row.set (by rw [e6];exact Row.new w5 [_] _) _
  exact ⟨⟨(aU e0).tr x07,ak _,r0.ext x07,hs,hc,W3 M L⟩,⟨⟨_,r5.ext x7⟩,⟨_,r7⟩,aa,aa⟩,r3.ext mO,_,rfl,r1.ext dO⟩
 obtain ⟨hr,hcx,hf,cs,tc,hq⟩:=hr;have eB:dy M L=j3 M.now++(((bh L).length:Int) % 256::(dT L (bh L)++ij M.q.l)):=by unfold dy fZ;simp only [fT,List.cons_append,Pz]
 rw [eB] at hr;obtain ⟨τ,hn⟩:=hcx.n;refine ⟨_,hn.at 0 rfl,?_⟩;refine (λR' k=>bJ (R':=R') (uT hcx (n:=M.now) aa hr) k) _ ?_;rintro e w9 ⟨rfl,m9,s9,h9⟩;have z9:=m9.size;refine ⟨_,rfl,m9.same _ aa aa,λbE A8 bN ui=> ?_⟩;have z11:=zA A8;have z12:bN.heap.size=bE.heap.size:=by rw [ui,setRow_size]
 have cr:Ext w9 bN:=(aU A8).af ui (ak _);have g12:Row bN w9 (vI M.now::((List.replicate 16 none).map pA++ [.slice none 0 0])) Uc:=by rw [ui];exact Row.set (by rw [A8];exact Row.new w9 [_,_,_,_,_,_,_,_,_,_,_,_,_,_,_,_,_,_] _) _
 have H12:RS w bN w w0.heap.size w1.heap.size w3.heap.size w5 w9.heap.size M.now (List.replicate 16 none) (wF L []) ⟨none,0,0⟩ (((bh L).length:Int) % 256::(dT L (bh L)++ij M.q.l)):=by
  refine ⟨⟨s9,h9.ext cr⟩,(hcx.mod m9).ext cr,(m9.row hf aa).ext cr,⟨cs,tc,(m9.row hq aa).ext cr⟩,g12,⟨bo,M7 _ _,λi a q=> ?_,λi q=> ?_,λi j a q=> ?_⟩,aa,λa ha=> ?_⟩
  ·rw [Ao] at q;split at q<;>cases q
  ·have:i<16:=by
    rw [Ao] at q;split at q
    ·assumption
    ·cases q
   rw [QG this];rfl
  ·rw [Ao] at q;split at q<;>cases q
  ·cases List.eq_of_mem_replicate ha
 refine ⟨λu=>RS w u w w0.heap.size w1.heap.size w3.heap.size w5 w9.heap.size M.now (List.replicate 16 none) (wF L []) ⟨none,0,0⟩ (((bh L).length:Int) % 256::(dT L (bh L)++ij M.q.l)),?_,?_⟩
 ·refine ⟨true,H12.f.at 0 rfl,M.now,H12.g.at 0 rfl,Br.mk (λ_=>⟨M.now,H12.g.at 0 rfl,?_⟩) (λq=> ?_)⟩
  ·dsimp only;rw [show decide (M.now<=1099511627776)=true from decide_eq_true hM.2];obtain ⟨p1,p2⟩:=H12.amv;exact ⟨p1,λu eu=>(p2 u eu).1⟩
  ·have q:=eK q;omega
 generalize hgb:w.heap.size=gb at*;generalize hgq:w0.heap.size=gq at*;generalize hgf:w1.heap.size=gf at*;generalize hgs:w3.heap.size=gs at*;generalize hgn:w5.heap.size=gn at*;generalize hgr:w9.heap.size=gr at*;intro us di H21;refine ⟨λu=>∃av,RS w u gb gq gf gs gn gr M.now av (wF L (bh L)) ⟨none,0,0⟩ (ij M.q.l),H21.sm1 λie H24 m24=>⟨_,rfl,λn x b u=>∃(d r:List Int)(av:List (Option Nat)),bh L=d++r/\x=r.length/\n=r.length/\(∀i ∈ r,b<i)/\RS w u gb gq gf gs gn gr M.now av (wF L d) ⟨none,0,0⟩ (dT L r++ij M.q.l),⟨_,[],bh L,_,rfl,?_,rfl,λi hi=> ?_,H24⟩,?_⟩,?_⟩
 ·have:=uy L;omega
 ·obtain ⟨j,rfl,-⟩:=ux hi;omega
 ·rintro n us x b ia ⟨d,r,av,hdr,rfl,rfl,hb,H31⟩
  cases r with
  |nil=>
   refine Br.mk (λhq=> ?_) (λ_=> ?_)
   ·simp at hq
   ·rw [oV] at hdr;rw [hdr];exact ⟨av,H31⟩
  |cons i0 r=>
  refine Br.mk (λ_=>⟨true,H31.f.at 0 rfl,?_⟩) (λhq=>by rw [cL] at hq;simp at hq);obtain ⟨i,rfl,hi,y,hy⟩:=ux (L:=L) (x:=i0) (hdr▸Dc _ (List.mem_cons_self ..));have hps:=ZJ L;rw [hdr] at hps;obtain ⟨-,WG,hp3⟩:=List.pairwise_append.1 hps;have hid:(i:Int) ∉ d:=λq=>by have:=hp3 _ q _ (List.mem_cons_self ..);omega
  have hmr:∀j ∈ r,(i:Int)<j:=(List.pairwise_cons.1 WG).1;obtain ⟨aj2,h47⟩:=hL i y hy;have eR:dT L ((i:Int)::r)++ij M.q.l=(i:Int)::(j3 y.1.aw.1++(j3 y.1.aw.2.1++(j3 y.1.aw.2.2++(j3 y.1.speed.1++(j3 y.1.speed.2.1++(j3 y.1.speed.2.2++(j3 y.1.wd++(j3 y.1.ht++(stB y.1.fG::(dT L r++ij M.q.l)))))))))):=by unfold dT;rw [eH,kX];unfold FG;rw [hy];unfold BD qt;simp only [eH,List.map_nil,kX,List.flatten_nil,fT,List.cons_append,Pz,oV]
  rw [eR] at H31;have q1:=h47 _ (List.mem_cons_self ..);have q2:=h47 y.1.aw.2.1 bo;have q3:=h47 y.1.aw.2.2 bo;have q4:=h47 y.1.speed.1 bo;have q5:=h47 y.1.speed.2.1 bo;have q6:=h47 y.1.speed.2.2 bo;have q7:=h47 y.1.wd bo;have q8:=h47 y.1.ht bo;have haz:=H31.free hi hid;refine H31.sm1 λiD H35 m35=>⟨_,rfl,λjD e37=> ?_⟩
  have z37:=zA e37;have r37:Row jD iD [ai,ai,ai,ai,ai,ai,ai,ai,false,ai,ai,false] j7:=Row.nw e37;have hk:gr<iD:=H35.g.lt;have hka:some iD.heap.size ∉ av:=λq=>by have:=H35.e.lt q;omega
  have KW:iD.heap.size≠gb:=by have:=H35.o;omega
  have H37:=H35.ext (aU e37);generalize iD=k at*;refine RS.gE (v:=y.1.aw) ⟨q1,q2,q3⟩ H37 λtH H38 m38=>⟨_,_,_,rfl,m38.same _ r37.lt KW,λnS e42=> ?_⟩
  have H42:=H38.own hk hka e42;have r42:Row nS k (lf9 y.1.aw (0,0,0) 0 0) j7:=by rw [e42];exact Row.set (m38.row r37 KW) _
  refine RS.gE (v:=y.1.speed) ⟨q4,q5,q6⟩ H42 λiO H43 m43=>⟨_,_,_,rfl,m43.same _ r42.lt KW,λoE e47=> ?_⟩
  have H47:=H43.own hk hka e47;have r47:Row oE k (lf9 y.1.aw y.1.speed 0 0) j7:=by rw [e47];exact Row.set (m43.row r42 KW) _
  refine RS.num q7 H47 λnB H49 m49=>⟨_,rfl,m49.same _ r47.lt KW,λw51 e51=> ?_⟩
  have H51:=H49.own hk hka e51;have r51:Row w51 k (lf9 y.1.aw y.1.speed y.1.wd 0) j7:=by rw [e51];exact Row.set (m49.row r47 KW) _
  refine RS.num q8 H51 λw53 H53 m53=>⟨_,rfl,m53.same _ r51.lt KW,λyS e55=> ?_⟩
  have H55:=H53.own hk hka e55;have r55:Row yS k (lf9 y.1.aw y.1.speed y.1.wd y.1.ht) j7:=by rw [e55];exact Row.set (m53.row r51 KW) _
  refine RS.sm1 H55 λnv H57 m57=>⟨_,rfl,m57.same _ r55.lt KW,λpH TX=> ?_⟩
  have H59:=H57.own hk hka TX;have eS:(stB y.1.fG==1)=y.1.fG:=by cases y.1.fG<;>rfl
  have hS:stB y.1.fG<=1:=by cases y.1.fG<;>decide
  rw [eS] at TX;have r59:Row pH k (Gf (ZK y)) j7:=by rw [TX];exact Row.set (m57.row r55 KW) (Gf (ZK y))
  have hbi:=hb i (List.mem_cons_self ..);refine ⟨λu=>RS w u gb gq gf gs gn gr M.now av (wF L d) ⟨none,0,0⟩ (dT L r++ij M.q.l)/\Row u k (Gf (ZK y)) j7,⟨true,H59.f.at 0 rfl,Br.mk (λ_=>Br.mk (λ_=>Br.mk (λ_=>Br.mk (λ_=> ?_) (λhq=> ?_)) (λhq=> ?_)) (λhq=> ?_)) (λhq=>(by cases hq))⟩,?_⟩
  ·refine ⟨_,_,_,_,_,_,_,_,_,r59.bH (vs:=pc y.1) (λj hj=> ?_),(Gv y.1 pH).mono ?_⟩
   ·rcases (show j=0\/j=1\/j=2\/j=3\/j=4\/j=5\/j=6\/j=7\/j=8 by simp at hj;omega) with rfl|rfl|rfl|rfl|rfl|rfl|rfl|rfl|rfl<;>rfl
   rintro e w71 ⟨rfl,Bf⟩;have H71:=H59.ext Bf;obtain ⟨p1,p2⟩:=H71.amv;refine ⟨_,rfl,p1,λu eu=> ?_⟩;rw [aj2] at eu;have hkf:k≠gf:=by have:=H71.o;omega
   exact ⟨(p2 u eu).1,(p2 u eu).2.row (r59.ext Bf) hkf⟩
  ·simp at hq;omega
  ·simp at hq;omega
  ·simp at hq;omega
  rintro us K9 ⟨H79,r79⟩;refine ⟨true,H79.f.at 0 rfl,?_⟩;obtain ⟨p1,p2⟩:=H79.put hi r79 hk hka haz;refine ⟨aa,aa,⟨rfl,p1⟩,λu eu=>⟨r.length,by rw [cL];omega,d++ [(i:Int)],r,av.set i (some k),by rw [hdr,fT];rfl,?_,rfl,hmr,?_⟩⟩
  ·rw [cL,aL (by unfold cH;have:=uy L;rw [hdr,cj,cL] at this;omega)];omega
  ·rw [<-amw hi hy];exact p2 u eu
 rintro us w83 ⟨av,H83⟩;generalize hWW:M.q.l.take 2000=W;have hWl:W.length=min M.q.l.length 2000:=by rw [<-hWW,cS,Nat.min_comm]
 have hWk:okW W:=λx hx=>hW x (nZ (hWW▸hx))
 have eW:ij M.q.l=((W.length:Nat):Int) / 256 % 256::((W.length:Nat):Int) % 256::(W.map ir).flatten:=by unfold ij;rw [hWW,hWl];rfl
 rw [eW] at H83;have o83:=H83.o;have g83:=H83.g.lt;generalize hB:w83.heap.size=B at*;have haB:∀a,some a ∈ av->a<B:=λa ha=>hB▸H83.e.lt ha
 refine ⟨λu=>∃sl,RS w u gb gq gf gs gn gr M.now av (wF L (bh L)) sl []/\ar B Q.cc 4 u sl (W.map fM),H83.sm2 λw86 H86 m86=>⟨_,rfl,λn x u=>∃(k:Nat)(sl:Sl),k+n=W.length/\x=n/\B<=u.heap.size/\RS w u gb gq gf gs gn gr M.now av (wF L (bh L)) sl ((W.drop k).map ir).flatten/\ar B Q.cc 4 u sl ((W.take k).map fM),⟨W.length,0,⟨none,0,0⟩,aa,aa,hB▸m86.size,H86,ar.nil⟩,?_⟩,?_⟩
 ·rintro n us x w92 ⟨k,sl,Wb,rfl,aGu,H92,K92⟩;refine Br.mk (λhq=>⟨true,H92.f.at 0 rfl,?_⟩) (λhq=>by
   have hq:=eK hq;obtain rfl:k=W.length:=by omega
   rw [List.drop_length] at H92;rw [kB] at K92;exact ⟨sl,H92,K92⟩)
  have hq:=eK hq;obtain ⟨it,hit⟩:=bX (l:=W) (i:=k) aa;have hok:=hWk it (aQ hit);obtain ⟨t1,t2,t3,t4⟩:=hok;have eD:((W.drop k).map ir).flatten=j3 it.1++(j3 it.2.1++(j3 it.2.2.1++(j3 it.2.2.2++((W.drop (k+1)).map ir).flatten))):=by
   have:W.drop k=it::W.drop (k+1):=by obtain ⟨fK,he⟩:=cG.1 hit;rw [zV fK,he]
   rw [this,eH,kX];unfold ir qt;simp only [eH,List.map_nil,kX,List.flatten_nil,fT,oV]
  rw [eD] at H92;have OM:∀g,sl.aX=some g->B<=g/\g<w92.heap.size:=λg hg=>K92.own.lt hg
  have tE:sl.n=k:=by have:=(K92.rd (show 0<4 by decide)).n;rw [aK,cS] at this;omega
  refine RS.num t1 H92 λIz H96 m96=>⟨_,rfl,λw98 e98 Iu e99=> ?_⟩
  have z96:=m96.size;have z98:=zA e98;have z99:=zR e99;have Yr:Ext Iz Iu:=(aU e98).af e99 (ak _);have r99:Row Iu Iz (fM (it.1,0,0,0)) Q.cc:=by rw [e99];exact Row.set (by rw [e98];exact Row.new Iz [_,_,_,_] _) _
  have K99:=(K92.aV λg hg=>m96.same g (OM g hg).2 (by have:=OM g hg;omega)).ext Yr;have H99:=H96.ext Yr;refine RS.gE (v:=it.2) ⟨by unfold An;omega,by unfold An;omega,by unfold An;omega⟩ H99 λsZ ayW aj4=>⟨_,_,_,rfl,aj4.same _ aa aa,λabP as8 Bj as9 yI aj5=> ?_⟩
  have ayX:=aj4.size;have aGz:=zA as8;have aGA:=zR as9;have aGB:=zR aj5;have Ex:Ext sZ Bj:=(aU as8).af as9 (ak _);have ayY:=(aj4.row r99 aa).ext Ex;have ayZ:=(K99.aV λg hg=>aj4.same g (by have:=OM g hg;omega) (by have:=OM g hg;omega)).ext Ex;have hka:some Iz.heap.size ∉ av:=λq=>by have:=haB _ q;omega
  have ay0:=(ayW.ext Ex).own aa hka aj5;have ay1:=ayZ.aV (w':=yI) λg hg=>by rw [aj5];exact setRow_other _ _ _ _ (by have:=OM g hg;omega)
  have ay2:Row yI Iz (fM it) Q.cc:=by rw [aj5];exact Row.set ayY _
  have zd:=nV yI;have xd:=Ext.dr yI;have Hd:=ay0.ext xd;have Kd:=ay1.ext xd;have rd:=ay2.ext xd;refine ⟨λu=>RS w u gb gq gf gs gn gr M.now av (wF L (bh L)) sl ((W.drop (k+1)).map ir).flatten/\ar B Q.cc 4 u sl ((W.take k).map fM)/\yI.heap.size<=u.heap.size,⟨true,Hd.f.at 0 rfl,Br.mk (λ_=>(QH it.2 ⟨t2,t3,t4⟩ _).mono ?_) (λhq=>(by cases hq))⟩,?_⟩
  ·rintro e ud ⟨rfl,ru⟩;have ay3:=ru.size;have ab5:=Hd.ext ru;have ay4:=Kd.ext ru;have ay5:=rd.ext ru;refine ⟨_,_,_,rfl,ru.k,ay5.bH (λj hj=> ?_),Lo.wv ab5.f,Br.mk (λ_=>⟨sl,?_,?_⟩) (λhq=> ?_)⟩
   ·rcases (show j=0\/j=1\/j=2 by simp at hj;omega) with rfl|rfl|rfl<;>rfl
   ·have:=ab5.g.at 17 (ad0 ab5.e.n);rw [aF] at this;exact this
   ·obtain ⟨p1,p2⟩:=ab5.amv;refine ⟨p1,λq=> ?_,λu eu=>⟨rfl,?_⟩⟩
    ·have q:gf=Iz.heap.size:=Option.some.inj q;have:=ab5.o;omega
    ·rw [show decide (((sl.n:Nat):Int)<2000)=true from decide_eq_true aa] at eu;obtain ⟨p3,p4⟩:=p2 u eu;exact ⟨p3,ay4.aV λg hg=>p4.same g (by have:=OM g hg;omega) (by have:=OM g hg;have:=ab5.o;omega),by have:=p4.size;omega⟩
   ·simp at hq
  ·rintro us oF ⟨aj6,ay6,aGC⟩;have Ta:=aj6.g.at 17 (ad0 aj6.e.n);rw [aF] at Ta;refine ⟨sl,Ta,λEz ata=> ?_⟩;have aGD:=zA ata;subst ata;obtain ⟨hp,bq⟩:=ay6.l6 (bytes:=32) (news:=fM it) (.cells (fM it).toArray Q.cc) aa rfl (Q.rT it) aa aa;refine ⟨hp,λapa yK atb=> ?_⟩;obtain ⟨f1,f2,f3,f4,f5,f6⟩:=bq apa yK atb;have aGE:=f4.size;have z92:Iz.heap.size+1<=oF:=by omega
   have yG:∀j,j<oF.heap.size->(∀g,sl.aX=some g->g≠j)->yK.heap[j]? =oF.heap[j]? :=λj hj hn=>f5 j (λq=>hn j q rfl) hj
   have abT:∀j,j<oF.heap.size->(oF.alloc (.cells (fM it).toArray Q.cc)).heap[j]? =oF.heap[j]? :=λj hj=>(Ext.al oF _).heap hj
   have ay7:RS w yK gb gq gf gs gn gr M.now av (wF L (bh L)) sl ((W.drop (k+1)).map ir).flatten:=by
    have hn:∀j,j<B->yK.heap[j]? =oF.heap[j]? :=λj hj=>yG j aa λg hg=>by have:=OM g hg;omega
    have o:=aj6.o;obtain ⟨⟨s,h1⟩,⟨⟨τ,c1⟩,⟨τ',c2⟩,c3⟩,h3,⟨cs',hc,h4⟩,h5,h6,h7,h8⟩:=aj6;exact ⟨⟨s,h1.x.trans (f4.mono aa),h1.lt,h1.row.same (hn _ aa),h1.rd,h1.nc,h1.by_⟩,⟨⟨τ,c1.same (hn _ aa)⟩,⟨τ',c2.same (hn _ aa)⟩,c3⟩,h3.same (hn _ aa),⟨cs',hc,h4.same (hn _ aa)⟩,h5.same (hn _ aa),h6.same λa ha=>hn _ (haB a ha),h7,h8⟩
   obtain ⟨p1,p2⟩:=ay7.amu apa;refine ⟨(yG _ aa λg hg=>by have:=OM g hg;omega).trans (abT _ aa).symm,f1,p1,λq=> ?_,λq=> ?_,λu eu=> ?_⟩
   ·have q:gr=Iz.heap.size:=Option.some.inj q;omega
   ·have q:gr=oF.heap.size:=Option.some.inj q;omega
   ·obtain ⟨p3,p4⟩:=p2 u eu;have:=p4.size;refine ⟨n-1,aa,k+1,apa,aa,by rw [wI];omega,aa,p3,?_⟩;have eT:(W.take (k+1)).map fM=(W.take k).map fM++ [fM it]:=by rw [dq,hit,cl];rfl
    rw [eT];exact f2.aV (w':=u) λg hg=>p4.same g (f2.own.lt hg).2 (by have:=(f2.own.lt hg).1;omega)
 rintro us oG ⟨sl,ay8,ay9⟩;have Hd:=ay8.ext (Ext.dr oG);have Kd:=ay9.ext (Ext.dr oG);have hx:=Hd.x0;have ho:=Hd.o;obtain ⟨a0,a1,a2,a3,a4,a5,a6,a7,a8,a9,S9,a11,a12,a13,a14,a15,rfl⟩:=ac3 Hd.e.n;obtain ⟨s1,hr1⟩:=Hd.r;have Fb:s1.n=0:=hr1.n;obtain ⟨cs',hc',hq'⟩:=Hd.q;refine ⟨_,_,_,_,_,_,_,_,_,_,_,_,_,_,_,_,_,_,Lo.wv Hd.g,true,Hd.f.at 0 rfl,s1,hr1.row.at 0 rfl,hq'.wr (o:=0) (n:=18) aa,λTA aza=> ?_⟩;have Yw:=aza.trans (hq'.bB (o:=0) (by rw [hc'];exact ak 18) (by
  show ∀u ∈ _,_
  repeat' (refine List.forall_mem_cons.2 ⟨rfl,?_⟩)
  exact λ_ q=>(by cases q)))
 rw [dC (by rw [hc'];rfl)] at Yw;have aj7:∀j,j≠gq->TA.heap[j]? =oG.drew.heap[j]? :=λj hj=>by rw [Yw];exact setRow_other _ _ _ _ hj
 have azb:Row TA gq (vI M.now::([a0,a1,a2,a3,a4,a5,a6,a7,a8,a9,S9,a11,a12,a13,a14,a15].map pA++ [Value.slice sl.a sl.n sl.c])) Uc:=by rw [Yw];exact Row.set hq' _
 refine ⟨Lo.wv (hr1.row.same (aj7 _ aa)),Lo.wv (Hd.f.same (aj7 _ aa)),_,_,_,_,_,_,_,_,_,_,_,_,_,_,_,_,_,_,Lo.wv azb,[a0,a1,a2,a3,a4,a5,a6,a7,a8,a9,S9,a11,a12,a13,a14,a15],sl,by rw [Fb];rfl,hx.af Yw aa,Hd.e.same λa ha=>aj7 a (by have:=Hd.a a ha;omega),λa ha=>by have:=Hd.a a ha;omega,(Kd.aV (w':=TA) λg hg=>aj7 g (by have:=(Kd.own.lt hg).1;omega)).low aa⟩
section
variable {F:Nat->Prop} {w:World} {g s o t:Nat} {M M':Sm} {occ:Value} {L L0:lCs}
def II(h:EF F w g s o t M occ L0){a:Sl}(ha:RdK w a 1 (byR (dy M' L)))(hc:a.n<=a.c)(hL:okR L)(hW:okW M'.q.l)(hM:0<=M'.now/\M'.now<=1099511627776)(hq:yN ⟨4096,0,M'.q.l.take 2000⟩):
  ab 185 #[g,.slice a.a a.n a.c] w λe w'=>e=(0:Int)/\dK F w g s o t {M with q:=⟨4096,0,M'.q.l.take 2000⟩,now:=M'.now} occ (wF L (bh L)) w':=by
 apply (tL.vc (a1:=a));refine (YR ha hc hL hW hM).mono ?_;rintro e w0 ⟨av,sq,rfl,x0,jm,hav,hrq⟩;have z0:=x0.size;obtain ⟨a0,a1,a2,a3,a4,a5,a6,a7,a8,a9,S9,a11,a12,a13,a14,a15,rfl⟩:=ac3 jm.n;refine ⟨_,_,_,_,_,_,_,_,_,_,_,_,_,_,_,_,_,_,_,rfl,λeQ wx di vq=> ?_⟩;have z20:=zA wx;have z21:=zR vq;have anv:Ext w0 di:=(aU wx).af vq (ak _);have r21:Row di w0 (vI M'.now::([a0,a1,a2,a3,a4,a5,a6,a7,a8,a9,S9,a11,a12,a13,a14,a15].map pA++ [Value.slice sq.a sq.n sq.c])) Uc:=by rw [vq];exact Row.set (by rw [wx];exact Row.new w0 [_,_,_,_,_,_,_,_,_,_,_,_,_,_,_,_,_,_] _) _
 have fk:=x0.tr anv;obtain ⟨Fs,av0,de,hsf,hel0,rfl⟩:=h;have ng:¬Fs g:=hsf.pX de kM.1.1 kM.1.2.1 kM.1.2.2.1 kM.1.2.2.2.1 kM.1.2.2.2.2.1 kM.1.2.2.2.2.2.1 kM.1.2.2.2.2.2.2;have hFl:∀{i},Fs i->i<w.heap.size:=λhi=>hsf.lt hi
 have hrow21:=de.ext fk;have hgw:=de.lt;have Ta:(Value.pointer (aB s)::av0.map pA).length=17:=by rw [cL,aK,hel0.n]
 have ep:ae (aB g) 1=some ⟨g,1,none⟩:=aF ..;rw [ep];refine ⟨⟨rfl,hrow21.wr (o:=1) (n:=16) (by rw [Ta];exact ak 17)⟩,λq=> ?_,λdh Dy=> ?_⟩
 ·have q:g=w0.heap.size:=Option.some.inj q;omega
 have CF:=Dy.trans (hrow21.bB (o:=1) (by rw [Ta];exact ak 17) (by
  show ∀u ∈ _,_
  repeat' (refine List.forall_mem_cons.2 ⟨rfl,?_⟩)
  exact λ_ q=>(by cases q)))
 have ecs:putCells (Value.pointer (aB s)::av0.map pA) 1 ([a0,a1,a2,a3,a4,a5,a6,a7,a8,a9,S9,a11,a12,a13,a14,a15].map pA)=.pointer (aB s)::[a0,a1,a2,a3,a4,a5,a6,a7,a8,a9,S9,a11,a12,a13,a14,a15].map pA:=by obtain ⟨b0,b1,b2,b3,b4,b5,b6,b7,b8,b9,b10,b11,b12,KX,Wc,Ym,rfl⟩:=ac3 hel0.n;rfl
 have r22:Row dh g (.pointer (aB s)::[a0,a1,a2,a3,a4,a5,a6,a7,a8,a9,S9,a11,a12,a13,a14,a15].map pA) uw:=by rw [<-ecs,CF];exact Row.set hrow21 _
 have o22:∀j,j≠g->dh.heap[j]? =di.heap[j]? :=λj hj=>by rw [CF];exact setRow_other _ _ _ _ hj
 have z22:dh.heap.size=di.heap.size:=by rw [CF,setRow_size]
 have m22:Mod (λi=>i=g) di dh:=⟨by rw [CF];rfl,by rw [CF];rfl,by rw [CF];rfl,Nat.le_of_eq z22.symm,λi _ hn=>o22 i hn⟩;have mm:Mod (λi=>i=g) w dh.drew:=((Mod.aq fk).trans m22).trans (Mod.aq (Ext.dr dh));have anw:SF Fs dh.drew s o t M occ:=hsf.same λi hi=>mm.same i (hFl hi) λq=>ng (q▸hi)
 have arB:EL dh.drew [a0,a1,a2,a3,a4,a5,a6,a7,a8,a9,S9,a11,a12,a13,a14,a15] (wF L (bh L)):=jm.same λa ha=>(o22 a (by have:=hav a ha;omega)).trans (anv.heap (jm.lt ha))
 have arC:=hrq.ext anv;have anx:=arC.aV (w':=dh.drew) λb hb=>o22 b (by have:=(arC.own.lt hb).1;omega)
 have gF:=anx.rd (show 0<4 by decide);refine ⟨_,(r22.ext (Ext.dr dh)).at 0 rfl,(zi anw M'.now sq (M'.q.l.take 2000) gF (λb hb=>⟨(anx.own.lt hb).2,λhf=>by have:=hFl hf;have:=(anx.own.lt hb).1;omega⟩) hq).mono ?_⟩;rintro e ie ⟨rfl,F',ajB,ht⟩;have zd:=nV dh;refine ⟨_,rfl,ht.mod.same _ aa λhf=>by have:=hFl hf;omega,rfl,λi=>i=g\/F' i\/some i ∈ [a0,a1,a2,a3,a4,a5,a6,a7,a8,a9,S9,a11,a12,a13,a14,a15],⟨F',_,ht.mod.row (r22.ext (Ext.dr dh)) ng,?_,arB.same λa ha=>ht.mod.same a (arB.lt ha) λhf=>by have:=hFl hf;have:=hav a ha;omega,rfl⟩,(mm.mono λi _ hi=> .inl hi).trans (ht.mod.mono λi _ hi=> .inr (.inl hi)),λi hi=> ?_⟩
 ·have en:min (max M'.now 0) 1099511627776=M'.now:=by omega
  rw [en] at ajB;exact ajB
 ·rcases hi with hi|hi|hi
  ·exact .inl (.inl hi)
  ·rcases ht.sub i hi with q|q
   ·exact .inl (.inr (.inl q))
   ·exact .inr (by have:=mm.size;omega)
  ·exact .inr (hav i hi)
end
section
variable {F:Nat->Prop} {w:World} {g s o t:Nat} {M M':Sm} {occ:Value} {L L0:lCs}
def Sa(h:EF F w g s o t M occ L0)(aV:Int)(hW:M.T.1.l.length<=1000000)(hl:ee M.T.1.l<=1099511627776)(hW':(cw M.T.1 aV).1.l.length<=1000000)(hk:(Go.bW.pU (cw M.T.1 aV).1 0).1=dy M' L/\(Go.bW.pU (cw M.T.1 aV).1 0).2.2=true)
  (hL:okR L)(hw:okW M'.q.l)(hM:0<=M'.now/\M'.now<=1099511627776)(hq:yN ⟨4096,0,M'.q.l.take 2000⟩):
  ab 123 #[g,aV] w λe w'=>e=vI (cw M.T.1 aV).2/\dK F w g s o t {M with T:=((cw M.T.1 aV).1,[]),q:=⟨4096,0,M'.q.l.take 2000⟩,now:=M'.now} occ (wF L (bh L)) w':=by
 obtain ⟨Fs,hs,pG,-⟩:=h.EN;obtain ⟨Fw,hWd,bq⟩:=h.world;apply oh.vc;refine ⟨_,pG,(cZ hs).bf λw1 Tc=> ?_⟩;subst Tc;refine ⟨_,rfl,(gx hWd).bf λw3 Ig=> ?_⟩;subst Ig;refine ⟨_,rfl,(AX hWd hW hl aV).bf λw5 hr5=> ?_⟩;obtain ⟨F5,h5,t5⟩:=bq hr5;obtain ⟨Fw5,hW5,-⟩:=h5.world;refine ⟨_,rfl,(Dp hW5 hW').mono ?_⟩;rintro e w7 ⟨s8,rfl,gF,Is,x7⟩;obtain ⟨hk1,Yj⟩:=hk;refine ⟨s8,_,rfl,?_⟩;show Br (!(Go.bW.pU (cw M.T.1 aV).1 0).2.2) _ _;rw [Yj];have gF:RdK w7 s8 1 (byR (dy M' L)):=by rw [<-hk1];exact gF
 refine Br.mk (λq=>(by cases q)) λ_=>(II (h5.ext x7) gF Is hL hw hM hq).bf λcp hr=> ?_
 refine ⟨_,rfl,Br.mk (λq=>(by cases q)) λ_=>⟨rfl,?_⟩⟩;exact dK.tr t5 (dK.aq x7 hr)
end
open Go.iG
def PO:∀l:List ByteArray,(∀t ∈ l,t.size<=1000)->(Lib.join (l.map (·.data.toList)) [32]).length<=l.length*1001
 | [],_=>eG _
 |t::l,h=>by
  have i1:=PO l λx hx=>h x (qQ _ hx)
  have i2:t.data.toList.length<=1000:=by have:=h t (List.mem_cons_self ..);have e:=jQ t;unfold bl at e;omega
  cases l with
  |nil=>simp [Lib.join,List.intercalate] at i2 ⊢;omega
  |cons t2 l2=>
   simp only [eH,Lib.join,List.intercalate,List.intersperse,kX,cj,cL,mV] at i1 i2 ⊢;omega
def iL{l:List ByteArray}(h:∀t ∈ l,t.size<=1000)(hn:l.length<=500):(eI l).size<=1000000:=by have h1:=PO l h;have e:=jQ (eI l);have:bl (eI l)=Lib.join (l.map (·.data.toList)) [32]:=rfl;rw [this] at e;omega
def cF{n:Int}(hn:cH n):(bI n).size<=100:=by
 unfold cH at hn;have key:(Lib.itoa n).length<=21:=by
  unfold Lib.itoa;split
  ·have:=Mi 19 n.natAbs aa;simp only [cL];omega
  ·have:=Mi 19 n.toNat aa;omega
 have e:=jQ (bI n);have:bl (bI n)=Lib.itoa n:=rfl;rw [this] at e;omega
def Y3{x:Int}(h:er x):(iX x).size<=100:=by
 unfold er at h;have:∀n:Fin 14,(iX ((n.val:Nat):Int)).size<=100:=by decide+kernel
 have:=this ⟨x.toNat,aa⟩;rwa [show ((x.toNat:Nat):Int)=x by omega] at this
def mZ{u v:World}{xs:LV}{txs:List ByteArray}(hv:v=u.alloc (.cells xs.toArray 20))(hl:txs.length=xs.length)(hn:xs.length<=500)(hit:∀(i:Nat) x t,xs[i]? =some x->txs[i]? =some t->xD v x t)(nR:∀t ∈ txs,t.size<=1000):
  ed 154 #[.slice (aB u.heap.size) xs.length xs.length] v (Value.string (eI txs)):=
 adl hv hl aa hit λt ht=>by have:=nR t ht;omega
def all_cons{v:World}{x:Value}{t:ByteArray}{xs:LV}{ts:List ByteArray}(h0:xD v x t)(h:∀(i:Nat) x t,xs[i]? =some x->ts[i]? =some t->xD v x t):∀(i:Nat) y s,(x::xs)[i]? =some y->(t::ts)[i]? =some s->xD v y s
 |0,y,s,h1,h2=>by cases h1;cases h2;exact h0
 |i+1,y,s,h1,h2=>h i y s h1 h2
def all_nil{v:World}{ts:List ByteArray}:∀(i:Nat) y s,([]:LV)[i]? =some y->ts[i]? =some s->xD v y s:=λi y s h=>by cases h
def Ur{u v:World}{xs:LV}{txs:List ByteArray}{x:Int}(hx:er x)(hv:v=u.alloc (.cells xs.toArray 20))(hl:txs.length=xs.length)(hn:xs.length<=500)(hit:x=0->∀w,Ext v w->∀(i:Nat) y t,xs[i]? =some y->txs[i]? =some t->xD w y t)(nR:∀t ∈ txs,t.size<=1000):
  ed 167 #[x,.slice (aB u.heap.size) xs.length xs.length] v (Value.string (if x=0 then eI txs else iX x)):=by
 apply adm.vc (a1:=⟨aB u.heap.size,xs.length,xs.length⟩);apply Br.mk<;>intro c
 ·intro w0 e0;refine (jg e0 (pZ hx w0) (fi _)).bf λw1 x1=> ?_
  have:x≠0:=by simpa using c
  exact ⟨_,rfl,by rw [if_neg this],(aU e0).tr x1⟩
 ·have c:=eK c;refine (mZ hv hl hn (hit c v (Ext.bT _)) nR).bf λw1 x1=> ?_
  exact ⟨_,rfl,by rw [if_pos c],x1⟩
section
variable {k:Nat} {w:World} {F:Nat->Prop} {sh g s o t B ga:Nat} {M:Sm} {occ:Value} {L:Lv} {ws:List ByteArray}
def Mc.tab(h:Mc k w F sh g s o t B ga M occ L ws){u:World}(m:Mod (λi=>F i\/i=ga) w u):lP u:=h.t u m
def dK.mod{u:World}{M':Sm}{occ':Value}{L':Lv}(hr:dK F w g s o t M' occ' L' u):Mod F w u:=by obtain ⟨F',-,ht⟩:=hr;exact ht.mod
def akB(M:Sm)(L:Lv)(ws:List ByteArray):Option Out:=(gz ws).bind λx=>(ks x.2).bind λ_=>some (iX (zB L x.1).1,M,(zB L x.1).2)
def PG(h:Mc k w F sh g s o t B ga M occ L ws):ab 98 #[sh,ga] w (MR k w ga F g s o t (akB M L ws)):=by
 apply BF.vc;refine (h.at _).num λn r u _ m1 h1=>h1.fin λ_ h2=>⟨_,h2.ld,(Y4 h2.c.e n).bf λw4 hr=> ?_⟩
 refine ⟨_,rfl,λw6 e6=>(jg e6 (pZ (ahZ L n) w6) (fi _)).bf λw7 x7=> ?_⟩;exact ⟨_,rfl,h2.TL (fi _) (h2.c.i.lv (adn h2.c.i.b n)) hr ((aU e6).tr x7)⟩
def adb(M:Sm)(L:Lv)(ws:List ByteArray):Option Out:=(kI ws).bind λv=>(gz v.2).bind λa=>(gz a.2).bind λb=>(ks b.2).bind λ_=>
 some (if (iP M L (nK v.1 a.1 b.1)).2.1=0 then eI [bI (iP M L (nK v.1 a.1 b.1)).1] else iX (iP M L (nK v.1 a.1 b.1)).2.1,M,(iP M L (nK v.1 a.1 b.1)).2.2)
def Mc.len(h:Mc k w F sh g s o t B ga M occ L ws):L.length=16:=by obtain ⟨av,-,he,-⟩:=h.e.row;exact he.m
def JU(M:Sm)(hL:L.length=16)(b:eJ):cH (iP M L b).1:=by
 have h: -1<=th L/\th L<=L.length:=by
  rcases dm (λx:Option cQ=>x.isNone) L with ⟨e,-⟩|⟨i,x,hx,-,e,-⟩
  ·unfold th;rw [e];omega
  ·unfold th;rw [e];have:=(cG.1 hx).1;omega
 unfold iP cH
 repeat' split
 all_goals (simp only;omega)
def L7(h:Mc k w F sh g s o t B ga M occ L ws):ab 97 #[sh,ga] w (MR k w ga F g s o t (adb M L ws)):=by
 apply zC.vc;refine (h.at _).vec λx y z r u _ m1 h1 w4 e4 w5 e5=> ?_
 have x5:Ext u w5:=Ext.af (aU e4) e5 (ak _);have z5:=yL e4 e5;have hB:=h1.le;refine (h1.ext x5).num λa r2 u2 ha m2 h2=>⟨(h1.ext x5).aV m2 hB aa,?_⟩
 have z2:=m2.size;refine h2.num λb r3 u3 hb m3 h3=>⟨h2.aV m3 hB aa,h3.fin λ_ h4=>⟨rfl,?_⟩⟩
 have z3:=m3.size;have h5:=h4.ext (Ext.dr u3);refine ⟨_,h5.ld,(Us h5.c.e (x,y,z) a b (se ha)).bf λbN hr=> ?_⟩;have nf:¬F u.heap.size:=λq=>by have:=h.e.lt q;have:=h1.m.size;omega
 refine ⟨_,_,rfl,h5.PS hr hB (by show _<u3.heap.size;omega) nf,λc9 pC=> ?_⟩;have m12:Mod (λi=>F i\/i=ga) w bN:=(h5.m.mono λi _ hi=> .inr hi).trans (hr.mod.mono λi _ hi=> .inl hi);have hz:=hr.mod.size;have hz:u3.heap.size<=bN:=hz;have nR:=cF (JU M h.len (nK (x,y,z) a b));refine (Ur (ado M L _) (xs:=[.iface 3 (vI (iP M L (nK (x,y,z) a b)).1)]) pC (txs:=[bI (iP M L (nK (x,y,z) a b)).1]) rfl bo (λ_ v xv=>all_cons (gP (h.tab (m12.trans (Mod.aq ((aU pC).tr xv)))) (JU M h.len _)) all_nil) (λt ht=>by rw [ig.1 ht];omega)).bf λbZ dw=> ?_
 have xx:=(aU pC).tr dw;refine ⟨_,rfl,dw.heap (by rw [pC];simp;omega),?_⟩;refine h5.TL ?_ (h5.c.i.lv (Y5 h5.c.i.b _)) hr xx;split
 ·exact iL (λt ht=>by rw [ig.1 ht];exact cV nR au) bo
 ·exact fi _
end
def aja{D:Dk}(h:nN D):∀x ∈ D.l,x.2.length<=1048576:=by intro x hx;obtain ⟨i,hi⟩:=JT.1 hx;have h1:=h.len (i+1);rw [GH hi] at h1;have h2:=B8 (qN ((D.l.take i).foldl lay D.safe) x);rw [ml] at h2;have h3:=h.r;omega
def afl{D:Dk}(h:nN D):ee D.l<=D.l.length*1048576:=Xv (aja h)
section
variable {k:Nat} {w:World} {F:Nat->Prop} {sh g s o t B ga:Nat} {M:Sm} {occ:Value} {L:Lv} {ws:List ByteArray}
def EF.qok(h:EF F w g s o t M occ L):yN M.q:=by obtain ⟨Fs,hs,-⟩:=h.EN;obtain ⟨-,-,-,-,hq,-⟩:=hs.queue;exact hq
def EF.dok(h:EF F w g s o t M occ L):nN M.T.1:=by obtain ⟨Fw,hW,-⟩:=h.world;obtain ⟨F1,hT,-⟩:=hW.table;exact hT.ok
def EF.few(h:EF F w g s o t M occ L):M.T.2.length<=16:=by obtain ⟨Fw,hW,-⟩:=h.world;have:=hW.len;omega
def Inv.d(h:Inv k M L)(hk:k<=1000):M.T.1.l.length<=20000:=by have:M.T.1.l.length<=20*k:=h.n.1.d;omega
def Inv.sok(h:Inv k M L)(hk:k<=1000):qB M 500000000:=h.s.mono aa
def akA(M:Sm)(L:Lv)(ws:List ByteArray):Option Out:=(ks ws).bind λ_=>some (iX (tJ M.T.1 0 (dy M L)).2,akw M L,L)
def PF(h:Mc k w F sh g s o t B ga M occ L ws):ab 96 #[sh,ga] w (MR k w ga F g s o t (akA M L ws)):=by
 apply Ch.vc;have hd:=h.i.d h.z;refine (h.at _).fin λ_ h2=>⟨_,h2.ld,(YS h2.c.e aa).bf λw4 hr=> ?_⟩
 refine ⟨_,rfl,λw6 e6=>(jg e6 (pZ (ak3 _ _ _) w6) (fi _)).bf λw7 x7=> ?_⟩;exact ⟨_,rfl,h2.TL (fi _) (h.i.tab ((h.i.n.1.aV (h.i.rok h.e.qok)).mono aa aa)) hr ((aU e6).tr x7)⟩
def JS(M:Sm)(L:Lv)(ws:List ByteArray):Option Out:=(ks ws).bind λ_=>some (eI [bI (gT M.T.1 M.T.2).2.1,iX (gT M.T.1 M.T.2).2.2],{M with T:=(gT M.T.1 M.T.2).1},L)
def DH(h:Mc k w F sh g s o t B ga M occ L ws):ab 93 #[sh,ga] w (MR k w ga F g s o t (JS M L ws)):=by
 apply u6.vc;have hd:=h.i.d h.z;have h16:=h.e.few;refine (h.at _).fin λ_ h2=> ?_
 obtain ⟨Fs,hS,Eu,-,-⟩:=h2.c.e.EN;obtain ⟨Fw,hW,bq⟩:=h2.c.e.world;refine ⟨_,h2.ld,cA.2 ⟨rfl,cA.2 ⟨rfl,aB s,Eu,(cZ hS).eL ?_⟩⟩⟩;refine ⟨_,rfl,(gx hW).eL ?_⟩;refine ⟨_,rfl,(DE hW aa).bf λw7 hr=> ?_⟩;have hr:=bq hr;obtain ⟨q1,q2,q3⟩:=afm M.T.2 M.T.1 [] 0 (jI 0);have px:cH (gT M.T.1 M.T.2).2.1:=by unfold cH;unfold gT;omega
 have fD:=cF px;have yL:=Y3 q1;have m7:Mod (λi=>F i\/i=ga) w w7:=(h2.m.mono λi _ hi=> .inr hi).trans (hr.mod.mono λi _ hi=> .inl hi);have nR:∀t ∈ [bI (gT M.T.1 M.T.2).2.1,iX (gT M.T.1 M.T.2).2.2],t.size<=1000:=λt ht=>by
  rcases cu.1 ht with rfl|ht
  ·omega
  ·rw [ig.1 ht];exact cV yL au
 refine ⟨_,_,rfl,λbr vv=>(mZ (xs:=[.iface 3 (vI _),.iface 168 (vI _)]) vv (txs:=[bI (gT M.T.1 M.T.2).2.1,iX (gT M.T.1 M.T.2).2.2]) rfl bo (all_cons (gP (h.t _ (m7.trans (Mod.aq (aU vv)))) px) (all_cons (pZ q1 br) all_nil)) nR).bf λbE bS=> ?_⟩;refine ⟨_,rfl,h2.TL (iL nR bo) (h.i.tab ((h.i.n.1.ark (D:=M.T.1) (l:=M.T.2)).mono aa aa)) hr ((aU vv).tr bS)⟩
def akz(M:Sm)(L:Lv)(ws:List ByteArray):Option Out:=(gz ws).bind λx=>(ks x.2).bind λ_=>some (ByteArray.mk #[111,107],{M with T:=(om M.T.1 x.1,M.T.2)},L)
def L5(h:Mc k w F sh g s o t B ga M occ L ws):ab 94 #[sh,ga] w (MR k w ga F g s o t (akz M L ws)):=by
 apply Cf.vc;refine (h.at _).num λn r u hn m1 h1=>h1.fin λ_ h2=> ?_
 obtain ⟨Fs,hS,Eu,-,-⟩:=h2.c.e.EN;obtain ⟨Fw,hW,bq⟩:=h2.c.e.world;refine ⟨_,h2.ld,cA.2 ⟨rfl,cA.2 ⟨rfl,aB s,Eu,(cZ hS).eL ?_⟩⟩⟩;refine ⟨_,rfl,(gx hW).eL ?_⟩;obtain ⟨F1,hT,-,hrt⟩:=hW.table;obtain ⟨st,d,g1,g2,g3⟩:=am9 hT;refine ⟨_,rfl,cA.2 ⟨rfl,cA.2 ⟨rfl,_,g1,cA.2 ⟨rfl,cA.2 ⟨rfl,cA.2 ⟨rfl,_,g2,(g3 n (se hn)).bf λbE hr=> ?_⟩⟩⟩⟩⟩⟩;refine ⟨rfl,λbN ui=>(jg ui .ok au).bf λbw cJ=> ?_⟩;exact ⟨_,rfl,h2.TL au (h.i.tab ((h.i.n.1.fail (D:=M.T.1) (l:=M.T.2) n).mono aa aa)) (bq (hrt hr)) ((aU ui).tr cJ)⟩
def ana{l:List dS.It}(h:∀x ∈ l,okT x):okW l:=λx hx=>by
 obtain ⟨h1,h2⟩:=h x hx
 unfold Cn at h1
 unfold An
 omega
def anb{q:QS}(h:yN q):yN ⟨4096,0,q.l.take 2000⟩:=by
 refine ⟨⟨by show (1:Int)<=4096;decide,by show (4096:Int)<=4096;decide⟩,?_,h.sorted.sublist (List.take_sublist ..),?_⟩
 ·show (((q.l.take 2000).length:Nat):Int)<=4096;rw [cS];omega
 ·show ((q.l.take 2000).map _).Nodup;rw [List.map_take];exact h.nodup.sublist (List.take_sublist ..)
def ajb{L:Lv}(h:kx L):okR L:=by intro i y hy;have hm:=h y (uQ hy);obtain ⟨h1,h2,h3,h4⟩:=kj.1 hm;refine ⟨hm,λn hn=> ?_⟩;unfold c8 at h3 h4;unfold An;simp only [cu,iT,or_false] at hn;rcases hn with rfl|rfl|rfl|rfl|rfl|rfl|rfl|rfl<;>omega
open Classical in
noncomputable def HN(D:Dk):Option (Sm × Lv):=if h:∃x:Sm × Lv,Rok x.1 x.2/\(Go.bW.pU D 0).1=dy x.1 x.2/\(Go.bW.pU D 0).2.2=true then some (Classical.choose h) else none
def KO{D:Dk}{x:Sm × Lv}(h:HN D=some x):Rok x.1 x.2/\(Go.bW.pU D 0).1=dy x.1 x.2/\(Go.bW.pU D 0).2.2=true:=by
 unfold HN at h;split at h
 ·rename_i q
  cases h
  exact Classical.choose_spec q
 ·cases h
def aa4{D:Dk}(hk:KR D)(h:HN D=none):(Go.bW.pU D 0).2.2=false:=by
 unfold HN at h;split at h
 ·cases h
 ·rename_i q;rcases hk.ld with e|⟨M,L,e⟩
  ·exact e
  ·exact absurd ⟨(M,L),e⟩ q
noncomputable def yr(M:Sm)(n:Int):Sm × Lv:=match HN (cw M.T.1 n).1 with
 |some x=>({M with T:=((cw M.T.1 n).1,[]),q:=⟨4096,0,x.1.q.l.take 2000⟩,now:=x.1.now},wF x.2 (bh x.2))
 |none=>({M with T:=((cw M.T.1 n).1,[]),q:=⟨4096,0,[]⟩,now:=0},OT)
def anc{L:Lv}{d:List Int}{y:cQ}(h:some y ∈ wF L d):∃z,some z ∈ L/\y.1=z.1:=by
 unfold wF at h;obtain ⟨i,-,h⟩:=bc.1 h;split at h
 ·obtain ⟨z,hz,rfl⟩:=wM.1 h;exact ⟨z,uQ hz,rfl⟩
 ·cases h
def Inv.Dr(h:Inv k M L)(n:Int):Inv (k+1) (yr M n).1 (yr M n).2:=by
 have ht:nI (k+1) (20*(k+1)) ((cw M.T.1 n).1,[]):=(h.n.1.Dr (D:=M.T.1) (l:=M.T.2) n).mono aa aa;have hs:qB M (300000*(k+1)):=h.s.mono aa;unfold yr
 cases hk:HN (cw M.T.1 n).1 with
 |none=>exact ⟨λy hy=>(by cases (Pd.1 hy).2),⟨⟨jI 0,by simp only;omega⟩,hs.c,⟨jI 0,(by show (0:Int)<=1099511627776;decide)⟩,hs.d⟩,⟨ht,λx hx=>(by cases hx),jI 0,(by show (0:Int)<=1099511627776;decide)⟩,h.u⟩
 |some x=>
  obtain ⟨hr,-,-⟩:=KO hk;refine ⟨λy hy=> ?_,⟨⟨jI 0,by simp only;omega⟩,hs.c,hr.n,hs.d⟩,⟨ht,λy hy=>hr.q y (nZ hy),hr.n⟩,h.u⟩;obtain ⟨z,hz,e⟩:=anc hy;show y.1.may=true;rw [e];exact hr.b z hz
def afn(h:EF F w g s o t M occ L)(hI:Inv k M L)(hk:k<=1000)(n:Int):ab 123 #[g,n] w λe w'=>e=vI (cw M.T.1 n).2/\dK F w g s o t (yr M n).1 occ (yr M n).2 w':=by
 have hd:=hI.d hk;have hl:=afl h.dok;have TE:ee M.T.1.l<=1099511627776:=cV hl aa;have hc:(cw M.T.1 n).1.l.length<=1000000:=eG _;unfold yr
 cases hk:HN (cw M.T.1 n).1 with
 |none=>exact R3 h n aa TE hc (aa4 (hI.n.1.r.Dr n) hk)
 |some x=>
  obtain ⟨hr,h1,h2⟩:=KO hk;exact Sa h n aa TE hc ⟨h1,h2⟩ (ajb hr.b) (ana hr.q) hr.n (anb hr.o)
noncomputable def ada(M:Sm)(ws:List ByteArray):Option Out:=(gz ws).bind λx=>(ks x.2).bind λ_=>some (eI [bI (cw M.T.1 x.1).2],yr M x.1)
def IK(h:Mc k w F sh g s o t B ga M occ L ws):ab 95 #[sh,ga] w (MR k w ga F g s o t (ada M ws)):=by
 apply AJ.vc;refine (h.at _).num λn r u _ m1 h1=>h1.fin λ_ h2=>⟨_,h2.ld,(afn h2.c.e h2.c.i h.z n).bf λw4 hr=> ?_⟩
 have hd:=h.i.d h.z;have hl:=afl h.e.dok;have px:cH (cw M.T.1 n).2:=by have:nq M.T.1 n=min (max n 0) (ee M.T.1.l):=rfl;have e:(cw M.T.1 n).2=ee M.T.1.l-nq M.T.1 n:=rfl;have:ee M.T.1.l<=20000*1048576:=cV hl (tf _ hd);unfold cH;omega
 have fD:=cF px;have m4:Mod (λi=>F i\/i=ga) w w4:=(h2.m.mono λi _ hi=> .inr hi).trans (hr.mod.mono λi _ hi=> .inl hi);have nR:∀t ∈ [bI (cw M.T.1 n).2],t.size<=1000:=λt ht=>by rw [ig.1 ht];omega
 refine ⟨_,rfl,λw6 e6=>(mZ (xs:=[.iface 3 (vI _)]) e6 (txs:=[bI (cw M.T.1 n).2]) rfl bo (all_cons (gP (h.t _ (m4.trans (Mod.aq (aU e6)))) px) all_nil) nR).bf λw7 x7=> ?_⟩;exact ⟨_,rfl,h2.TL (iL nR bo) (h2.c.i.Dr n) hr ((aU e6).tr x7)⟩
end
section
variable {k:Nat} {w w0:World} {F:Nat->Prop} {sh g s o t B ga:Nat} {M:Sm} {occ:Value} {L:Lv} {ws:List ByteArray} {R:eWp}
def Mc.ok(h:Mc k w F sh g s o t B ga M occ L ws):ES 70368744177664 L:=h.i.b.ok
def Mc.sok(h:Mc k w F sh g s o t B ga M occ L ws):qB M 800000000:=(h.i.sok h.z).mono aa
def Mc.wide(h:Mc k w F sh g s o t B ga M occ L ws){c:Ce}{b:Int}(h0:(jo M.T.2 c b).2=0):fh c:=by obtain ⟨hy,e,he,hp⟩:=KM h0;have:=Sn (by rw [<-hp];exact (h.i.n.1.e e he).1) hy;unfold fh;omega
def At.nf{p:Option Out}(h:At k w0 w F sh g s o t B ga M occ L ws R p){b:Nat}(hb:w0.heap.size<=b)(h0:EF F w0 g s o t M occ L):¬F b:=λq=>by have:=h0.lt q;omega
def At.own{u:World}{ws0:List ByteArray}{p:Option Out}(h:At k w0 w F sh g s o t B ga M occ L ws R p)(h0:Mc k w0 F sh g s o t B ga M occ L ws0){b:Nat}(hb:w0.heap.size<=b)(m:Mod (λi=>i=b) w u):At k w0 u F sh g s o t B ga M occ L ws R p:=by
 have hs:=h0.r.row.lt;have hB:=h0.a.le;have hg:=h0.a.lt;have hz:=m.size;have hz0:=h.m.size;have hm:Mod (λi=>i=ga) w0 u:=h.m.tr m λi hi=> .inr aa
 exact ⟨⟨h.c.e.same λi hi=>m.same i (h.c.e.lt hi) (λq=>by have:=h0.e.lt hi;omega),⟨h.c.r.row.same (m.same sh h.c.r.row.lt aa)⟩,h.c.a.aV aa λi hi=>m.same i aa aa,h0.f,h0.n,h0.i,λu' m'=>h0.t u' ((hm.mono λi _ hi=> .inr hi).trans m'),h0.z,h0.q⟩,hm,h.r⟩
def akC(M:Sm)(L:Lv)(ws:List ByteArray):Option Out:=(gz ws).bind λn=>(gz n.2).bind λx=>(gz x.2).bind λz=>(Da z.2).bind λj=>(adV (gu j.1 (ByteArray.mk #[48])||gu j.1 (ByteArray.mk #[49]))).bind λ_=>(ks j.2).bind λ_=>
 some (iX (A2 L n.1 (x.1,z.1,gu j.1 (ByteArray.mk #[49]))).1,M,(A2 L n.1 (x.1,z.1,gu j.1 (ByteArray.mk #[49]))).2)
def PH(h:Mc k w F sh g s o t B ga M occ L ws):ab 99 #[sh,ga] w (MR k w ga F g s o t (akC M L ws)):=by
 apply Ci.vc;refine (h.at _).num λn r u _ m1 h1=>h1.num λx r2 u2 _ m2 h2 w4 e4 w5 e5=> ?_
 have x5:Ext u2 w5:=Ext.af (aU e4) e5 (ak _);have z5:=yL e4 e5;have hB:=h2.le;have IB:=h2.m.size;have h5:=h2.ext x5;refine h5.num λz r3 u3 _ m3 h3=>⟨h5.aV m3 hB aa,λw8 e8=> ?_⟩
 have z3:=m3.size;have m8:=iu u3 u2.heap.size #[vI x,vI z,false];rw [<-e8] at m8;have z8:=m8.size;have h8:=h3.own h IB m8;refine h8.word λj r4 u4 _ m4 h4=>⟨h8.aV m4 hB aa,Br.mk (λc=> ?_) (λc=> ?_)⟩
 all_goals
  have z4:=m4.size
  refine h4.amt (by rw [c];rfl) λ_ h5=>⟨rfl,λbN ui=> ?_⟩
  have m12:=iu u4 u2.heap.size #[vI x,vI z,.bool (gu j (ByteArray.mk #[49]))]
  rw [<-ui] at m12
  have z12:=m12.size
  have h6:=(h5.own h IB m12)
  refine h6.fin λ_ h7=>⟨rfl,?_⟩
  have h9:=h7.ext (Ext.dr bN)
  refine ⟨_,h9.ld,(abw h9.c.e n (x,z,gu j (ByteArray.mk #[49]))).bf λc9 hr=> ?_⟩
  have hz:bN.heap.size<=c9:=hr.mod.size
  refine ⟨_,rfl,h9.PS hr hB (by show _<bN.heap.size;omega) (h9.nf IB h.e),λcP ug=>(jg ug (pZ (ajn L n (x,z,gu j (ByteArray.mk #[49]))) cP) (fi _)).bf λdA dc=> ?_⟩
  exact ⟨_,rfl,dc.heap (by rw [ug];simp;omega),h9.TL (fi _) (h.i.lv (afi h.i.b n (x,z,gu j (ByteArray.mk #[49])))) hr ((aU ug).tr dc)⟩
def ade(M:Sm)(L:Lv)(ws:List ByteArray):Option Out:=(gz ws).bind λn=>(kI n.2).bind λv=>(ZF v.2).bind λb=>(ks b.2).bind λ_=>some (iX (sW M L n.1 v.1 b.1).1,(sW M L n.1 v.1 b.1).2,L)
def L8(h:Mc k w F sh g s o t B ga M occ L ws):ab 100 #[sh,ga] w (MR k w ga F g s o t (ade M L ws)):=by
 apply AK.vc;refine (h.at _).num λn r u _ m1 h1=>h1.vec λx y z r2 u2 _ m2 h2 w4 e4 w5 e5=> ?_
 have x5:Ext u2 w5:=Ext.af (aU e4) e5 (ak _);have z5:=yL e4 e5;have hB:=h2.le;have IB:=h2.m.size;have h5:=h2.ext x5;refine h5.aX λb r3 u3 _ m3 h3=>⟨h5.aV m3 hB aa,h3.fin λ_ h4=>⟨rfl,?_⟩⟩
 have z3:=m3.size;have h6:=h4.ext (Ext.dr u3);refine ⟨_,h6.ld,(SY h6.c.e h.ok au n (x,y,z) b h.sok).bf λbN hr=> ?_⟩;have hz:u3.heap.size<=bN:=hr.mod.size;refine ⟨_,rfl,h6.PS hr hB (by show _<u3.heap.size;omega) (h6.nf IB h.e),λc9 pC=>(jg pC (pZ (afG M L n (x,y,z) b) c9) (fi _)).bf λbZ dw=> ?_⟩;exact ⟨_,rfl,dw.heap (by rw [pC];simp;omega),h6.TL (fi _) (h.i.place n (x,y,z) b) hr ((aU pC).tr dw)⟩
def akD(M:Sm)(L:Lv)(ws:List ByteArray):Option Out:=(kI ws).bind λc=>(ZF c.2).bind λb=>(ks b.2).bind λ_=>some (iX (iA M L c.1 b.1).1,(iA M L c.1 b.1).2,L)
def L9(h:Mc k w F sh g s o t B ga M occ L ws):ab 101 #[sh,ga] w (MR k w ga F g s o t (akD M L ws)):=by
 apply Cj.vc;refine (h.at _).cell λx y z r2 u2 hc m2 h2 w4 e4 w5 e5=> ?_
 have x5:Ext u2 w5:=Ext.af (aU e4) e5 (ak _);have z5:=yL e4 e5;have hB:=h2.le;have IB:=h2.m.size;have h5:=h2.ext x5;refine h5.aX λb r3 u3 _ m3 h3=>⟨h5.aV m3 hB aa,h3.fin λ_ h4=>⟨rfl,?_⟩⟩
 have z3:=m3.size;have h6:=h4.ext (Ext.dr u3);refine ⟨_,h6.ld,(Dx h6.c.e h.ok (x,y,z) b (Xi hc) h.wide h.sok).bf λbN hr=> ?_⟩;have hz:u3.heap.size<=bN:=hr.mod.size;refine ⟨_,rfl,h6.PS hr hB (by show _<u3.heap.size;omega) (h6.nf IB h.e),λc9 pC=>(jg pC (pZ (Oq M L (x,y,z) b) c9) (fi _)).bf λbZ dw=> ?_⟩;exact ⟨_,rfl,dw.heap (by rw [pC];simp;omega),h6.TL (fi _) (h.i.afF L (x,y,z) b) hr ((aU pC).tr dw)⟩
def adf(M:Sm)(L:Lv)(ws:List ByteArray):Option Out:=(gz ws).bind λn=>(kI n.2).bind λv=>(ks v.2).bind λ_=>
 some (if (mE M L n.1 v.1).1.2=0 then eI [kE (mE M L n.1 v.1).1.1] else iX (mE M L n.1 v.1).1.2,(mE M L n.1 v.1).2,L)
def yi(b:Int):(kE b).size<=100:=by
 unfold kE;split
 ·exact eG _
 ·rw [dG]
  cases h:nmT[b.toNat]? with
  |none=>exact eG _
  |some x=>
   have hx:=aQ h;have:∀x ∈ nmT,x.size<=100:=by decide+kernel
   exact this x hx
def Ma(h:Mc k w F sh g s o t B ga M occ L ws):ab 102 #[sh,ga] w (MR k w ga F g s o t (adf M L ws)):=by
 apply ye.vc;refine (h.at _).num λn r u _ m1 h1=>h1.vec λx y z r2 u2 _ m2 h2 w4 e4 w5 e5=> ?_
 have x5:Ext u2 w5:=Ext.af (aU e4) e5 (ak _);have z5:=yL e4 e5;have hB:=h2.le;have IB:=h2.m.size;have h5:=h2.ext x5;refine h5.fin λ_ h4=>⟨rfl,?_⟩
 have h6:=h4.ext (Ext.dr w5);refine ⟨_,h6.ld,(SZ h6.c.e h.ok au n (x,y,z) h.sok).bf λbr hr=> ?_⟩;have hz:w5.heap.size<=br:=hr.mod.size;refine ⟨_,_,rfl,h6.PS hr hB (by show _<w5.heap.size;omega) (h6.nf IB h.e),(kl _ br).bf λbw cJ=> ?_⟩;have zx:=cJ.size;refine ⟨_,rfl,cJ.k,λc9 pC=>(Ur (anm M L n (x,y,z)) (xs:=[.iface 9 (.string _)]) pC (txs:=[kE (mE M L n (x,y,z)).1.1]) rfl bo (λ_ v xv=>all_cons (.s _) all_nil) (λt ht=>by rw [ig.1 ht];exact cV (yi _) au)).bf λbZ dw=> ?_⟩;refine ⟨_,rfl,dw.heap (by rw [pC];simp;omega),h6.TL ?_ (h.i.brk n (x,y,z)) hr (cJ.tr ((aU pC).tr dw))⟩;split
 ·exact iL (λt ht=>by rw [ig.1 ht];exact cV (yi _) au) bo
 ·exact fi _
end
open Tryz
variable {R:eWp} {w:World} {a0 a1 a2:Int}
def Cs.vc{a0:Addr}{a1:Addr}(h:(λA=>
 ab 152 #[a1] w (Qp R (fw λx1 w0=>ab 166 #[a1] w0 (Qp R (zK λx3 x4 x5 w2=>Aw w2 #[ai,ai,ai] 73 λw6=>
 Sw w6 w2 #[x3,x4,x5] λw7=>
 ab 153 #[a1] w7 (Qp R (Rt λw8=>Kp w2 w7 w8/\
 ∃J9:Int->Option Addr->wPp,
 (eO w8.drew (ae (some a0) 0) λIe=>(λAa=>
 (ab 131 Aa w8.drew (Qp R (aiq λcr cJ cY dn dw dO dc bE=>Kp w2 w8.drew bE/\
 Aw bE A 184 λfm=>
 Sw fm bE #[cr,cJ,cY,dn,dw,dO] λeQ=>
 aR [x3,x4,x5]/\J9 dc (aB bE) eQ)))/\(Aw w8.drew A 184 λdi=>
 ab 131 Aa di (Qp R (aiq λiB jn gG nU jl rC kz dh=>Kp w2 di dh/\ox w8 di dh/\
 Sw dh w8.drew.heap.size #[iB,jn,gG,nU,jl,rC] λpw=>
 aR [x3,x4,x5]/\J9 kz (aB w8.drew.heap.size) pw)))) #[Ie,x1,.agg #[x3,x4,x5]])/\
 ∀asf:Nat->Value,∀(mP:Int)(Bp:Option Addr)(ke:World),J9 mP Bp ke->
 aO (eE Bp) (jr ke.drew (ae Bp 3) λpy=>
 aO (eE Bp) (aO (eE (ae Bp 0)) (jr ke.drew (ae (ae Bp 0) 0) λoP=>
 aO (eE Bp) (aO (eE (ae Bp 0)) (jr ke.drew (ae (ae Bp 0) 1) λmO=>
 aO (eE Bp) (aO (eE (ae Bp 0)) (jr ke.drew (ae (ae Bp 0) 2) λnC=>
 aO (eE Bp) (jr ke.drew (ae Bp 4) λrq=>
 aO (eE Bp) (jr ke.drew (ae Bp 5) λrE=>
 ab 170 #[py] ke.drew (Qp R (lu λt42 kO=>Kp w2 ke.drew kO/\
 ah kO (ae Bp 5) 0 [rE]/\ah kO (ae Bp 4) 0 [rq]/\ah kO (ae (ae Bp 0) 2) 0 [nC]/\ah kO (ae (ae Bp 0) 1) 0 [mO]/\ah kO (ae (ae Bp 0) 0) 0 [oP]/\Aw kO #[.iface 9 (.string t42),.iface 3 (oP),.iface 3 (mO),.iface 3 (nC),.iface 3 (rq),.iface 3 (rE)] 20 λiO=>
 ab 167 #[mP,.slice (aB kO) 6 6] iO (Qp R (lu λt45 kf=>Kp w2 iO kf/\
 ah kf (ae Bp 5) 0 [rE]/\ah kf (ae Bp 4) 0 [rq]/\ah kf (ae (ae Bp 0) 2) 0 [nC]/\ah kf (ae (ae Bp 0) 1) 0 [mO]/\ah kf (ae (ae Bp 0) 0) 0 [oP]/\R (Value.string t45) kf)))))))))))))))))))) #[ai,ai,ai,ai,ai,ai]):ab 103 #[a0,a1] w R:=
 k7 (an:=⟨[],[(5,⟨[(8,.int .i64),(7,.ptr)],[],[]⟩)],[]⟩) (args:=[.pointer (some a0),.pointer (some a1)]) Tryz.Zp Tryz.mixed func103 h (by kernel_rfl)
def DT.vc{a0:Addr}(h:
 rP (λI0 n1=>I0 n1 (31) w) λI0 n1 Bn x3 w4=>
 Br (x3>=0)
 (eO w4 (ae (some a0) 0) λp6=>
 ab 113 #[p6,.agg #[a1,x3,a2]] w4 (fw λx8 w7=>Br (x8==(-1))
 (R (vI (-2)) w7)
 (Br (x8==0)
 (∃n5,n5<n1/\I0 n5 ((aC (x3-1))) w7)
 (R x3 w7))))
 (R (vI (-1)) w4)):ab 134 #[a0,a1,a2] w R:=
 cq (Mq 2 7) func134 h
def Xh{w:World}(hT:lP w){x y z:Int}(hx:cH x)(hy:cH y)(hz:cH z):xD w (.iface 73 (.agg #[x,y,z])) (eI [bI x,bI y,bI z]):=
 .v x y z _ λu v xu e=>mZ (xs:=[.iface 3 (vI x),.iface 3 (vI y),.iface 3 (vI z)]) e rfl bo
  (all_cons (gP (vE hT (xu.aZ e)) hx) (all_cons (gP (vE hT (xu.aZ e)) hy) (all_cons (gP (vE hT (xu.aZ e)) hz) all_nil)))
  λt ht=>by have h1:=cF hx;have h2:=cF hy;have h3:=cF hz;simp only [cu,iT,or_false] at ht;rcases ht with rfl|rfl|rfl<;>omega
def adv{w:World}(hT:lP w)(b:Bool):xD w (.iface 4 (.bool b)) (eI [bI (if b then 1 else 0)]):=by
 have hi:cH (if b then 1 else 0):=by unfold cH;cases b<;>decide
 exact .b b _ λu v xu e=>mZ (xs:=[.iface 3 (vI (if b then 1 else 0))]) e rfl bo (all_cons (gP (vE hT (xu.aZ e)) hi) all_nil)
  λt ht=>by rw [ig.1 ht];exact cV (cF hi) au
def J2{x y z:Int}(hx:cH x)(hy:cH y)(hz:cH z):(eI [bI x,bI y,bI z]).size<=1000:=by
 have h1:=cF hx;have h2:=cF hy;have h3:=cF hz;have e:=jQ (eI [bI x,bI y,bI z]);have e1:=jQ (bI x);have e2:=jQ (bI y);have e3:=jQ (bI z);have:bl (eI [bI x,bI y,bI z])=bl (bI x)++32::(bl (bI y)++32::bl (bI z)):=by show Lib.join [bl (bI x),bl (bI y),bl (bI z)] [32]=_;simp [Lib.join,List.intercalate]
 rw [this] at e;simp at e;omega
section
variable {k:Nat} {w w0:World} {F:Nat->Prop} {sh g s o t B ga:Nat} {M:Sm} {occ:Value} {L:Lv} {ws:List ByteArray} {R:eWp}
def YX(M:Sm)(L:Lv)(ws:List ByteArray):Option Out:=(kI ws).bind λc=>(ks c.2).bind λ_=>some (qS (jc M.T.2 c.1),M,L)
def UE(b:Int):(qS b).size<=1000000:=by
 unfold qS;split
 ·decide
 ·exact BJ b
def Ug(h:Mc k w F sh g s o t B ga M occ L ws):ab 104 #[sh,ga] w (MR k w ga F g s o t (YX M L ws)):=by
 refine J5 h.e h.r h.a h.f h.n BJ _ ?_ ?_
 ·intro lp u m;have e:YX M L ws=none:=by
   unfold YX
   cases hp:kI ws with
   |none=>rfl
   |some x=>
    obtain ⟨c,r⟩:=x;show (ks r).bind _=none;unfold ks;rw [if_neg λq=>lp c (by rw [hp,q])];rfl
  rw [e];exact MR.bad m
 ·intro c hp;refine ⟨Xi hp,λu m=> ?_⟩;have e:YX M L ws=some (qS (jc M.T.2 c),M,L):=by unfold YX;rw [hp];rfl
  rw [e];exact MR.same h (UE _) m (Ext.bT _)
def Zg{F:Nat->Prop}{w:World}{o t:Nat}{aj limit:Int}{T:Tb}{ch:List Cg}(h:WF F w o t aj limit T ch)(x z:Int)(hx:cH x)(hz:cH z):
  ed 134 #[o,x,z] w (vI (vV T.2 x z 32)):=by
 obtain ⟨F1,sc,hT,hR,hO,rfl⟩:=id h;apply DT.vc;refine ⟨λn y w'=>y+1=n/\y<=31/\Ext w w'/\vV T.2 x z 32=vV T.2 x z n,⟨32,aa,aa,Ext.bT _,rfl⟩,?_⟩;rintro n us y w4 ⟨hy,aFM,x4,he⟩;apply Br.mk<;>intro c
 ·replace c:=lM c;obtain ⟨k,rfl⟩:∃k:Nat,n=k+1:=⟨n-1,aa⟩;have hyk:y=(k:Nat):=by omega
  subst hyk;refine ⟨_,(hR.ext x4).at 0 rfl,(Bw (hT.ext x4) (x,(k:Int),z) ⟨hx,(show cH (k:Int) by unfold cH;omega),hz⟩).bf λw7 x7=> ?_⟩;refine ⟨_,rfl,Br.mk (λc1=> ?_) (λc1=>Br.mk (λc2=> ?_) (λc2=> ?_))⟩
  ·simp only [beq_iff_eq] at c1;refine ⟨?_,x4.tr x7⟩;rw [he];unfold vV;rw [if_pos c1]
  ·simp only [beq_eq_false_iff_ne] at c1;simp only [beq_iff_eq] at c2;have wr:aC ((k:Int)-1)=(k:Int)-1:=wI;refine ⟨k,aa,?_⟩;rw [wr];refine ⟨aa,aa,x4.tr x7,?_⟩;rw [he];show vV T.2 x z (k+1)=_;rw [vV,if_neg c1,if_pos c2]
  ·simp only [beq_eq_false_iff_ne] at c1 c2;refine ⟨?_,x4.tr x7⟩;rw [he];unfold vV;rw [if_neg c1,if_neg c2]
 ·replace c:=lW c;have:n=0:=by omega
  subst this;exact ⟨by rw [he];rfl,x4⟩
def aqN(M:Sm)(L:Lv)(ws:List ByteArray):Option Out:=(xC ws).bind λp=>(ks p.2).bind λ_=>some (eI [bI (vV M.T.2 p.1.1 p.1.2 32)],M,L)
def ah8{p:Int × Int}{r:List ByteArray}(h:xC ws=some (p,r)):cH p.1/\cH p.2:=by
 unfold xC at h;split at h
 ·cases h
 ·rename_i x r1 h1;split at h
  ·cases h
  ·rename_i z r2 h2
   cases h
   exact ⟨se h1,se h2⟩
def Uh(h:Mc k w F sh g s o t B ga M occ L ws):ab 105 #[sh,ga] w (MR k w ga F g s o t (aqN M L ws)):=by
 apply DU.vc;refine (h.at _).pos λx z r u hp m1 h1 w4 e4 w5 e5=> ?_
 have x5:Ext u w5:=Ext.af (aU e4) e5 (ak _);have z5:=yL e4 e5;have hB:=h1.le;obtain ⟨hx,hz⟩:=ah8 hp;refine (h1.ext x5).fin λ_ h4=>⟨rfl,?_⟩
 have hb:Row w5.drew u.heap.size [vI x,vI z] 139:=by
  have:Row w5 u.heap.size [vI x,vI z] 139:=by have hr4:Row w4 u.heap.size [ai,ai] 139:=Row.nw e4;rw [e5];exact hr4.set [_,_]
  exact this.ext (Ext.dr w5)
 have h5:=h4.ext (Ext.dr w5);have hsh:=h5.c.r.row;obtain ⟨Fs,hS,Eu,-,-⟩:=h5.c.e.EN;obtain ⟨Fw,hW,-,-⟩:=hS.world;refine ⟨_,h5.ld,cA.2 ⟨rfl,cA.2 ⟨rfl,aB s,Eu,(cZ hS).eL ?_⟩⟩⟩;have ls:∀{v:World},Ext w5.drew v->ah v (ae (aB sh) 0) 0 [g]:=λxv=>by rw [aF];exact (hsh.ext xv).bH (λj _=>by simp)
 refine ⟨_,rfl,rfl,hb.bH (o:=1) (λj hj=>by simp at hj;subst hj;rfl),hb.bH (o:=0) (λj hj=>by simp at hj;subst hj;rfl),ls (Ext.bT _),(Zg hW x z hx hz).bf λbr bL=> ?_⟩;have hs5:=nV w5;have zx:=bL.size;have hT:=WU M.T.2 x z 32;have px:cH (vV M.T.2 x z 32):=by unfold cH;omega
 have fD:=cF px;have nR:∀t ∈ [bI (vV M.T.2 x z 32)],t.size<=1000:=λt ht=>by rw [ig.1 ht];omega
 refine ⟨_,rfl,bL.k,ls bL,λbN ui=> ?_⟩;have cr:=bL.aZ ui;refine (mZ (xs:=[.iface 3 (vI _)]) ui (txs:=[bI (vV M.T.2 x z 32)]) rfl bo (all_cons (gP (h.t _ ((h5.m.mono λi _ hi=> .inr hi).trans (Mod.aq cr))) px) all_nil) nR).bf λbw cJ=> ?_
 exact ⟨_,rfl,cJ.heap (by rw [ui];simp;omega),ls (cr.tr cJ),h5.same (iL nR bo) (cr.tr cJ)⟩
def akF(M:Sm)(L:Lv)(ws:List ByteArray):Option Out:=(gz ws).bind λn=>(ks n.2).bind λ_=>
 some (if (dJ L n.1).2=true then eI [eI [bI (dJ L n.1).1.aw.1,bI (dJ L n.1).1.aw.2.1,bI (dJ L n.1).1.aw.2.2],eI [bI (dJ L n.1).1.speed.1,bI (dJ L n.1).1.speed.2.1,bI (dJ L n.1).1.speed.2.2],eI [bI (if (dJ L n.1).1.fG then 1 else 0)]] else ByteArray.mk #[110,111,110,101],M,L)
def ah9(h:kx L)(n:Int):(cH (dJ L n).1.aw.1/\cH (dJ L n).1.aw.2.1/\cH (dJ L n).1.aw.2.2)/\cH (dJ L n).1.speed.1/\cH (dJ L n).1.speed.2.1/\cH (dJ L n).1.speed.2.2:=by
 unfold dJ
 cases hy:cE L n with
 |none=>unfold cH adw;decide
 |some y=>
  have hm:y.1.may=true:=h y (by
   unfold cE at hy;split at hy
   ·exact aQ (J6.1 hy)
   ·cases hy)
  obtain ⟨-,-,h3,h4⟩:=kj.1 hm;unfold c8 at h3 h4;unfold cH;simp only;omega
def PJ(h:Mc k w F sh g s o t B ga M occ L ws):ab 106 #[sh,ga] w (MR k w ga F g s o t (akF M L ws)):=by
 apply BK.vc;refine (h.at _).num λn r u _ m1 h1=>h1.fin λ_ h2=>⟨_,h2.ld,(J7 h2.c.e n).bf λw4 x4=> ?_⟩
 refine ⟨_,_,_,_,_,_,_,_,_,_,rfl,λc9 pC bZ CH=> ?_⟩;have dw:Ext u bZ:=x4.tr (Ext.af (aU pC) CH (ak _));have z16:=yL pC CH;refine Br.mk (λc=>λcP ug=> ?_) (λc=>λeQ wx=> ?_)
 ·have c:(dJ L n).2=false:=by simpa using c
  refine (jg ug (.s _) au).bf λdA dc=> ?_
  refine ⟨_,rfl,dc.heap (by rw [ug];simp;omega),?_⟩;have h3:=h2;simp only [c,Bool.false_eq_true,if_false] at h3;exact h3.same au ((dw.aZ ug).tr dc)
 ·have c:(dJ L n).2=true:=by simpa using c
  obtain ⟨⟨f1,f2,f3⟩,s1,s2,s3⟩:=ah9 h.i.b n;have hb:cH (if (dJ L n).1.fG then 1 else 0):=by unfold cH;split<;>decide
  have hT:lP eQ:=h.t _ ((h2.m.mono λi _ hi=> .inr hi).trans (Mod.aq (dw.aZ wx)));have j1:(eI [bI (if (dJ L n).1.fG then 1 else 0)]).size<=1000:=by rw [join_one];exact cV (cF hb) au
  have nR:∀t ∈ [eI [bI (dJ L n).1.aw.1,bI (dJ L n).1.aw.2.1,bI (dJ L n).1.aw.2.2],eI [bI (dJ L n).1.speed.1,bI (dJ L n).1.speed.2.1,bI (dJ L n).1.speed.2.2],eI [bI (if (dJ L n).1.fG then 1 else 0)]],t.size<=1000:=λt ht=>by
   simp only [cu,iT,or_false] at ht;rcases ht with rfl|rfl|rfl
   ·exact J2 f1 f2 f3
   ·exact J2 s1 s2 s3
   ·exact j1
  refine (mZ (xs:=[.iface 73 (.agg #[_,_,_]),.iface 73 (.agg #[_,_,_]),.iface 4 (.bool _)]) wx (txs:=[eI [bI (dJ L n).1.aw.1,bI (dJ L n).1.aw.2.1,bI (dJ L n).1.aw.2.2],eI [bI (dJ L n).1.speed.1,bI (dJ L n).1.speed.2.1,bI (dJ L n).1.speed.2.2],eI [bI (if (dJ L n).1.fG then 1 else 0)]]) rfl bo (all_cons (Xh hT f1 f2 f3) (all_cons (Xh hT s1 s2 s3) (all_cons (adv hT _) all_nil))) nR).bf λdi fk=> ?_
  refine ⟨_,rfl,fk.heap (by rw [wx];simp;omega),?_⟩;have h3:=h2;simp only [c,if_true] at h3;exact h3.same (iL nR bo) ((dw.aZ wx).tr fk)
def akG(M:Sm)(L:Lv)(ws:List ByteArray):Option Out:=(ks ws).bind λ_=>some (Xj L,M,L)
def Xk(h:Mc k w F sh g s o t B ga M occ L ws)(hw:ws≠ []){q:Unit->Option Out}{K:wPp}:ab 153 #[ga] w λe u=>IQ (MR k w ga F g s o t ((ks ws).bind q)) e u (e=pz/\K u):=
 (h.at _).fin λq=>absurd q hw
def UF:(Xj L).size<=1000000:=by
 unfold Xj;refine iL (λt ht=> ?_) (by rw [aK];have:=UG L;omega);obtain ⟨n,hn,rfl⟩:=bc.1 ht;have h0:=xH hn;have:∀n:Fin 100,(ByteArray.mk (Lib.decDigits n.val).toArray).size<=1000:=by decide+kernel
 exact this ⟨n.toNat,aa⟩
def Mb(h:Mc k w F sh g s o t B ga M occ L ws):ab 107 #[sh,ga] w (MR k w ga F g s o t (akG M L ws)):=by
 by_cases hw:ws=[]
 ·subst hw;refine (P8 h.e h.r h.a).bf λu x=> ?_
  exact MR.same h UF (Mod.refl _ _) x
 ·apply qT.vc;exact Xk h hw
def J8(n:Int):ByteArray:=if -600000<=n/\n<=600000 then bI n else ByteArray.mk #[]
def C4(n:Int):(J8 n).size<=100:=by
 unfold J8;split
 ·exact cF inO
 ·decide
def akH(M:Sm)(L:Lv)(ws:List ByteArray):Option Out:=(ks ws).bind λ_=>some (eI (wP J8 M.T.2),M,L)
def Md(h:Mc k w F sh g s o t B ga M occ L ws):ab 108 #[sh,ga] w (MR k w ga F g s o t (akH M L ws)):=by
 have h16:=h.e.few;by_cases hw:ws=[]
 ·subst hw;have it:∀{u:World} {n:Int},Ext w u-> -600000<=n/\n<=600000->xD u (.iface 3 (vI n)) (J8 n):=λxu hn=>by unfold J8;rw [if_pos hn];exact gP (h.t _ (Mod.aq xu)) inO
  refine (P9 h.e h.r h.a (it:=J8) (λu xu e he=> ?_) aa λn=>cV (C4 n) au).mono ?_
  ·obtain ⟨q,-,-⟩:=h.i.n.1.e e he;unfold EP at q;exact ⟨it xu aa,it xu aa⟩
  ·rintro _ u ⟨rfl,x⟩;refine MR.same h (iL (λt ht=> ?_) (by rw [Ka];omega)) (Mod.refl _ _) x;unfold wP at ht;obtain ⟨l,hl,ht⟩:=List.mem_flatten.1 ht;obtain ⟨e,-,rfl⟩:=bc.1 hl;simp at ht;rcases ht with rfl|rfl<;>exact cV (C4 _) au
 ·apply qU.vc;exact Xk h hw
end
def XS{d c0:Ce}{r:Int}:∀(n k:Nat) {s:S3} {h0 h:Hi},wY d c0 k s h0.1->h ∈ goK d c0 r n s h0->(0<=h0.2.2/\h0.2.2<=4294967296*(k+1))->0<=h.2.2/\h.2.2<=4294967296*(k+n+1)
 |0,k,s,h0,h,hr,hm,h1=>by cases hm
 |n+1,k,s,h0,h,hr,hm,h1=>by
  unfold goK at hm
  split at hm
  ·rcases cu.1 hm with rfl|hm
   ·omega
   ·cases hq:iU d s h0 with
    |none=>rw [hq] at hm;cases hm
    |some q=>
     rw [hq] at hm
     have h2:=Rl hr hq
     have h3:0<=q.2.2.2/\q.2.2.2<=4294967296*((k+1:Nat)+1):=by
      have ha:=at3 s;have hs:=Rm (a:=eM s 3) hr aa;unfold iU at hq;split at hq
      ·cases hq
      ·rename_i gl;injection hq with hq;rw [<-hq];simp only;have hp:0<=(iz s (eM s 3)).1*65536:=by have:=hs.2.1.1;omega
       have hle:(iz s (eM s 3)).1*65536 /(iz s (eM s 3)).2<=(iz s (eM s 3)).1*65536:=Int.ediv_le_self _ hp;have S5:0<=(iz s (eM s 3)).1*65536 /(iz s (eM s 3)).2:=Int.ediv_nonneg hp (by rw [hs.1];unfold yh;omega);have:=hs.2.1.2;omega
     have:=XS n (k+1) h2 hm h3;omega
  ·cases hm
def aiP{M:Sm}{L:lCs}{m:Int}(hL:ES m L)(hm:m<=99970000000000)(n:Int)(gE:Ce):(cH (cM M L n gE).1.1.1/\cH (cM M L n gE).1.1.2.1/\cH (cM M L n gE).1.1.2.2)/\cH (cM M L n gE).1.2.2.1/\cH (cM M L n gE).1.2.2.2:=by
 by_cases h0:(cM M L n gE).2=0
 ·have hn:=(Cr hL hm h0).1;obtain ⟨y,-,-,hc,-⟩:=Ro h0;have hh:=Rp (by rw [aiQ];decide) hc;have ht:0<=(cM M L n gE).1.2.2.2/\(cM M L n gE).1.2.2.2<=4294967296*40:=by
   unfold lh at hc;split at hc
   ·rename_i h hf;injection hc with hc;rw [<-hc];have pL:=G6 hf;unfold lj at pL;have hb:=Kx (eN (pk y.1)) (j9 gE) (λi hi=>by
     have:i=0\/i=1\/i=2:=by omega
     unfold j9 wZ dj;rcases this with rfl|rfl|rfl<;>simp<;>omega)
    have:=XS _ 0 hb pL ⟨jI 0,(by show (0:Int)<=4294967296*((0:Nat)+1);decide)⟩;have e5:=aiQ;rw [e5] at this;simp only;omega
   ·injection hc with _ hc
    cases hc
  unfold jL at hn;unfold cH;omega
 ·have e:(cM M L n gE).1=Vs:=by
   unfold cM at h0 ⊢
   cases hq:cE L n with
   |none=>rfl
   |some y=>
    rw [hq] at h0;simp only at h0 ⊢;split
    ·rfl
    ·rename_i q2;split
     ·rfl
     ·rename_i q3;rw [if_neg q2,if_neg q3] at h0;exact absurd rfl h0
  rw [e];unfold Vs cH;decide
section
variable {k:Nat} {w w0:World} {F:Nat->Prop} {sh g s o t B ga:Nat} {M:Sm} {occ:Value} {L:Lv} {ws:List ByteArray} {R:eWp}
def Rq(h:Rr):List ByteArray:=[kE h.2.1,bI h.1.1,bI h.1.2.1,bI h.1.2.2,bI h.2.2.1,bI h.2.2.2]
def akE(M:Sm)(L:Lv)(ws:List ByteArray):Option Out:=(gz ws).bind λn=>(kI n.2).bind λv=>(ks v.2).bind λ_=>
 some (if (cM M L n.1 v.1).2=0 then eI (Rq (cM M L n.1 v.1).1) else iX (cM M L n.1 v.1).2,M,L)
def PI(h:Mc k w F sh g s o t B ga M occ L ws):ab 103 #[sh,ga] w (MR k w ga F g s o t (akE M L ws)):=by
 apply Cs.vc;refine (h.at _).num λn r u _ m1 h1=>h1.vec λx y z r2 u2 _ m2 h2 w4 e4 w5 e5=> ?_
 have x5:Ext u2 w5:=Ext.af (aU e4) e5 (ak _);have z5:=yL e4 e5;have hB:=h2.le;have IB:=h2.m.size;have h5:=h2.ext x5;have hz5:=h5.m.size;refine h5.fin λ_ h4=>⟨rfl,?_⟩
 have h6:=h4.ext (Ext.dr w5);have d5:=nV w5;have L6:=vL h6.c.e h.ok au n (x,y,z);generalize hl:cM M L n (x,y,z)=l at*;have px:=aiP (M:=M) h.ok au n (x,y,z);rw [hl] at px;have her:er l.2:=hl▸Nh M L n (x,y,z);refine ⟨λe p v=>Ext w5.drew v/\e=l.2/\∃b,p=aB b/\Row v b [l.1.1.1,l.1.1.2.1,l.1.1.2.2,l.1.2.1,l.1.2.2.1,l.1.2.2.2] 184,⟨_,h6.ld,L6.mono ?_,?_⟩,?_⟩
 ·rintro _ bE ⟨rfl,bS⟩;refine ⟨_,_,_,_,_,_,_,rfl,bS.k,λfm Td eQ wx=>⟨rfl,?_,rfl,_,rfl,?_⟩⟩
  ·exact bS.tr (Ext.af (aU Td) wx (ak _))
  ·rw [wx];exact Row.set (by rw [Td];exact Row.new _ [_,_,_,_,_,_] _) _
 ·intro di vq;have fk:=aU vq;have z21:=fD vq;refine ((hl▸vL (h6.ext fk).c.e h.ok au n (x,y,z))).bf λdh fX=> ?_
  have z22:=fX.size;refine ⟨_,_,_,_,_,_,_,rfl,fX.k,fX.k,λpw e30=>⟨rfl,?_,rfl,_,rfl,?_⟩⟩
  ·exact Ext.af (fk.tr fX) e30 (ak _)
  ·rw [e30];exact Row.set ((show Row di w5.drew.heap.size _ _ by rw [vq];exact Row.new _ [_,_,_,_,_,_] _).ext fX) _
 ·rintro us e p v ⟨xv,rfl,b,rfl,hr⟩;have hv:=hr.ext (Ext.dr v);have lr:∀{u:World},Ext v.drew u->∀j:Nat,∀a,[vI l.1.1.1,l.1.1.2.1,l.1.1.2.2,l.1.2.1,l.1.2.2.1,l.1.2.2.2][j]? =some a->Vc.ld u (jM b j)=some a:=λxu j a ha=>by rw [(hv.ext xu).ld];exact ha
  have zv:=xv.size;have dv:v.drew.heap.size=v.heap.size:=rfl;have lL:∀{u:World},Ext v.drew u->∀j:Nat,∀a,[vI l.1.1.1,l.1.1.2.1,l.1.1.2.2,l.1.2.1,l.1.2.2.1,l.1.2.2.2][j]? =some a->ah u (jM b j) 0 [a]:=λxu j a ha=>(hv.ext xu).bH (o:=j) (vs:=[a]) (λi hi=>by simp at hi;subst hi;simpa using ha)
  simp only [aF];refine cA.2 ⟨rfl,_,lr (Ext.bT _) 3 _ rfl,cA.2 ⟨rfl,cA.2 ⟨rfl,_,lr (Ext.bT _) 0 _ rfl,cA.2 ⟨rfl,cA.2 ⟨rfl,_,lr (Ext.bT _) 1 _ rfl,cA.2 ⟨rfl,cA.2 ⟨rfl,_,lr (Ext.bT _) 2 _ rfl,cA.2 ⟨rfl,_,lr (Ext.bT _) 4 _ rfl,cA.2 ⟨rfl,_,lr (Ext.bT _) 5 _ rfl,(kl _ v.drew).bf λkO kA=> ?_⟩⟩⟩⟩⟩⟩⟩⟩⟩;have z41:=kA.size;have nb:u2.heap.size<v.heap.size:=by omega
  refine ⟨_,rfl,kA.k,lL kA 5 _ rfl,lL kA 4 _ rfl,lL kA 2 _ rfl,lL kA 1 _ rfl,lL kA 0 _ rfl,λiO Yn=> ?_⟩;have vU:=kA.aZ Yn;obtain ⟨⟨i1,i2,i3⟩,i4,i5⟩:=px;have nR:∀t ∈ Rq l.1,t.size<=1000:=λt ht=>by have a0:=yi l.1.2.1;have a1:=cF i1;have a2:=cF i2;have a3:=cF i3;have a4:=cF i4;have a5:=cF i5;unfold Rq at ht;simp only [cu,iT,or_false] at ht;rcases ht with rfl|rfl|rfl|rfl|rfl|rfl<;>omega
  have hT:∀{u:World},Ext v.drew u->lP u:=λxu=>h.t _ ((h6.m.mono λi _ hi=> .inr hi).trans (Mod.aq ((xv.tr (Ext.dr v)).tr xu)))
  refine (Ur her (xs:=[.iface 9 (.string _),.iface 3 (vI _),.iface 3 (vI _),.iface 3 (vI _),.iface 3 (vI _),.iface 3 (vI _)]) Yn (txs:=Rq l.1) rfl bo (λ_ u xu=>all_cons (.s _) (all_cons (gP (hT (vU.tr xu)) i1) (all_cons (gP (hT (vU.tr xu)) i2) (all_cons (gP (hT (vU.tr xu)) i3) (all_cons (gP (hT (vU.tr xu)) i4) (all_cons (gP (hT (vU.tr xu)) i5) all_nil)))))) nR).bf λkf qE=> ?_
  have xx:=vU.tr qE;refine ⟨_,rfl,qE.heap (by rw [Yn];simp;omega),lL xx 5 _ rfl,lL xx 4 _ rfl,lL xx 2 _ rfl,lL xx 1 _ rfl,lL xx 0 _ rfl,?_⟩;refine h6.same ?_ ((xv.tr (Ext.dr v)).tr xx);split
  ·exact iL nR (by simp [Rq])
  ·exact fi _
end
section
variable {k:Nat} {w w0:World} {F:Nat->Prop} {sh g s o t B ga:Nat} {M:Sm} {occ:Value} {L:Lv} {ws:List ByteArray} {R:eWp}
def akI(M:Sm)(L:Lv)(ws:List ByteArray):Option Out:=(gz ws).bind λn=>(ks n.2).bind λ_=>(adV (decide (n.1>=1) && decide (n.1<=100))).bind λ_=>
 some (eI [bI (fJ n.1.toNat M L).1,bI (fJ n.1.toNat M L).2.1.now],(fJ n.1.toNat M L).2.1,(fJ n.1.toNat M L).2.2)
def PK(h:Mc k w F sh g s o t B ga M occ L ws):ab 109 #[sh,ga] w (MR k w ga F g s o t (akI M L ws)):=by
 apply Ck.vc;refine (h.at _).num λn r u _ m1 h1=>h1.fin λ_ h2=>Br.mk (λc=> ?_) (λc=> ?_)
 ·have c1:1<=n:=of_decide_eq_true c;refine h2.amt (b:=decide (n<=100)) (by rw [c];rfl) λhb h3=> ?_
  have c2:n<=100:=of_decide_eq_true hb;have hk:=h.z;have hsh:=h3.c.r.row;have fK:=hsh.lt;have shell:∀{v:World},Mod F u v->Vc.ld v (ae (aB sh) 0)=some (.pointer (aB g)):=λm=>by rw [aF,(hsh.same (m.same sh fK h.q)).ld];rfl
  refine ⟨λm x y v=>∃j:Nat,x=j/\y=(fJ j M L).1/\(j:Int)+m=n/\∃occ',dK F u g s o t (fJ j M L).2.1 occ' (fJ j M L).2.2 v,⟨n.toNat,0,rfl,rfl,aa,occ,h3.c.e.res (Ext.bT _)⟩,?_⟩;rintro m us x y v ⟨j,rfl,rfl,hj,occ',hr⟩;obtain ⟨hJ,ht1,ht2⟩:=h.i.ak6 j;obtain ⟨F',hE,ht⟩:=id hr;have hs:qB (fJ j M L).2.1 600000000:=hJ.s.mono aa;apply Br.mk<;>intro c
  ·have c:(j:Int)<n:=of_decide_eq_true c;refine ⟨_,shell hr.mod,(Kg hE hJ.b.ok au au hJ.n.due hs hJ.u).mono ?_⟩;rintro _ bN ⟨rfl,jT,-⟩;have hl:=EZ (q:=(fJ j M L).2.1.q) (now:=qC (fJ j M L).2.1) hJ.u;have TE:(uO (fJ j M L).2.1).length<=64:=hl;refine ⟨_,rfl,m-1,aa,j+1,by rw [wI];omega,?_,aa,_,dK.tr ht jT⟩;rw [wI];rfl
  ·have c:¬(j:Int)<n:=of_decide_eq_false c;have hj0:n.toNat=j:=by omega
   obtain ⟨Fs,hS,Eu,-,-⟩:=hE.EN;refine ⟨_,shell hr.mod,cA.2 ⟨rfl,cA.2 ⟨rfl,aB s,Eu,(Cz hS).eL ?_⟩⟩⟩;have i1:cH (fJ j M L).1:=by unfold cH;omega
   have i2:cH (fJ j M L).2.1.now:=by have:=hs.now;unfold cH;omega
   have s1:=cF i1;have s2:=cF i2;have nR:∀t ∈ [bI (fJ j M L).1,bI (fJ j M L).2.1.now],t.size<=1000:=λt ht=>by simp only [cu,iT,or_false] at ht;rcases ht with rfl|rfl<;>omega
   refine ⟨_,rfl,λdA Ot=> ?_⟩;have hT:lP dA:=h.t _ (((h3.m.mono λi _ hi=> .inr hi).trans (hr.mod.mono λi _ hi=> .inl hi)).trans (Mod.aq (aU Ot)));refine (mZ (xs:=[.iface 3 (vI _),.iface 3 (vI _)]) Ot (txs:=[bI (fJ j M L).1,bI (fJ j M L).2.1.now]) rfl bo (all_cons (gP hT i1) (all_cons (gP hT i2) all_nil)) nR).bf λfm dQ=> ?_
   refine ⟨_,rfl,?_⟩;have h4:=h3;simp only [hj0] at h4;exact h4.TL (iL nR bo) (hJ.inv aa) hr ((aU Ot).tr dQ)
 ·exact h2.amt (b:=false) (by rw [c];rfl) λhb=>by cases hb
def jP(ws:List ByteArray):Option Out:=(kI ws).bind λv=>(ks v.2).bind λ_=>some (ByteArray.mk #[111,107],FO v.1.1 v.1.2.1 200000 v.1.2.2,OT)
def anp(room:Int):KR (T9 room):=λx hx=>by rcases hx with hx|hx<;>cases hx
def Inv.new(a b c:Int)(k:Nat):Inv k (FO a b 200000 c) OT:=
 ⟨λy hy=>(by cases (Pd.1 hy).2),⟨⟨jI 0,by simp only;omega⟩,eG _,⟨jI 0,(by show (0:Int)<=1099511627776;decide)⟩,eG _⟩,⟨⟨λe he=>(by cases he),eG _,anp _⟩,λx hx=>(by cases hx),jI 0,(by show (0:Int)<=1099511627776;decide)⟩,by show 1<=min (max c 1) 64/\min (max c 1) 64<=64;omega⟩
def YV(h:Mc k w F sh g s o t B ga M occ L ws)(hw:jP ws=none):ab 86 #[sh,ga] w λe u=>e=Io/\Mod (λi=>i=ga) w u:=by
 have key:ab 86 #[sh,ga] w (MR k w ga F g s o t ((gz ws).bind λa=>(gz a.2).bind λb=>(gz b.2).bind λc=>(ks c.2).bind λ_=>none)):=by
  apply qi.vc;refine (h.at _).num λa r u h1 m1 q1=>q1.num λb r2 u2 h2 m2 q2=>q2.num λc r3 u3 h3 m3 q3=>q3.fin λhr q4=> ?_
  exfalso;unfold jP kI at hw;simp only [h1,h2,h3,hr] at hw
  cases hw
 refine key.mono λe u hr=> ?_
 generalize hp:((gz ws).bind λa=>(gz a.2).bind λb=>(gz b.2).bind λc=>(ks c.2).bind λ_=>(none:Option Out))=p at hr;have:p=none:=by
  rw [<-hp]
  cases gz ws with
  |none=>rfl
  |some a=>
   show (gz a.2).bind _=none
   cases gz a.2 with
   |none=>rfl
   |some b=>
    show (gz b.2).bind _=none
    cases gz b.2 with
    |none=>rfl
    |some c=>
     show (ks c.2).bind _=none
     cases ks c.2<;>rfl
 subst this;exact hr
end
section
variable {k:Nat} {w w0 u u':World} {F:Nat->Prop} {sh g s o t B ga:Nat} {M:Sm} {occ:Value} {L:Lv} {ws r:List ByteArray} {line c:ByteArray} {T:ByteArray}
def aqL(h:EF F w g s o t M occ L):∃F1,TF F1 w t M.aj M.cap M.T/\∀{w':World} {T':Tb},Fy F1 w t M.aj M.cap T' w'->dK F w g s o t {M with T:=T'} occ L w':=by obtain ⟨Fw,hW,bq⟩:=h.world;obtain ⟨F1,hT,-,hrt⟩:=hW.table;exact ⟨F1,hT,λhr=>bq (hrt hr)⟩
def L3(h:EF F w g s o t M occ L)(hW:M.T.1.l.length<=1000000)(p:Po):
  ab 89 #[t,pv p] w λe w'=>e=vI (oa M.T.1 M.T.2 p).2/\dK F w g s o t {M with T:=(oa M.T.1 M.T.2 p).1} occ L w':=by
 obtain ⟨F1,hT,bq⟩:=aqL h;exact (IJ hT hW p).mono λe w' hh=>⟨hh.1,bq hh.2⟩
def JQ(h:EF F w g s o t M occ L)(hp:∀y ∈ M.T.2,-1000000000<=y.2.2.2/\y.2.2.2<=1000000000)(p:Po):
  (ab 91 #[t,pv p] w λe w'=>e=vI (zq M.T.2 p).2/\dK F w g s o t {M with T:=(M.T.1,(zq M.T.2 p).1)} occ L w')/\
  ab 92 #[t,pv p] w λe w'=>e=vI (kY M.T.2 p).2/\dK F w g s o t {M with T:=(M.T.1,(kY M.T.2 p).1)} occ L w':=by
 obtain ⟨F1,hT,bq⟩:=aqL h;obtain ⟨st,d,r,sl,its,g1,e,rfl⟩:=hT;have hp':∀y ∈ its,-1000000000<=y.pins/\y.pins<=1000000000:=λy hy=>hp y.ob (by rw [<-e];exact bc.2 ⟨y,hy,rfl⟩)
 rw [<-e];exact ⟨(ac7 g1 hp' p).mono λe w' hh=>⟨hh.1,bq (wK hh.2)⟩,(Ue g1 hp' p).mono λe w' hh=>⟨hh.1,bq (wK hh.2)⟩⟩
def amc(j:Nat)(M:Sm)(p:Po):Int × Sm:=match j with
 |0=>((yO M.aj M.cap M.T.1 M.T.2 p).2,{M with T:=(yO M.aj M.cap M.T.1 M.T.2 p).1})
 |1=>((oa M.T.1 M.T.2 p).2,{M with T:=(oa M.T.1 M.T.2 p).1})
 |2=>((TK M.T.1 M.T.2 p).2,{M with T:=(TK M.T.1 M.T.2 p).1})
 |3=>((zq M.T.2 p).2,{M with T:=(M.T.1,(zq M.T.2 p).1)})
 |_=>((kY M.T.2 p).2,{M with T:=(M.T.1,(kY M.T.2 p).1)})
def YT(j:Nat)(M:Sm)(L:Lv)(r:List ByteArray):Option Out:=match xC r with|some (p,[])=>some (iX (amc j M p).1,(amc j M p).2,L)|_=>none
def uE(hl:line.size<=4294967296)(hw:cT line=c::r)(j:Nat)(hj:j<5)(hi:uF[j+1]? =some c):kH k line M L ((YT j M L r).getD (kZ,M,L)):=by
 refine kH.tbl hl hw j hj hi (amc j M) λ{w F g s o t occ} h hI hk p=> ?_
 have hd:=hI.d hk;have hT:=hI.n.1;have ht:∀{T'},nI k (20*k+1) T'->Inv (k+1) {M with T:=T'} L:=λq=>hI.tab (q.mono aa aa)
 have hp:∀y ∈ M.T.2,-1000000000<=y.2.2.2/\y.2.2.2<=1000000000:=λy hy=>by obtain ⟨-,q1,q2⟩:=hT.e y hy;omega
 have:j=0\/j=1\/j=2\/j=3\/j=4:=by omega
 rcases this with rfl|rfl|rfl|rfl|rfl
 ·exact ⟨ahS ..,ht (hT.load (D:=M.T.1) (l:=M.T.2) p),bR (by kernel_rfl) rfl (FM h aa p)⟩
 ·exact ⟨YU ..,ht (hT.ame (D:=M.T.1) (l:=M.T.2) p),bR (by kernel_rfl) rfl (L3 h aa p)⟩
 ·exact ⟨ac8 ..,ht (hT.flush (D:=M.T.1) (l:=M.T.2) p),bR (by kernel_rfl) rfl (PD h aa p)⟩
 ·exact ⟨(ac9 ..).1,hI.tab ((hT.pin (D:=M.T.1) (l:=M.T.2) p).mono aa aa),bR (by kernel_rfl) rfl (JQ h hp p).1⟩
 ·exact ⟨(ac9 ..).2,hI.tab ((hT.aqM (D:=M.T.1) (l:=M.T.2) p).mono aa aa),bR (by kernel_rfl) rfl (JQ h hp p).2⟩
def Uf(hl:line.size<=4294967296)(hw:cT line=ByteArray.mk #[119,111,114,108,100]::r):kH k line M L ((jP r).getD (kZ,M,L)):=by
 intro w0 w F sh g s o t occ hk hT hx hF0 hsh0 h hs hF hI;have lE:=hs.row.lt;have hz:=hx.size;have nR:((jP r).getD (kZ,M,L)).1.size<=1000000:=by
  cases hq:jP r with
  |none=>show kZ.size<=1000000;decide
  |some x=>
   unfold jP at hq
   cases h1:kI r with
   |none=>rw [h1] at hq;cases hq
   |some v=>
    rw [h1] at hq
    cases h2:ks v.2 with
    |none=>simp only [Option.bind_some,h2] at hq;cases hq
    |some _=>simp only [Option.bind_some,h2] at hq;cases hq;show (ByteArray.mk #[111,107]).size<=1000000;decide
 refine (JR h hs line hl hw 0 86 rfl (λ_ _ _ _ _=>rfl) (λargs w=>j5 Tryz.func86 (by kernel_rfl) rfl args w)
  (λtx u=>tx=((jP r).getD (kZ,M,L)).1/\∃g' s' o' t' occ' F',EF F' u g' s' o' t' ((jP r).getD (kZ,M,L)).2.1 occ' ((jP r).getD (kZ,M,L)).2.2/\FN u sh g'/\¬F' sh/\Mod (λi=>F i\/i=sh) w u/\(∀i,F' i->F i\/w.heap.size<i)/\Inv (k+1) ((jP r).getD (kZ,M,L)).2.1 ((jP r).getD (kZ,M,L)).2.2) ?_ ?_).mono ?_
 ·rintro t' v v' ⟨rfl,g',s',o',t',occ',F',hE,hS,hn,hm,dP,hI'⟩ hm';have nF:¬F' w:=λq=>(dP _ q).elim (λq=>by have:=h.lt q;omega) (λq=>by omega)
  exact ⟨rfl,g',s',o',t',occ',F',hE.same λi hi=>hm'.same i (hE.lt hi) (λq=>nF (q▸hi)),⟨hS.row.same (hm'.same sh hS.row.lt aa)⟩,hn,hm.tr hm' (λi hi=> .inr aa),dP,hI'⟩
 ·intro v B ga xv DA hga;have hgl:=DA.lt;have hle:=DA.le;have hFga:¬F ga:=λq=>by have:=h.lt q;omega
  have hzv:=xv.size;have hc:Mc k v F sh g s o t B ga M occ L r:=⟨h.ext xv,⟨hs.row.ext xv⟩,DA,hFga,aa,hI,λu m=>W4 hT (hx.tr xv) m λi hi=>hi.elim (hF0 i) (λq=>by omega),hk,hF⟩
  cases hq:jP r with
  |none=>
   refine (YV hc hq).bf λv' m=> ?_
   refine ⟨m.same _ aa aa,.inr ⟨rfl,rfl,g,s,o,t,occ,F,hc.ef m,⟨hc.r.row.same (m.same sh hc.r.row.lt aa)⟩,hF,(Mod.aq xv).tr m (λi hi=> .inr aa),λi hi=> .inl hi,hI.up⟩⟩
  |some x=>
   have hp:∃a b c,kI r=some ((a,b,c),[])/\x=(ByteArray.mk #[111,107],FO a b 200000 c,OT):=by
    unfold jP at hq
    cases h1:kI r with
    |none=>rw [h1] at hq;cases hq
    |some y=>
     obtain ⟨⟨a,b,c⟩,r'⟩:=y;rw [h1] at hq;by_cases h2:r'=[]
     ·subst h2
      cases hq
      exact ⟨a,b,c,rfl,rfl⟩
     ·have:ks r'=none:=by unfold ks;rw [if_neg h2]
      simp only [Option.bind_some,this] at hq
      cases hq
   obtain ⟨a,b,c,hp,rfl⟩:=hp;refine (L4 (w:=v) ⟨hs.row.ext xv⟩ DA aa hp).mono ?_;rintro e v' ⟨rfl,hm,g',s',o',t',F',hE,hS,hF'⟩;exact ⟨hm.same _ aa aa,.inl ⟨_,rfl,rfl,g',s',o',t',PE,F',hE,hS,λq=>by have:=hF' _ q;omega,(Mod.aq xv).tr hm (λi hi=>by rcases hi with hi|hi;exact .inr aa;exact .inl (.inr hi)),λi hi=> .inr (by have:=hF' i hi;omega),Inv.new a b c _⟩⟩
 ·rintro e w' ⟨t',rfl,rfl,g',s',o',t',occ',F',hE,hS,hn,hm,dP,hI'⟩;exact ⟨rfl,nR,g',s',o',t',occ',F',hE,hS,hn,hm,λi hi=>(dP i hi).imp id (λq=>by omega),hI'⟩
noncomputable def amf(i:Nat)(M:Sm)(L:Lv)(r:List ByteArray):Option Out:=match i with
 |0=>jP r
 |1=>YT 0 M L r
 |2=>YT 1 M L r
 |3=>YT 2 M L r
 |4=>YT 3 M L r
 |5=>YT 4 M L r
 |6=>JS M L r
 |7=>akz M L r
 |8=>ada M r
 |9=>akA M L r
 |10=>adb M L r
 |11=>akB M L r
 |12=>akC M L r
 |13=>ade M L r
 |14=>akD M L r
 |15=>adf M L r
 |16=>akE M L r
 |17=>YX M L r
 |18=>aqN M L r
 |19=>akF M L r
 |20=>akG M L r
 |21=>akH M L r
 |22=>akI M L r
 |_=>none
def adg(hl:line.size<=4294967296)(hw:cT line=c::r){i:Nat}(hi:uF[i]? =some c):kH k line M L ((amf i M L r).getD (kZ,M,L)):=by
 match i with
 |0=>cases hi;exact Uf hl hw
 |1=>exact uE hl hw 0 au hi
 |2=>exact uE hl hw 1 au hi
 |3=>exact uE hl hw 2 au hi
 |4=>exact uE hl hw 3 au hi
 |5=>exact uE hl hw 4 au hi
 |6=>exact kH.uG hl hw 6 93 hi Tryz.func93 DH
 |7=>exact kH.uG hl hw 7 94 hi Tryz.func94 L5
 |8=>exact kH.uG hl hw 8 95 hi Tryz.func95 IK
 |9=>exact kH.uG hl hw 9 96 hi Tryz.func96 PF
 |10=>exact kH.uG hl hw 10 97 hi Tryz.func97 L7
 |11=>exact kH.uG hl hw 11 98 hi Tryz.func98 PG
 |12=>exact kH.uG hl hw 12 99 hi Tryz.func99 PH
 |13=>exact kH.uG hl hw 13 100 hi Tryz.func100 L8
 |14=>exact kH.uG hl hw 14 101 hi Tryz.func101 L9
 |15=>exact kH.uG hl hw 15 102 hi Tryz.func102 Ma
 |16=>exact kH.uG hl hw 16 103 hi Tryz.func103 PI
 |17=>exact kH.uG hl hw 17 104 hi Tryz.func104 Ug
 |18=>exact kH.uG hl hw 18 105 hi Tryz.func105 Uh
 |19=>exact kH.uG hl hw 19 106 hi Tryz.func106 PJ
 |20=>exact kH.uG hl hw 20 107 hi Tryz.func107 Mb
 |21=>exact kH.uG hl hw 21 108 hi Tryz.func108 Md
 |22=>exact kH.uG hl hw 22 109 hi Tryz.func109 PK
 |n+23=>exact absurd hi (by simp [uF])
open Classical in
noncomputable def uH(M:Sm)(L:Lv)(ws:List ByteArray):Out:=match ws with
 | []=>(ByteArray.mk #[],M,L)
 |c::r=>(if h:∃i:Nat,uF[i]? =some c then amf (Classical.choose h) M L r else none).getD (kZ,M,L)
def YY(k:Nat)(M:Sm)(L:Lv)(hl:line.size<=4294967296):kH k line M L (uH M L (cT line)):=by
 cases hw:cT line with
 |nil=>
  have:=kH.Io (k:=k) (M:=M) (L:=L) hl λc r q=>by rw [hw] at q;cases q
  rw [hw,if_pos rfl] at this;exact this
 |cons c r=>
  unfold uH;simp only;split
  ·rename_i h;exact adg hl hw (Classical.choose_spec h)
  ·rename_i h;have:=kH.Io (k:=k) (M:=M) (L:=L) hl λc' r' q=>by
    rw [hw] at q
    cases q
    exact λq=>h (JT.1 q)
   rw [hw,if_neg bo] at this;exact this
def YZ{i:Nat}(hi:uF[i]? =some c):uH M L (c::r)=(amf i M L r).getD (kZ,M,L):=by have h:∃i:Nat,uF[i]? =some c:=⟨i,hi⟩;unfold uH;simp only;rw [dif_pos h];have e:Classical.choose h=i:=(List.getElem?_inj (cG.1 (Classical.choose_spec h)).1 l8).1 ((Classical.choose_spec h).trans hi.symm);rw [e]
end
variable {R:eWp} {w:World}
section
variable {k:Nat} {w0 w u u':World} {A:List Nat} {sh:Nat} {M:Sm} {occ:Value} {L:Lv} {ln:ByteArray}
def Nx(k:Nat)(w0:World)(A:List Nat)(sh:Nat)(M:Sm)(L:Lv)(u:World):Prop:=(∃occ,ad6 w0 A sh M occ L u)/\Inv k M L
def Nx.line(h:Nx k w0 A sh M L u)(hk:k<=1000)(hT:lP w0)(hl:ln.size<=4294967296):
  ab 14 #[sh,.string ln] u λe u'=>e=Value.string (uH M L (cT ln)).1/\(uH M L (cT ln)).1.size<=1000000/\Nx (k+1) w0 A sh (uH M L (cT ln)).2.1 (uH M L (cT ln)).2.2 u'/\KpA A u u':=by
 obtain ⟨⟨occ,h1,h0,g,s,o,t,F,h2,h3,h4,h5,h6⟩,hI⟩:=h;refine (YY k M L hl w0 u F sh g s o t occ hk hT h1 (λi hi=>(h6 i hi).1) h5 h2 h3 h4 hI).mono ?_;rintro _ u' ⟨rfl,hz,g',s',o',t',occ',F',hE,hS,hn,hm,dP,hI'⟩;have hzz:=h1.size;refine ⟨rfl,hz,⟨⟨occ',hm.ext h1 (λi hi=>hi.elim (λq=>(h6 i q).1) (λq=>by omega)),λi hi=>⟨gK (h0 i hi).1 hm.size,(h0 i hi).2⟩,g',s',o',t',F',hE,hS,hn,h5,λi hi=>(dP i hi).elim (h6 i) λq=>⟨aa,λhA=>by have:=(h0 i hA).1;omega⟩⟩,hI'⟩,λi hi=>hm.same i (h0 i hi).1 λq=>q.elim (λq=>(h6 i q).2 hi) (h0 i hi).2⟩
def Nx.ext(h:Nx k w0 A sh M L u)(x:Ext u u'):Nx k w0 A sh M L u':=⟨⟨_,(h.1.choose_spec.ext x).1⟩,h.2⟩
def Nx.x(h:Nx k w0 A sh M L u):Ext w0 u:=h.1.choose_spec.1
def amz(w:World)(k:Nat):ab 26 #[] w λe w'=>∃sh,e=Value.pointer (aB sh)/\Nx k w [] sh (FO 1 9 200000 16) OT w':=
 (ad7 w).mono λe w' ⟨sh,he,h⟩=>⟨sh,he,⟨_,h⟩,Inv.new _ _ _ _⟩
end
def ajk(n:Int):ByteArray:=⟨(vX 15 n).toArray⟩
def abp{n:Int}(h:n.natAbs<10 ^ 15):(ajk n).size<=100:=by have h1:=Pn h;have e:=jQ (ajk n);have:(bl (ajk n)).length=(vX 15 n).length:=rfl;omega
def abq{n:Int}(h:n.natAbs<10 ^ 15)(w:World):ed 13 #[n] w (Value.string (ajk n)):=Lt 14 n w au h inO
def yj{F:Nat->Prop}{w:World}{g s o t:Nat}{M:Sm}{occ:Value}{L:lCs}(h:EF F w g s o t M occ L):kh 23 #[g] w true:=by apply aat.vc;obtain ⟨Fs,hS,Eu,-,-⟩:=h.EN;obtain ⟨Fw,hW,-,-⟩:=hS.world;refine ⟨_,Eu,(cZ hS).eL ?_⟩;refine ⟨_,rfl,uN rfl ((BS h).eL ?_)⟩;refine ⟨_,rfl,uN rfl ⟨_,Eu,(cZ hS).eL ?_⟩⟩;refine ⟨_,rfl,(lZ hW).eL ?_⟩;refine ⟨_,rfl,bO.2 ⟨by simp [fnC],yes rfl ⟨_,Eu,(cZ hS).eL ?_⟩⟩⟩;refine ⟨_,rfl,(gx hW).eL ?_⟩;exact ⟨_,rfl,rfl,rfl⟩
def u7{w:World}{sh g:Nat}(h:FN w sh g):kh 24 #[sh] w (Value.pointer (aB g)):=by apply yc.vc;exact ⟨_,by rw [aF,h.row.ld];rfl,rfl,rfl⟩
variable {R:eWp} {w:World} {a0 a1:Int}
def IH.vc{a1:Sl}(h:
 ab 10 #[a0] w (nH λp1 w0=>(λAa=>Br (p1).isNone
 (R false w0)
 (rP (λI2 n3=>I2 n3 (0) w0) λI2 n3 us4 x5 w6=>
 Br (decide (x5<((a1.n:Nat):Int)))
 (Br (x5<30)
 (gD a1.a x5 a1.n/\∃(t8:ByteArray),ld w6 (ae a1.a ((x5:Int).toNat*1))=some (.string t8)/\
 ab 20 #[.string t8,(60:Int)] w6 (lu λt10 w9=>ab 14 #[p1,.string t10] w9 (lu λt12 bE=>ab 24 #[p1] bE (nH λBm bw=>ab 23 #[Bm] bw (yM λb16 c9=>Br (!b16)
 (R false c9)
 (aO (eE Bm) (aO (eE Bm) (eO c9 (ae Bm 0) λp17=>
 ab 39 #[p17] c9 (nH λp19 dA=>ab 40 #[p19] dA (nH λp21 eQ=>ab 41 #[Bm] eQ (rA λYk dh=>ab 42 #[p21] dh (rA λs25 ie=>ab 43 #[p21] ie (fw λjl kN=>Br (decide ((((s25.n:Nat):Int):Int)>jl))
 (R false kN)
 (ab 43 #[p21] kN (fw λkz iZ=>Br (kz>16)
 (R false iZ)
 (Br (decide ((((Yk.n:Nat):Int):Int)>16))
 (R false iZ)
 (ab 44 #[Bm] iZ (nH λp31 pw=>ab 45 #[p31] pw (fw λgA sY=>Br (gA>1099511627776)
 (R false sY)
 (ab 44 #[Bm] sY (nH λp35 ke=>ab 46 #[p35] ke (rA λs37 mG=>Br (decide ((((s37.n:Nat):Int):Int)>4096))
 (R false mG)
 (rP (λI38 n39=>I38 n39 (0) mG) λI38 n39 ary kA nS=>
 Br (decide (kA<((Yk.n:Nat):Int)))
 (gD Yk.a kA Yk.n/\jr nS (ae Yk.a ((kA:Int).toNat*1)) λqE=>
 ab 47 #[Bm,qE] nS (λe ue=>∃(oq A9 Es Jp Ba vp tG lU:Int)(b54 b55:Bool),e=Value.tuple #[.agg #[oq,A9,Es,Jp,Ba,vp,tG,lU,b54],b55]/\
 Aw ue #[ai,ai,ai,ai,ai,ai,ai,ai,false] 75 λyC=>
 Sw yC ue #[oq,A9,Es,Jp,Ba,vp,tG,lU,b54] λnv=>
 Br (!b55)
 (R false nv)
 (ab 48 #[.agg #[oq,A9,Es,Jp,Ba,vp,tG,lU,b54]] nv (Rb λb59 vQ=>Kp ue nv vQ/\
 Br (!b59)
 (R false vQ)
 (ab 49 #[.agg #[oq,A9,Es,Jp,Ba,vp,tG,lU,b54]] vQ (Rb λb61 lV=>Kp ue vQ lV/\
 Br (!b61)
 (R false lV)
 (∃n43,n43<n39/\I38 n43 ((aC (kA+1))) lV)))))))
 (∃n7,n7<n3/\I2 n7 ((aC (x5+1))) nS))))))))))))))))))))))))
 (ab 14 Aa w6 (lu λt63 jU=>ab 24 #[p1] jU (nH λp65 H4=>ab 23 #[p65] H4 (yM λb67 vR=>Br (!b67)
 (R false vR)
 (ab 50 #[p65] vR (fw λyD E8=>Br (yD<=8)
 (ab 19 #[] E8 (yM λb71 wu=>R b71 wu))
 (R false E8))))))))
 (ab 14 Aa w6 (lu λt73 w72=>ab 24 #[p1] w72 (nH λp75 CE=>ab 23 #[p75] CE (yM λb77 pB=>Br (!b77)
 (R false pB)
 (ab 50 #[p75] pB (fw λYl uf=>Br (Yl<=8)
 (ab 19 #[] uf (yM λb81 H5=>R b81 H5))
 (R false uf))))))))) #[p1,.string (ByteArray.mk #[119,111,114,108,100,32,49,32,57,32,56])])):ab 9 #[a0,a1] w R:=
 cq ⟨[(16,⟨[(10,.int .i64)],[],[]⟩),(5,⟨[(6,.int .i64)],[],[]⟩)],[],[]⟩ func9 h
def YQ.vc{a0:Addr}(h:
 jr w (ae (some a0) 2) λx0=>
 R x0 w):ab 43 #[a0] w R:=
 cq bz func43 h
def V4{w:World}{m:Int}(hm:w.cell? ⟨0,0,none⟩=some (vI m)):ed 19 #[] w true:=by
 apply aaX.vc;refine (aaj hm).bf λw0 x0=> ?_
 exact ⟨_,rfl,by kernel_rfl,x0⟩
def V6(v:Ce)(i:Int)(w:World):ed 136 #[fQ v,i] w (vI (dj v i)):=by
 apply V5.vc;intro w0 e0;have x0:=aU e0;unfold dj;refine Br.mk (λh=> ?_) (λh=>Br.mk (λh2=> ?_) (λh2=>Br.mk (λh3=> ?_) (λh3=> ?_)))
 ·rw [if_pos (by simpa using h)];exact ⟨rfl,x0⟩
 ·rw [if_neg (by simpa using h),if_pos (by simpa using h2)];exact ⟨rfl,x0⟩
 ·rw [if_neg (by simpa using h),if_neg (by simpa using h2),if_pos (by simpa using h3)];exact ⟨rfl,x0⟩
 ·rw [if_neg (by simpa using h),if_neg (by simpa using h2),if_neg (by simpa using h3)];exact ⟨rfl,x0⟩
def HX(v:Ce)(m:Int):within v m=(List.range 3).all λi=>decide (-m<=dj v i) && decide (dj v i<=m):=by
 have e0:dj v ((0:Nat):Int)=v.1:=rfl;have e1:dj v ((1:Nat):Int)=v.2.1:=rfl;have e2:dj v ((2:Nat):Int)=v.2.2:=rfl;have:(List.range 3).all (λi=>decide (-m<=dj v i) && decide (dj v i<=m))=((decide (-m<=v.1) && decide (v.1<=m)) &&((decide (-m<=v.2.1) && decide (v.2.1<=m)) &&(decide (-m<=v.2.2) && decide (v.2.2<=m)))):=by rw [<-e0,<-e1,<-e2];simp [Ki]
 rw [this];unfold within;rw [Bool.eq_iff_iff];simp only [fF,cC];omega
def xi(v:Ce)(m:Int)(hm:0<=m/\m<=140737488355328)(w:World):ed 78 #[fQ v,m] w (Value.bool (within v m)):=by
 apply Ol.vc;intro w0 e0;have x0:=aU e0;have z0:=zA e0;have hw:aC (0-m)= -m:=by rw [wI];omega
 refine ⟨λn x wr=>∃k:Nat,x=k/\k+n=3/\Ext w0 wr/\∀j,j<k-> -m<=dj v (j:Nat)/\dj v (j:Nat)<=m,⟨3,rfl,0,rfl,rfl,Ext.bT _,λj hj=>by omega⟩,?_⟩;rintro n us x w5 ⟨k,rfl,hk,x5,wo⟩;have z5:=x5.size;apply Br.mk<;>intro hq
 ·have hq:=eK hq;refine (V6 v k w5).bf λw7 x7=> ?_
  have bad:¬(-m<=dj v (k:Nat)/\dj v (k:Nat)<=m)->within v m=false:=λh=>by rw [HX];refine List.all_eq_false.2 ⟨k,qc.2 aa,?_⟩;simp only [fF,cC];exact h
  refine ⟨_,rfl,x7.k,?_⟩;rw [hw];refine Br.mk (λh=> ?_) (λh=>Br.mk (λh2=> ?_) (λh2=> ?_))
  ·rw [bad (by
    have h:=eK h;omega)]
   exact ⟨rfl,x0.tr (x5.tr x7)⟩
  ·rw [bad (by
    have h2:=eK h2;omega)]
   exact ⟨rfl,x0.tr (x5.tr x7)⟩
  ·have h:=eK h;have h2:=eK h2;refine ⟨n-1,aa,rfl,k+1,by rw [wI];omega,aa,x5.tr x7,λj hj=> ?_⟩;by_cases q:j<k
   ·exact wo j q
   ·rw [show j=k from by omega];omega
 ·have hq:=eK hq;have:within v m=true:=by
   rw [HX];refine JK.2 λj hj=> ?_
   have:=wo j (by have:=qc.1 hj;omega);simp only [fF,cC];exact this
  rw [this];exact ⟨rfl,x0.tr x5⟩
def abx(b:eJ)(w:World):ed 49 #[Ip b] w (Value.bool b.may):=by
 apply abo.vc;intro w0 e0;have x0:=aU e0;have z0:=zA e0;refine (xi b.aw _ au w0).bf λw1 x1=> ?_
 have z1:=x1.size;refine ⟨_,rfl,x1.k,(xi b.speed _ au w1).bf λw3 x3=> ?_⟩;have OL:=x0.tr (x1.tr x3);refine ⟨_,rfl,x3.k,?_⟩;unfold eJ.may;generalize within b.aw 70368744177664=p;generalize within b.speed 262144=q;refine Br.mk (λh1=>Br.mk (λh2=>Br.mk (λh3=>Br.mk (λh4=>Br.mk (λh5=> ?_) (λh5=> ?_)) (λh4=> ?_)) (λh3=> ?_)) (λh2=> ?_)) (λh1=> ?_)
 ·have h3:=eK h3;have h4:=eK h4;have h5:=eK h5;rw [h1,h2,decide_eq_true (show 2<=b.wd from h3),decide_eq_true h4,decide_eq_true (show 1<=b.ht from h5)];exact ⟨bo,OL⟩
 ·have h5:=eK h5;rw [decide_eq_false (show ¬1<=b.ht from h5)];exact ⟨bo,OL⟩
 ·have h4:=eK h4;rw [decide_eq_false h4];exact ⟨bo,OL⟩
 ·have h3:=eK h3;rw [decide_eq_false (show ¬2<=b.wd from h3)];exact ⟨bo,OL⟩
 ·rw [h2];exact ⟨bo,OL⟩
 ·rw [h1];exact ⟨bo,OL⟩
def HY{F:Nat->Prop}{w:World}{t:Nat}{aj limit:Int}{T:Tb}(h:TF F w t aj limit T):kh 43 #[t] w limit:=by obtain ⟨st,d,r,sl,its,h1,e,rfl⟩:=h;apply YQ.vc;exact ⟨_,h1.rt.at 2 rfl,rfl,rfl⟩
section
variable {k:Nat} {w0 w u u':World} {A:List Nat} {sh:Nat} {M:Sm} {L:Lv} {ln:ByteArray}
def Nx.eng(h:Nx k w0 A sh M L u):∃g s o t occ F,EF F u g s o t M occ L/\FN u sh g/\Inv k M L/\∀i,F i->w0.heap.size<=i:=by obtain ⟨⟨occ,h1,h0,g,s,o,t,F,h2,h3,h4,h5,h6⟩,hI⟩:=h;exact ⟨g,s,o,t,occ,F,h2,h3,hI,λi hi=>(h6 i hi).1⟩
end
def afH(a0:Int)(ha:cH a0)(w:World)(hT:lP w):ab 10 #[a0] w λe w'=>∃sh,e=Value.pointer (aB sh)/\∃M L,Nx 6 w [] sh M L w':=by apply aaY.vc;refine (amz w 0).mono ?_;rintro _ w0 ⟨sh,rfl,N0⟩;refine ⟨_,rfl,uN rfl ((S0 a0 1000 w0 ha au inO).eL ?_)⟩;have hb:=aby a0 1000 au;generalize CD a0 1000=own at*;refine ⟨_,rfl,(abq (n:=own) aa w0).bf λw4 x4=> ?_⟩;have sd:=abp (n:=own) aa;have s1:(ByteArray.mk #[119,111,114,108,100,32]).size=6:=rfl;have s2:(ByteArray.mk #[32,57,32,56]).size=4:=rfl;refine ⟨_,rfl,le_max aa,le_max (by simp only [ByteArray.size_append];omega),((N0.ext x4).line au hT (by simp only [ByteArray.size_append];omega)).mono ?_⟩;rintro _ w6 ⟨rfl,-,N6,-⟩;refine ⟨_,rfl,(N6.line au hT au).mono ?_⟩;rintro _ w8 ⟨rfl,-,N8,-⟩;refine ⟨_,rfl,(N8.line au hT au).mono ?_⟩;rintro _ br ⟨rfl,-,N10,-⟩;refine ⟨_,rfl,(N10.line au hT au).mono ?_⟩;rintro _ bN ⟨rfl,-,N12,-⟩;refine ⟨_,rfl,(N12.line au hT au).mono ?_⟩;rintro _ cp ⟨rfl,-,N14,-⟩;refine ⟨_,rfl,(N14.line au hT au).mono ?_⟩;rintro _ bZ ⟨rfl,-,N16,-⟩;obtain ⟨g,s,o,t,occ,F,hE,hS,hI,-⟩:=N16.eng;refine ⟨_,rfl,(u7 hS).eL ?_⟩;refine ⟨_,rfl,(yj hE).eL ?_⟩;exact ⟨_,rfl,uN rfl ⟨sh,rfl,_,_,N16⟩⟩
def V7{M:Sm}{L:Lv}:uH M L (cT (ByteArray.mk #[119,111,114,108,100,32,49,32,57,32,56]))=(ByteArray.mk #[111,107],FO 1 9 200000 8,OT):=by rw [show cT (ByteArray.mk #[119,111,114,108,100,32,49,32,57,32,56])=[ByteArray.mk #[119,111,114,108,100],ByteArray.mk #[49],ByteArray.mk #[57],ByteArray.mk #[56]] by kernel_rfl,YZ (i:=0) rfl];show (jP [ByteArray.mk #[49],ByteArray.mk #[57],ByteArray.mk #[56]]).getD _=_;unfold jP;rw [show kI [ByteArray.mk #[49],ByteArray.mk #[57],ByteArray.mk #[56]]=some ((1,9,8),[]) by kernel_rfl];rfl
def afI{L:Lv}(h:kx L){n:Int}(hn:n ∈ bh L):(dJ L n).2=true/\(dJ L n).1.may=true:=by
 obtain ⟨i,rfl,-,y,hy⟩:=ux hn;unfold dJ;rw [hy];refine ⟨rfl,h y ?_⟩;unfold cE at hy;split at hy
 ·exact aQ (J6.1 hy)
 ·cases hy
def Jh{w:World}{m:Int}(hm:w.cell? ⟨0,0,none⟩=some (vI m))(hT:lP w)(a0:Int)(ha:cH a0){a1:Sl}{txs:List ByteArray}(hr:RdK w a1 1 (txs.map sv)):ed 9 #[a0,a1] w true:=by
 apply IH.vc;have hn0:a1.n=txs.length:=by rw [hr.n,aK]
 refine (afH a0 ha w hT).mono ?_;rintro _ w0 ⟨sh,rfl,M0,L0,N0⟩;refine ⟨_,rfl,Br.mk (λc=>by cases c) (λ_=> ?_)⟩;refine ⟨λn x u=>∃(k:Nat)(M:Sm)(L:Lv),x=(k:Int)/\k+n=30/\Nx (6+k) w [] sh M L u,⟨30,0,_,_,rfl,rfl,N0⟩,?_⟩;rintro n us x u ⟨k,M,L,rfl,Wb,N⟩;have hru:=hr.ext N.x;have wk:=nE (j:=k);refine Br.mk (λc=>Br.mk (λc2=> ?_) (λc2=> ?_)) (λc=> ?_)
 ·have c:=of_decide_eq_true c;have c2:=of_decide_eq_true c2;have Yv:k<txs.length:=by omega
  obtain ⟨tx,htx⟩:∃tx,txs[k]? =some tx:=⟨_,cK Yv⟩;have aBR:Vc.ld u (ae a1.a (((k:Nat):Int).toNat*1))=some (.string tx):=by have:=hru.rd k (sv tx) (by rw [aW,htx];rfl) 0 _ rfl;simpa using this
  have hfs:=ae9 tx 60;refine ⟨hru.jX (i:=(k:Int)) au aa (by rw [hn0];omega),tx,aBR,(afa tx 60 u).eL ?_⟩;refine ⟨_,rfl,(N.line (ln:=Sh tx 60) aa hT aa).mono ?_⟩;rintro _ bE ⟨rfl,-,N11,-⟩;generalize (uH M L (cT (Sh tx 60))).2.1=M1 at*;generalize (uH M L (cT (Sh tx 60))).2.2=L1 at*;obtain ⟨g,s,o,t,occ,F,hE,hS,hI,-⟩:=N11.eng;have hk6:6+k+1<=1000:=by omega
  refine ⟨_,rfl,(u7 hS).eL ?_⟩;refine ⟨_,rfl,(yj hE).eL ?_⟩;obtain ⟨Fs,hSS,Eu,-,-⟩:=hE.EN;obtain ⟨Fw,hW,-,-⟩:=hSS.world;obtain ⟨Ft,hTT,-⟩:=hW.table;have cX:=hW.len;refine ⟨_,rfl,Br.mk (λc=>by cases c) (λ_=>cA.2 ⟨rfl,cA.2 ⟨rfl,_,Eu,(cZ hSS).eL ?_⟩⟩)⟩;refine ⟨_,rfl,(gx hW).eL ?_⟩;refine ⟨_,rfl,(Cq hE).mono ?_⟩;rintro _ dh ⟨Yk,rfl,auI,fX⟩;refine ⟨Yk,rfl,(uu (hTT.ext fX)).mono ?_⟩;rintro _ ie ⟨s25,rfl,TH,jn⟩;have acf:=fX.tr jn;have aJo:Yk.n=(bh L1).length:=by rw [(ar.rd auI au).n,aK]
  have aBb:s25.n=M1.T.2.length:=by rw [(ar.rd TH au).n,aK]
  have h16:=UG L1;refine ⟨s25,rfl,(HY (hTT.ext acf)).eL ?_⟩;refine ⟨_,rfl,Br.mk (λc=>by have:=of_decide_eq_true c;omega) (λ_=>(HY (hTT.ext acf)).eL ?_)⟩;refine ⟨_,rfl,Br.mk (λc=>by have:=of_decide_eq_true c;omega) (λ_=>Br.mk (λc=>by have:=of_decide_eq_true c;omega) (λ_=>(BS (hE.ext acf)).eL ?_))⟩;have auJ:=hSS.ext acf;have ape:=hI.s.now;refine ⟨_,rfl,(Cz auJ).eL ?_⟩;refine ⟨_,rfl,Br.mk (λc=>by have:=of_decide_eq_true c;omega) (λ_=>(BS (hE.ext acf)).eL ?_)⟩;refine ⟨_,rfl,(wT auJ).mono ?_⟩;rintro _ mG ⟨s37,rfl,aBS,oP⟩;have aJp:s37.n=M1.q.l.length:=by rw [(ar.rd aBS au).n,aK]
  have hq:=hE.qok;have hq1:=hq.len;have hq2:=hq.room;have auK:=acf.tr oP;refine ⟨s37,rfl,Br.mk (λc=>by have:=of_decide_eq_true c;omega) (λ_=> ?_)⟩;have r23:=(ar.rd auI au).ext (jn.tr oP);refine ⟨λn x v=>∃j:Nat,x=(j:Int)/\j+n=(bh L1).length/\Ext mG v,⟨(bh L1).length,0,rfl,aa,Ext.bT _⟩,?_⟩;rintro n39 ary kA v ⟨j,rfl,hj,xv⟩;apply Br.mk<;>intro c3
  ·have c3:j<(bh L1).length:=by have:=of_decide_eq_true c3;omega
   obtain ⟨b,hb⟩:∃b,(bh L1)[j]? =some b:=⟨_,cK c3⟩;obtain ⟨lk,hbm⟩:=afI hI.b (aQ hb);have aBT:Vc.ld v (ae Yk.a (((j:Nat):Int).toNat*1))=some (vI b):=by have:=(r23.ext xv).rd j [vI b] (by rw [aW,hb];rfl) 0 _ rfl;simpa using this
   have xa:=auK.tr xv;refine ⟨r23.jX (i:=(j:Int)) au aa aa,b,aBT,(J7 (hE.ext xa) b).bf λue xm=> ?_⟩;refine ⟨_,_,_,_,_,_,_,_,_,_,rfl,λyC e56 nv e57=> ?_⟩;have H8:Ext v nv:=xm.tr (Ext.af (aU e56) e57 (ak _));have z57:=yL e56 e57;rw [lk];refine Br.mk (λc=>by cases c) (λ_=>(Gv (dJ L1 b).1 nv).bf λvQ Fa=> ?_);have z58:=Fa.size;rw [hbm];refine ⟨_,rfl,Fa.k,Br.mk (λc=>by cases c) (λ_=>(abx (dJ L1 b).1 vQ).bf λlV qF=> ?_)⟩;rw [hbm];exact ⟨_,rfl,qF.k,Br.mk (λc=>by cases c) (λ_=>⟨n39-1,aa,j+1,by rw [wI];omega,aa,xv.tr (H8.tr (Fa.tr qF))⟩)⟩
  ·exact ⟨n-1,aa,k+1,M1,L1,wk,aa,N11.ext (auK.tr xv)⟩
 all_goals
  have hl:=N.line (ln:=ByteArray.mk #[119,111,114,108,100,32,49,32,57,32,56]) aa hT au
  rw [V7] at hl
  refine hl.mono ?_
  rintro _ jU ⟨rfl,-,N62,-⟩
  obtain ⟨g,s,o,t,occ,F,hE,hS,hI,hF⟩:=N62.eng
  refine ⟨_,rfl,(u7 hS).eL ?_⟩
  refine ⟨_,rfl,(yj hE).eL ?_⟩
  have hJ:=hI.j
  refine ⟨_,rfl,Br.mk (λc=>by cases c) (λ_=>(Kg hE hJ.b.ok au au hJ.n.due (hJ.s.mono aa) hJ.u).mono ?_)⟩
  rintro _ E8 ⟨rfl,⟨F',hE',ht⟩,-⟩
  have vT:Ext w E8:=ht.mod.ext N62.x hF
  have hm':E8.cell? ⟨0,0,none⟩=some (vI m):=vT.ld (show Vc.ld w (some ⟨0,0,none⟩)=_ from hm)
  refine ⟨_,rfl,Br.mk (λ_=>(V4 hm').mono ?_) (λc=>absurd (show ((uO (FO 1 9 200000 8)).length:Int)<=8 by decide) (of_decide_eq_false c))⟩
  rintro _ wu ⟨rfl,CJ⟩
  exact ⟨_,rfl,rfl,vT.tr CJ⟩
end Go.Proofs.YtjcnjlaelhdjeaaGreatDoor
