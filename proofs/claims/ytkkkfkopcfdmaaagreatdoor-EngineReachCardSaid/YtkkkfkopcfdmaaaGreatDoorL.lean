import Derived.Test.YtkkkfkopcfdmaaaGreatDoorK
import Derived.Test.YtkkkfkopcfdmaaaGreatDoorC
set_option linter.all false
namespace Go.Proofs.YtkkkfkopcfdmaaaGreatDoor
open Go Go.Vc Go.RowKit Go.Proofs Go.dJ Go.bj Go.Code Go.gg Go.fR Go.jV
set_option maxRecDepth 100000
section
variable {F F':Nat->Prop} {w w':World} {m s o t:Nat} {M M':Sm} {occ:Value} {rows:List im}
def tf(M:Sm)(rows:List im)(b:ef):List im:=
 if (dn M (rows.map ai) b).2.1=0 then rows.set (oX (rows.map ai)).toNat (true,({b with gV:=jO (gy M.T.2) (iz b.box) aE},(0,0,false))) else rows
theorem AY{b:ef}:(tf M rows b).map ai=(dn M (rows.map ai) b).2.2:=by
 unfold tf;by_cases h1:b.may=false
 ·have e:dn M (rows.map ai) b=(-1,1,rows.map ai):=by unfold dn;rw [if_pos h1]
  rw [e,if_neg bB]
 by_cases h2:oX (rows.map ai)<0
 ·have e:dn M (rows.map ai) b=(-1,8,rows.map ai):=by unfold dn;rw [if_neg h1,if_pos h2]
  rw [e,if_neg bB]
 by_cases h3:nR M b=false
 ·have e:dn M (rows.map ai) b=(-1,11,rows.map ai):=by unfold dn;rw [if_neg h1,if_neg h2,if_pos h3]
  rw [e,if_neg bB]
 by_cases h4:jO (gy M.T.2) b.box aE=true
 ·have e:dn M (rows.map ai) b=(-1,12,rows.map ai):=by unfold dn;rw [if_neg h1,if_neg h2,if_neg h3,if_pos h4]
  rw [e,if_neg bB]
 have e:dn M (rows.map ai) b=(oX (rows.map ai),0,(rows.map ai).set (oX (rows.map ai)).toNat (some ({b with gV:=jO (gy M.T.2) (iz b.box) aE},(0,0,false)))):=by unfold dn;rw [if_neg h1,if_neg h2,if_neg h3,if_neg h4]
 rw [e,if_pos rfl,List.map_set];rfl
set_option maxHeartbeats 4000000 in
theorem Km(h:MF F w m s o t M occ rows)(aI:Ce)(wd ht:Int)(hw:inI wd):ah 53 #[m,dY aI,wd,ht] w λe w'=>
  e=Value.tuple #[.int .i64 (dn M (rows.map ai) (fe aI wd ht)).1,.int .i64 (dn M (rows.map ai) (fe aI wd ht)).2.1]/\kA F w m s o t M occ (tf M rows (fe aI wd ht)) w':=by
 apply xD.vc;intro w0 e0 w1 e1 w2 e2;have x0:=aL e0;have z0:=zA e0;have x2:Ext w0 w2:=(aL e1).ae e2 (aB _);have z2:w2.heap.size=w0.heap.size+1:=by rw [zR e2,zA e1]
 have r2:∃τ,Row w2 w0 (jo (fe aI wd ht)) τ:=⟨_,by rw [e2,e1];exact Row.set (Row.new w0 [_,_,_,_,_,_,_,_,_] _) [_,_,_,_,_,_,_,_,_]⟩;obtain ⟨τ,r2⟩:=r2;have yM:=x0.tr x2;obtain ⟨b,hm,hr,hn,-,hFb,-,bw⟩:=h.Ik;have ldm:∀{u:World},Ext w u->Vc.ld u (af (some ⟨m,0,none⟩) 2)=some (.slice (some ⟨b,0,none⟩) 16 16):=λxu=>(hm.ext xu).at 2 rfl
 have rk:∀{u:World},Ext w u->RdK u ⟨some ⟨b,0,none⟩,16,16⟩ 13 (rows.map jL):=λxu=>sU (hr.ext xu) hn
 have inb:∀{u:World},Ext w u->∀k:Nat,k<16->eo (some ⟨b,0,none⟩) (k:Int) 16:=λxu k hk=>(rk xu).g9 (i:=(k:Int)) aF ab (by show (k:Int)<((16:Nat):Int);omega)
 refine (TA (fe aI wd ht) w2).mono ?_;rintro e w3 ⟨rfl,x3⟩;have z3:=x3.size;have AK:=yM.tr x3;have same:∀{n q:Int},dn M (rows.map ai) (fe aI wd ht)=(n,q,rows.map ai)->q≠0->∀{u:World},Ext w u->Ending.returned (.tuple #[.int .i64 n,.int .i64 q])=Value.tuple #[.int .i64 (dn M (rows.map ai) (fe aI wd ht)).1,.int .i64 (dn M (rows.map ai) (fe aI wd ht)).2.1]/\kA F w m s o t M occ (tf M rows (fe aI wd ht)) u:=λ{n q} he hq {u} xu=>by unfold tf;rw [he];rw [if_neg hq];exact ⟨rfl,h.res xu⟩
 refine ⟨_,rfl,x3.heap ab,x3.heap ab,Br.mk (λq=> ?_) (λq=> ?_)⟩
 ·have q:(fe aI wd ht).may=false:=by simpa using q
  exact same (by unfold dn;rw [if_pos q]) aF AK
 have q:¬(fe aI wd ht).may=false:=by simpa using q
 refine ⟨λn x y wr=>∃j:Nat,x=(j:Int)-1/\j=n/\j<=16/\wr=w3/\((y= -1/\∀(i:Nat)(r:im),j<=i->rows[i]? =some r->r.1=true)\/(∃i:Nat,y=i/\j<=i/\i<16/\(∃r:im,rows[i]? =some r/\r.1=false)/\∀(k:Nat)(r:im),j<=k->k<i->rows[k]? =some r->r.1=true)),⟨16,rfl,rfl,16,rfl,rfl,aB _,rfl,.inl ⟨rfl,λi r hi hr=>by have:=(cG.1 hr).1;omega⟩⟩,?_⟩;rintro n6 us x y bO ⟨j,rfl,rfl,awV,rfl,hy⟩;apply Br.mk<;>intro hc
 ·have hc:(j:Int)-1>=0:=by simpa using hc
  obtain ⟨i,rfl⟩:∃i,j=i+1:=⟨j-1,by omega⟩;have e1:((i+1:Nat):Int)-1=(i:Int):=by omega
  rw [e1];obtain ⟨r,uP⟩:=bI (l:=rows) (i:=i) ab;have hi:(rows.map jL)[i]? =some (jL r):=by rw [aU,uP];rfl
  have wk:aj ((i:Int)-1)=(i:Int)-1:=wI;refine ⟨⟨some ⟨b,0,none⟩,16,16⟩,ldm AK,inb AK i ab,fU rfl ⟨r.1,(rk AK).at hi (Xc r),Br.mk (λhb=> ?_) (λhb=> ?_)⟩⟩
  ·have hb:r.1=false:=by simpa using hb
   refine ⟨i,by omega,rfl,rfl,i,wk,rfl,by omega,rfl,.inr ⟨i,rfl,aB _,by omega,⟨r,uP,hb⟩,λk r hk Fb=>by omega⟩⟩
  ·have hb:r.1=true:=by simpa using hb
   refine ⟨i,by omega,rfl,rfl,i,wk,rfl,by omega,rfl,?_⟩;rcases hy with ⟨hy1,qA⟩|⟨i',hy1,h1,h2,h3,h4⟩
   ·refine .inl ⟨hy1,λk r' hk hr'=> ?_⟩;by_cases hki:k=i
    ·subst hki;rw [uP] at hr';rw [<-Option.some.inj hr'];exact hb
    ·exact qA k r' ab hr'
   ·refine .inr ⟨i',hy1,by omega,h2,h3,λk r' hk Fb hr'=> ?_⟩;by_cases hki:k=i
    ·subst hki;rw [uP] at hr';rw [<-Option.some.inj hr'];exact hb
    ·exact h4 k r' ab Fb hr'
 have hc:¬(j:Int)-1>=0:=by simpa using hc
 have hj0:j=0:=by omega
 subst hj0;have hfree:oX (rows.map ai)=y:=TB hn (by
  rcases hy with ⟨h1,h2⟩|⟨i,h1,h2,h3,h4,h5⟩
  ·exact .inl ⟨h1,λi r hr=>h2 i r (Nat.zero_le _) hr⟩
  ·exact .inr ⟨i,h1,h3,h4,λk r hk hr=>h5 k r (Nat.zero_le _) hk hr⟩)
 apply Br.mk<;>intro q2
 ·have q2:y<0:=by simpa using q2
  exact same (by unfold dn;rw [if_neg q,hfree,if_pos q2]) aF AK
 have q2:¬y<0:=by simpa using q2
 obtain ⟨k,hyk,uR⟩:∃k:Nat,y=k/\k<16:=by
  rcases hy with ⟨h1,-⟩|⟨i,h1,-,h3,-⟩
  ·omega
  ·exact ⟨i,h1,h3⟩
 subst hyk;refine (A8 (h.ext AK) (fe aI wd ht)).mono ?_;rintro e bP ⟨rfl,bX⟩;have Wb:=bX.size;have awY:=lG bP;have ZU:=AK.tr bX;refine ⟨_,rfl,bX.heap ab,bX.heap ab,Br.mk (λq3=> ?_) (λq3=> ?_)⟩
 ·have q3:nR M (fe aI wd ht)=false:=by simpa using q3
  exact same (by unfold dn;rw [if_neg q,hfree,if_neg q2,if_pos q3]) aF ZU
 have q3:¬nR M (fe aI wd ht)=false:=by simpa using q3
 have viewS:∀{u:World},Ext w u->Vc.ld u (af (some ⟨m,0,none⟩) 0)=some (.pointer (some ⟨o,0,none⟩))/\ah 27 #[o] u λe w'=>e=Value.func (.func 83) #[t] #[]/\w'=u:=λxu=>by obtain ⟨Fs,hs,-,jq,-⟩:=(h.ext xu).vb;obtain ⟨Fw,hW,-,-⟩:=hs.world;exact ⟨jq,fl hW⟩
 have parL:∀{u:World},Ext w2 u->ag u (some ⟨w0.heap.size,0,none⟩) 0 (jo (fe aI wd ht)):=λxu=>Lo.wv (r2.ext xu)
 refine ⟨_,(viewS ZU.drew).1,(viewS ZU.drew).2.mono ?_⟩;rintro e cL ⟨rfl,apo⟩;subst apo;refine ⟨_,rfl,rfl,rfl,parL ((x3.tr bX).drew),(zF (fe aI wd ht) hw bP.drew).mono ?_⟩;rintro e fP ⟨rfl,cn⟩;have z19:=cn.size;refine ⟨_,_,_,_,_,_,rfl,cn.heap ab,cn.heap ab,?_⟩
 try refine ⟨parL (((x3.tr bX).drew).tr cn),?_⟩
 refine (mZ (h.ext (ZU.drew.tr cn)).tl rfl (fe aI wd ht).box).mono ?_;rintro e fi ⟨rfl,fy⟩;have z26:=fy.size;have awZ:=lG fi;have GH:=(ZU.drew.tr cn).tr fy;have aj9:=(((x3.tr bX).drew).tr cn).tr fy;refine ⟨_,rfl,fy.heap ab,fy.heap ab,Br.mk (λq4=> ?_) (λq4=> ?_)⟩
 ·exact same (by unfold dn;rw [if_neg q,hfree,if_neg q2,if_neg q3,if_pos q4]) aF GH
 refine ⟨_,(viewS GH.drew).1,(viewS GH.drew).2.mono ?_⟩;rintro e dR ⟨rfl,apr⟩;subst apr;refine ⟨_,rfl,rfl,rfl,parL aj9.drew,(zF (fe aI wd ht) hw fi.drew).mono ?_⟩;rintro e fJ ⟨rfl,ic⟩;have z31:=ic.size;refine ⟨_,_,_,_,_,_,rfl,ic.heap ab,ic.heap ab,?_⟩
 try refine ⟨parL (aj9.drew.tr ic),?_⟩
 refine (lM (h.ext (GH.drew.tr ic)).tl rfl (fe aI wd ht).box).mono ?_;rintro e lf ⟨rfl,gA⟩;have z38:=gA.size;have aps:=(GH.drew.tr ic).tr gA;refine ⟨_,rfl,gA.heap ab,gA.heap ab,λjr QZ=> ?_⟩;have mc:Ext w jr.drew:=(aps.ae QZ ab).drew;have z40:jr.drew.heap.size=lf.heap.size:=by show jr.heap.size=_;exact zR QZ
 have hspawn:dn M (rows.map ai) (fe aI wd ht)=((k:Int),0,(rows.map ai).set k (some ({fe aI wd ht with gV:=jO (gy M.T.2) (iz (fe aI wd ht).box) aE},(0,0,false)))):=by unfold dn;rw [if_neg q,hfree,if_neg q2,if_neg q3,if_neg (by rw [q4];decide)];rfl
 have hsr:tf M rows (fe aI wd ht)=rows.set k (true,({fe aI wd ht with gV:=jO (gy M.T.2) (iz (fe aI wd ht).box) aE},(0,0,false))):=by unfold tf;rw [hspawn,if_pos rfl,hfree];rfl
 rw [hspawn,hsr];obtain ⟨p0,p1,p2⟩:=Xd hn (hr.ext mc) uR (true,({fe aI wd ht with gV:=jO (gy M.T.2) (iz (fe aI wd ht).box) aE},(0,0,false)));have hpb:bD (af (some ⟨b,0,none⟩) ((k:Int).toNat*13))=some b:=by rw [bf];rfl
 have hbw:=h.lt hFb;refine ⟨⟨some ⟨b,0,none⟩,16,16⟩,ldm mc,inb mc k uR,⟨p0,p1⟩,by rw [hpb];intro q;injection q with q;omega,by rw [hpb];intro q;injection q with q;omega,λku ZV=>⟨rfl,?_⟩⟩;obtain ⟨q1,q2⟩:=p2 ku ZV;have apt:Mod (λi=>i=b) w ku:=(Mod.aD mc).trans q2;exact bw apt q1 (by rw [iq];exact hn)
end
def Ci(rows:List im)(i:Nat)(b:ef):List im:=match rows[i]? with|some r=>rows.set i (r.1,(b,r.2.2))|none=>rows
def H2(rows:List im)(l:List (Nat × ef)):List im:=l.foldl (λL x=>Ci L x.1 x.2) rows
def oR(M:Sm)(rows:List im):List im:=H2 rows ((eV M (rows.map ai)).zip (qm M (rows.map ai)))
theorem Zq{rows:List im}{i:Nat}{b:ef}:(Ci rows i b).length=rows.length:=by
 unfold Ci;split
 ·rw [iq]
 ·rfl
theorem Vx{rows:List im}{i:Nat}{b:ef}:(Ci rows i b).map ai=vT (rows.map ai) i b:=by
 unfold Ci vT
 cases hq:rows[i]? with
 |none=>
  have:cc (rows.map ai) ((i:Nat):Int)=none:=by unfold cc;rw [if_pos ab,ej,aU,hq];rfl
  rw [this]
 |some r=>
  rw [lF (rows:=rows) (n:=(i:Nat)) rfl hq];obtain ⟨th,bd,uC⟩:=r
  cases th with
  |false=>
   show ((rows.set i (false,(b,uC))).map ai)=rows.map ai;rw [List.map_set];have hi:=(cG.1 hq).1;refine iY λj=> ?_
   by_cases e:i=j
   ·subst e;rw [oP (by rw [aN];exact hi),aU,hq];rfl
   ·rw [List.getElem?_set_ne e]
  |true=>
   show ((rows.set i (true,(b,uC))).map ai)=(rows.map ai).set i (some (b,uC));rw [List.map_set];rfl
theorem ES:∀(l:List (Nat × ef))(rows:List im),(H2 rows l).map ai=Bp (rows.map ai) l
 | [],rows=>rfl
 |x::l,rows=>by
  show (H2 (Ci rows x.1 x.2) l).map ai=Bp (vT (rows.map ai) x.1 x.2) l
  rw [ES l,Vx]
theorem H3:∀(l:List (Nat × ef))(rows:List im),(H2 rows l).length=rows.length
 | [],rows=>rfl
 |x::l,rows=>(H3 l (Ci rows x.1 x.2)).trans Zq
theorem mT(M:Sm)(rows:List im):(oR M rows).map ai=o5 M (rows.map ai):=ES _ _
abbrev ET(M:Sm)(rows:List im)(j:Nat):List im:=H2 rows (((eV M (rows.map ai)).zip (qm M (rows.map ai))).take j)
theorem QG{M:Sm}{rows:List im}{j:Nat}{i:Nat}{b:ef}(hi:(eV M (rows.map ai))[j]? =some i)(hb:(qm M (rows.map ai))[j]? =some b):ET M rows (j+1)=Ci (ET M rows j) i b:=by
 have e:((eV M (rows.map ai)).zip (qm M (rows.map ai)))[j]? =some (i,b):=by rw [List.getElem?_zip_eq_some];exact ⟨hi,hb⟩
 unfold ET H2;rw [dD,e,List.foldl_append];rfl
theorem Dx{K:Nat}{v r:LV}{off:Nat}:∀{l:List (LV)} {k:Nat} {r':LV},(∀r ∈ l,r.length=K)->l[k]? =some r->off+v.length<=K->aR r off v=r'->aR l.flatten (k*K+off) v=(l.set k r').flatten
 | [],k,_,_,hk,_,_=>absurd hk bB
 |a::l,0,r',hl,hk,hv,e=>by
  have ha:=hl a bB
  have hk:a=r:=by simpa using hk
  subst hk;subst e;rw [kf,List.set_cons_zero,kf,Nat.zero_mul,ep,dj v (a++l.flatten) off (by rw [dm];omega),dj v a off ab,List.take_append_of_le_length ab,List.drop_append_of_le_length ab,gE,gE,gE]
 |a::l,k+1,r',hl,hk,hv,e=>by have ha:=hl a bB;rw [kf,List.set_cons_succ,kf,show (k+1)*K+off=a.length+(k*K+off) from by rw [ha,Nat.add_mul,Nat.one_mul];omega,kg,Dx (λr hr=>hl r (by simp [hr])) (by simpa using hk) hv e]
theorem ac7{rows:List im}(hn:rows.length=16){b:Nat}{w:World}(hr:Row w b (rows.map jL).flatten Bb){k:Nat}(hk:k<16)(x:ef):(af (af (some ⟨b,0,none⟩) ((k:Int).toNat*13)) 1).isSome=true/\Wr w (af (af (some ⟨b,0,none⟩) ((k:Int).toNat*13)) 1) 9/\bD (af (af (some ⟨b,0,none⟩) ((k:Int).toNat*13)) 1)=some b/\
  ∀w',w'=Vc.aH w (af (af (some ⟨b,0,none⟩) ((k:Int).toNat*13)) 1) (jo x)->Row w' b ((Ci rows k x).map jL).flatten Bb/\Mod (λi=>i=b) w w':=by
 obtain ⟨r,Ka⟩:=bI (l:=rows) (i:=k) ab;have Ff:(rows.map jL).flatten.length=16*13:=by
  have:=bK (k:=13) (rows:=rows.map jL) λr hr=>by obtain ⟨x,-,rfl⟩:=aZ.1 hr;rfl
  rw [this,aN,hn]
 rw [dw,ej];obtain ⟨p1,p2⟩:=lO hr (off:=k*13+1) (vs:=jo x) (by rw [Ff];show _+9<=_;omega) (vN x);refine ⟨rfl,p1,by rw [bf];rfl,λw' e=> ?_⟩;obtain ⟨q1,q2⟩:=p2 w' e;refine ⟨?_,q2⟩;have oJ:Ci rows k x=rows.set k (r.1,(x,r.2.2)):=by unfold Ci;rw [Ka]
 have cO:(rows.map jL)[k]? =some (jL r):=by rw [aU,Ka];rfl
 have:aR (rows.map jL).flatten (k*13+1) (jo x)=((Ci rows k x).map jL).flatten:=by rw [oJ,List.map_set];exact Dx (λr hr=>by obtain ⟨y,-,rfl⟩:=aZ.1 hr;rfl) cO (by show 1+9<=13;decide) rfl
 rw [<-this];exact q1
section
variable {F F':Nat->Prop} {w w':World} {m s o t:Nat} {M M':Sm} {occ:Value} {rows:List im}
abbrev agI(g:Nat):Value:=.func (.func 120) #[] #[g]
theorem mOc{g:Nat}{τ:TypeId}(h:MF F w m s o t M occ rows){n:Int}(hL:sC n (rows.map ai))(hg:Row w g [m] τ)(hgF:¬F g):∃Fs,SF Fs w s o t M occ/\Oc (agI g) (qi (rows.map ai)) Fs w/\Vc.ld w (af (some ⟨m,0,none⟩) 1)=some (.pointer (some ⟨s,0,none⟩))/\∀{w':World} {M':Sm} {occ':Value},lR Fs w s o t M' occ' w'->kA F w m s o t M' occ' rows w':=by
 obtain ⟨Fs,h1,h2,-,h3,h4⟩:=h.vb;obtain ⟨b,hm,hr,hn,-⟩:=h.Ik;have nm:¬Fs m:=h1.jG hm mL.1.1 mL.1.2.1 mL.1.2.2.1 mL.1.2.2.2.1 mL.1.2.2.2.2.1 mL.1.2.2.2.2.2.1 mL.1.2.2.2.2.2.2;have nb:¬Fs b:=h1.jG hr mL.2.1.1 mL.2.1.2.1 mL.2.1.2.2.1 mL.2.1.2.2.2.1 mL.2.1.2.2.2.2.1 mL.2.1.2.2.2.2.2.1 mL.2.1.2.2.2.2.2.2;refine ⟨Fs,h1,⟨λi=>i=m\/i=b\/i=g,λi hi=> ?_,λw' hk c _=>cS (by kernel_rfl) rfl ?_⟩,h2,h4⟩
 ·rcases hi with rfl|rfl|rfl
  ·exact ⟨hm.lt,nm⟩
  ·exact ⟨hr.lt,nb⟩
  ·exact ⟨hg.lt,λq=>hgF (h3 _ q)⟩
 ·have hm':=hm.same (hk _ (.inl rfl));have hr':=hr.same (hk _ (.inr (.inl rfl)));have hg':=hg.same (hk _ (.inr (.inr rfl)));apply (vH.vc (c0:=⟨g,0,none⟩));intro w0 e0;have x0:=aL e0;have z0:=zA e0;have hl0:Vc.ld w0 (some ⟨g,0,none⟩)=some (.pointer (some ⟨m,0,none⟩)):=by rw [(hg'.ext x0).ld];rfl
  refine ⟨some ⟨m,0,none⟩,hl0,(LY (hm'.ext x0) (hr'.ext x0) hn hL c).mono ?_⟩;rintro e w2 ⟨rfl,x2⟩;exact ⟨_,rfl,x2.heap ab,rfl,x0.tr x2⟩
end
section
variable {F F':Nat->Prop} {w w':World} {m s o t:Nat} {M M':Sm} {occ:Value} {rows:List im}
set_option maxHeartbeats 6000000 in
theorem Ow(h:MF F w m s o t M occ rows){n:Int}(hL:sC n (rows.map ai))(JX:0<=n)(hn:n<=99900000000000)(hd:G3 (sm M))(hk:qH M 600000)(ahS:1<=M.dH/\M.dH<=64):
  ah 65 #[m] w λe w'=>e=Value.int .i64 (sm M).length/\kA F w m s o t (sX M (rows.map ai)).1 (agI w) (oR M rows) w':=by
 apply zK.vc;intro w0 e0;have x0:=aL e0;have z0:=zA e0;have r0:∃τ,Row w0 w [m] τ:=⟨_,by rw [e0];exact Row.new w [_] _⟩;obtain ⟨τ,r0⟩:=r0;have h0:=h.ext x0;have hwF:¬F w:=λq=>by have:=h.lt q;omega
 obtain ⟨b,hm,hr,yK,-,hFb,hmb,bw⟩:=h0.Ik;have hbw:=h.lt hFb;have hwl:=I9 M (rows.map ai);have ldm:∀{u:World},Ext w0 u->Vc.ld u (af (some ⟨m,0,none⟩) 2)=some (.slice (some ⟨b,0,none⟩) 16 16):=λxu=>(hm.ext xu).at 2 rfl
 have rk:∀{u:World},Ext w0 u->RdK u ⟨some ⟨b,0,none⟩,16,16⟩ 13 (rows.map jL):=λxu=>sU (hr.ext xu) yK
 have inb:∀k:Nat,k<16->eo (some ⟨b,0,none⟩) (k:Int) 16:=λk hk=>(rk (Ext.cE _)).g9 (i:=(k:Int)) aF ab (by show (k:Int)<((16:Nat):Int);omega)
 have parL:∀{u:World},Ext w0 u->ag u (some ⟨w.heap.size,0,none⟩) 0 [m]:=λxu=>Lo.wv (r0.ext xu)
 have atk:∀i:Nat,i ∈ eV M (rows.map ai)->∃r,rows[i]? =some r/\i<16/\cc (rows.map ai) ((i:Nat):Int)=some r.2:=λi hi=>by
  obtain ⟨h1,y,hy⟩:=tq hi;obtain ⟨r,uP⟩:=bI (l:=rows) (i:=i) ab;refine ⟨r,uP,h1,?_⟩;rw [lF (rows:=rows) (n:=(i:Nat)) rfl uP] at hy ⊢;unfold ai at hy ⊢;split at hy
  ·rename_i hb;rw [if_pos hb]
  ·cases hy
 let num:Nat->LV:=λi=> [.int .i64 (i:Int)]
 refine ⟨λn x sl wr=>∃k:Nat,x=k/\k+n=16/\aC w0 3 1 wr sl (((List.range k).filter (lS M (rows.map ai))).map num)/\Ext w0 wr,⟨16,rfl,0,rfl,rfl,aC.nil,Ext.cE _⟩,?_⟩;rintro n1 us x sl wr ⟨k,rfl,hk',ho,xr⟩;have zr:=xr.size;apply Br.mk<;>intro hb
 ·have hb:(k:Int)<16:=by simpa using hb
  obtain ⟨r,Ka⟩:=bI (l:=rows) (i:=k) ab;have hi:(rows.map jL)[k]? =some (jL r):=by rw [aU,Ka];rfl
  have zc:=lF (rows:=rows) (n:=k) rfl Ka;have wk:=mz (j:=k);have dI:sl.n<=16:=by have h1:=(ho.rd (show 0<1 by decide)).n;have h2:=List.length_filter_le (lS M (rows.map ai)) (List.range k);rw [aN] at h1;rw [Bk] at h2;omega
  have skip:lS M (rows.map ai) k=false->∀{u:World},Ext wr u->∃n7,n7<n1/\aO [m]/\∃k':Nat,aj ((k:Int)+1)=k'/\k'+n7=16/\aC w0 3 1 u ⟨sl.a,sl.n,sl.c⟩ (((List.range k').filter (lS M (rows.map ai))).map num)/\Ext w0 u:=λhq {u} xu=>by refine ⟨n1-1,by omega,rfl,k+1,wk,by omega,?_,xr.tr xu⟩;rw [List.range_succ,oY,bU,List.filter_cons_of_neg (by rw [hq];decide)];simpa using ho.ext xu
  have xd:=Ext.dr wr;have zd:=lG wr;refine ⟨⟨some ⟨b,0,none⟩,16,16⟩,ldm (xr.tr xd),inb k ab,fU rfl ⟨r.1,(rk (xr.tr xd)).at hi (Xc r),Br.mk (λhb=> ?_) (λhb=>skip ?_ xd)⟩⟩
  ·have MZ:ai r=some r.2:=by unfold ai;rw [if_pos hb]
   rw [MZ] at zc;have hwake:lS M (rows.map ai) k=nR M r.2.1:=by unfold lS;rw [zc]
   refine ⟨⟨some ⟨b,0,none⟩,16,16⟩,ldm (xr.tr xd),inb k ab,fU rfl ⟨_,_,_,_,_,_,_,_,_,kT (rk (xr.tr xd)) hi (mlB r),(A8 (h0.ext (xr.tr xd)) r.2.1).mono ?_⟩⟩;rintro e fx ⟨rfl,cW⟩;have z20:=cW.size;have WN:=(xr.tr xd).tr cW;refine ⟨_,rfl,cW.heap ab,TY (ldm WN),parL WN,TY ((rk WN).at hi (Xc r)),TY (ldm WN),parL WN,Br.mk (λhq=>λdT yX=> ?_) (λhq=>skip (by rw [hwake];exact hq) (xd.tr cW))⟩;subst yX;obtain ⟨Cq,hres8⟩:=(ho.ext (xd.tr cW)).iO (bytes:=8) (news:=[.int .i64 (k:Int)]) (.cells #[.int .i64 (k:Int)] 3) ab rfl (te _ _) ab ab;refine ⟨Cq,λs23 fZ asT=> ?_⟩;obtain ⟨f8,xc,hn8,x8,Fc,-⟩:=hres8 s23 fZ asT;have xa:Ext fx (fx.alloc (.cells #[.int .i64 (k:Int)] 3)):=(aL rfl);have hparam:fZ.heap[w.heap.size]? =(fx.alloc (.cells #[.int .i64 (k:Int)] 3)).heap[w.heap.size]? :=(x8.block _ ab).trans (xa.heap ab).symm;refine ⟨hparam,f8,n1-1,by omega,rfl,k+1,wk,by omega,?_,Below.trans WN x8⟩;rw [List.range_succ,oY,bU,List.filter_cons_of_pos (by rw [hwake];exact hq)];exact xc
  ·have hb:r.1=false:=by simpa using hb
   have MZ:ai r=none:=by unfold ai;rw [if_neg (by rw [hb];decide)]
   rw [MZ] at zc;unfold lS;rw [zc]
 have hb:¬(k:Int)<16:=by simpa using hb
 have uR:k=16:=by omega
 subst uR;replace ho:aC w0 3 1 wr sl ((eV M (rows.map ai)).map num):=ho;have tR:sl.n=(eV M (rows.map ai)).length:=by rw [(ho.rd (show 0<1 by decide)).n,aN]
 have slk:∀b,sl.aX=some b->w0.heap.size<=b/\b<wr.heap.size:=λb hb=>ho.own.lt hb
 have viewS:∀{u:World},Ext w0 u->Vc.ld u (af (some ⟨m,0,none⟩) 0)=some (.pointer (some ⟨o,0,none⟩))/\ah 27 #[o] u λe w'=>e=Value.func (.func 83) #[t] #[]/\w'=u:=λxu=>by obtain ⟨Fs,hs,-,jq,-⟩:=(h0.ext xu).vb;obtain ⟨Fw,hW,-,-⟩:=hs.world;exact ⟨jq,fl hW⟩
 refine ⟨λn x s2 fu=>∃j:Nat,x=j/\j+n=(eV M (rows.map ai)).length/\aC wr y9 9 fu s2 ((((eV M (rows.map ai)).take j).map (mC M (rows.map ai))).map jo)/\Ext wr fu,⟨(eV M (rows.map ai)).length,rfl,0,rfl,by omega,aC.nil,Ext.cE _⟩,?_⟩;rintro n2 wX x s2 fu ⟨j,rfl,hj,yW,jD⟩;have z30:=jD.size;apply Br.mk<;>intro hb
 ·have hb:(j:Int)<sl.n:=by simpa using hb
  obtain ⟨i,hi⟩:=bI (l:=eV M (rows.map ai)) (i:=j) ab;obtain ⟨r,uP,FD,zc⟩:=atk i (bg hi);have xd:=Ext.dr fu;have zd:=lG fu;have N2:=xr.tr (jD.tr xd);have FC:=(ho.ext (jD.tr xd)).rd (show 0<1 by decide);have hri2:((eV M (rows.map ai)).map num)[j]? =some [.int .i64 (i:Int)]:=by rw [aU,hi];rfl
  have JZ:=FC.at hri2 (j:=0) (v:=.int .i64 (i:Int)) rfl;rw [dw] at JZ;have hii:(rows.map jL)[i]? =some (jL r):=by rw [aU,uP];rfl
  refine ⟨⟨some ⟨b,0,none⟩,16,16⟩,ldm N2,FC.g9 aF ab ab,_,JZ,inb i FD,_,_,_,_,_,_,_,_,_,_,_,_,_,(rk N2).bZ hii,λlg e47 fY e48=> ?_⟩;have sN:Ext fu.drew fY.drew:=((aL e47).ae e48 (aB _)).drew;have z48:fY.drew.heap.size=fu.drew.heap.size+1:=by show fY.heap.size=_;rw [zR e48,zA e47]
  have r48:∃τ,Row fY.drew fu.drew.heap.size (jL r) τ:=⟨_,by rw [e48,e47];exact (Row.set (Row.new fu.drew [_,_,_,_,_,_,_,_,_,_,_,_,_] _) (jL r)).ext (Ext.dr _)⟩;obtain ⟨τ',r48⟩:=r48;have GK:=N2.tr sN;refine ⟨_,(viewS GK).1,(viewS GK).2.mono ?_⟩;rintro e mi ⟨rfl,asV⟩;subst asV;have oky:=hL r.2 (pR zc);have lin:ag fY.drew (some ⟨fu.drew.heap.size,10,none⟩) 0 [.int .i64 r.2.2.1,.int .i64 r.2.2.2.1,.bool r.2.2.2.2]:=qe r48 rfl rfl rfl;have lbd:ag fY.drew (some ⟨fu.drew.heap.size,1,none⟩) 0 (jo r.2.1):=r48.bZ (o:=1) λj hj=>by have:=mlB r j hj;rw [<-this]
  refine ⟨_,rfl,rfl,rfl,lin,parL GK,lbd,(D7 (h0.ext GK).tl rfl r.2.1 oky.wdi oky.2.2.2 (oky.zP ab) ab r.2.2).mono ?_⟩;rintro e Kd ⟨rfl,lC⟩;have z52:=lC.size;have asW:=GK.tr lC;refine ⟨_,_,_,_,_,_,_,_,_,rfl,lC.heap ab,lC.heap ab,parL asW,λil e62=> ?_⟩;have nj:=aL e62;subst e62;have dI:s2.n<=16:=by have h1:=(yW.rd (show 0<9 by decide)).n;rw [aN,aN,du] at h1;omega
  have BI:∀g,s2.aX=some g->wr.heap.size<=g/\g<fu.heap.size:=λg hg=>yW.own.lt hg
  obtain ⟨Cq,hres8⟩:=(yW.ext (xd.tr (sN.tr lC))).iO (bytes:=72) (news:=jo (tu (gy M.T.2) r.2.1 r.2.2)) (.cells (jo (tu (gy M.T.2) r.2.1 r.2.2)).toArray y9) ab rfl (vN _) ab ab;refine ⟨Cq,λs63 sO asX=> ?_⟩;obtain ⟨f8,xc,hn8,x8,Fc,-⟩:=hres8 s63 sO asX;have wk:=mz (j:=j);have asY:Ext w0 sO:=xr.tr (Below.trans (jD.tr (xd.tr (sN.tr lC))) x8);have k1:=(x8.block w ab).trans (nj.heap ab).symm;have k2:=(Fc fu.drew.heap.size (λq=>by have:=BI _ q;omega) ab).trans (nj.heap ab).symm;refine ⟨k1,k2,f8,parL asY,n2-1,by omega,rfl,j+1,wk,by omega,?_,Below.trans (jD.tr (xd.tr (sN.tr lC))) x8⟩;rw [dD,hi,bU,bU];have e1:mC M (rows.map ai) i=tu (gy M.T.2) r.2.1 r.2.2:=by unfold mC;rw [zc]
  show aC _ _ _ _ _ (_++ [jo (mC M (rows.map ai) i)]);rw [e1];exact xc
 have hb:¬(j:Int)<sl.n:=by simpa using hb
 have hjw:j=(eV M (rows.map ai)).length:=by omega
 subst hjw;rw [iA] at yW;have N2:=xr.tr jD;refine ⟨_,(viewS N2).1,(viewS N2).2.mono ?_⟩;rintro e oK ⟨rfl,asZ⟩;subst asZ;refine ⟨_,rfl,rfl,(D8 (h0.ext N2).tl rfl yW (by rw [aN];exact hwl) (D9 hL ab) ab ab).mono ?_⟩;rintro e sJ ⟨s69,rfl,abk,mI,bt,S8⟩;rw [aN] at S8;replace abk:aC oK y9 9 sJ s69 ((qm M (rows.map ai)).map jo):=abk;replace S8:(qm M (rows.map ai)).length=(eV M (rows.map ai)).length:=S8;replace bt:∀b ∈ qm M (rows.map ai),okB (n+16777216+16*16*12582912) b:=bt;have z68:=mI.size;have s69k:∀b,s69.aX=some b->oK.heap.size<=b/\b<sJ.heap.size:=λb hb=>abk.own.lt hb
 have as0:s69.n=(eV M (rows.map ai)).length:=by rw [(abk.rd (show 0<9 by decide)).n,aN,S8]
 have abl:=N2.tr mI;have hmw:=hm.lt;refine ⟨s69,rfl,mI.heap ab,λn x lD=>∃j:Nat,x=j/\j+n=(eV M (rows.map ai)).length/\Row lD b ((ET M rows j).map jL).flatten Bb/\Mod (λi=>i=b) sJ lD,⟨(eV M (rows.map ai)).length,rfl,0,rfl,by omega,hr.ext abl,Mod.refl _ _⟩,?_⟩;rintro n3 us3 x lD ⟨j,rfl,hj,aix,m74⟩;have z74:=m74.size;have zz:=abl.size;have hlu:(ET M rows j).length=16:=(H3 _ _).trans yK;have wbox:lD.heap[w.heap.size]? =sJ.heap[w.heap.size]? :=m74.same _ ab ab;have last:j=(eV M (rows.map ai)).length->∃JQ:Option Addr,Vc.ld lD (af (some ⟨m,0,none⟩) 1)=some (.pointer JQ)/\
   ah 118 #[JQ,.func (.func 120) #[] #[w]] lD λe gf=>e=sY/\
    ∃p90:Option Addr,Vc.ld gf (some ⟨w.heap.size,0,none⟩)=some (.pointer p90)/\aP (dv p90) (aP (dv p90) (∃p91:Option Addr,Vc.ld gf (af p90 1)=some (.pointer p91)/\
     ah 119 #[p91] gf λe ZZ=>∃uz:Int,e=uz/\Ending.returned uz=Value.int .i64 (sm M).length/\kA F w m s o t (sX M (rows.map ai)).1 (agI w) (oR M rows) ZZ)):=by
  intro hjw;subst hjw;have hup:ET M rows (eV M (rows.map ai)).length=oR M rows:=by unfold ET oR;rw [fC (by rw [List.length_zip,S8];omega)]
  rw [hup] at aix hlu;obtain ⟨F74,h74,t74⟩:=bw ((Mod.aD abl).trans m74) aix hlu;have amA:¬F74 w:=λq=>by
   rcases t74.sub _ q with q|q
   ·exact hwF q
   ·omega
  have hr74b:Row lD w [m] τ:=(r0.ext abl).same wbox;obtain ⟨Fs,hs,jq,-,-,hresS⟩:=h74.vb;refine ⟨_,jq,(xV hs (.func 120) #[] #[w]).mono ?_⟩;rintro e gf ⟨rfl,as2,-⟩;refine ⟨rfl,?_⟩;obtain ⟨F89,h89,t89⟩:=hresS as2;have as3:¬F89 w:=λq=>by
   rcases t89.sub _ q with q|q
   ·exact amA q
   ·omega
  have hr89b:=t89.mod.row hr74b amA;have as4:sC (n+3300000000) ((oR M rows).map ai):=by rw [mT];exact CP _ (hL.up ab) λx hx=>(bt x.2 (List.of_mem_zip hx).2).up ab
  obtain ⟨Fs2,BI,hO,hld2,hres2⟩:=mOc h89 as4 hr89b as3;rw [mT] at hO;refine ⟨_,by rw [hr89b.ld];rfl,fU rfl (fU rfl ⟨_,hld2,(Hw BI hO hd hk ahS).mono ?_⟩)⟩;rintro e ZZ ⟨rfl,as5⟩;obtain ⟨F92,h92,t92⟩:=hres2 as5;exact ⟨_,rfl,rfl,F92,h92,(aM.aD x0).trans (t74.trans (t89.trans t92))⟩
 apply Br.mk<;>intro hb
 ·have hb:(j:Int)<sl.n:=by simpa using hb
  refine yes (by rw [as0,<-tR];simpa using hb) ?_;obtain ⟨i,hi⟩:=bI (l:=eV M (rows.map ai)) (i:=j) ab;obtain ⟨x,hx⟩:=bI (l:=qm M (rows.map ai)) (i:=j) ab;obtain ⟨r,uP,FD,zc⟩:=atk i (bg hi);have xd:=Ext.dr lD;have zd:=lG lD;have hrd69:=((m74.fk abk λg hg q=>by have:=s69k g hg;omega).ext xd).rd (show 0<9 by decide);have hrx:((qm M (rows.map ai)).map jo)[j]? =some (jo x):=by rw [aU,hx];rfl
  have FC:=((m74.fk ((ho.ext jD).ext mI) λg hg q=>by have:=slk g hg;omega).ext xd).rd (show 0<1 by decide);have hri2:((eV M (rows.map ai)).map num)[j]? =some [.int .i64 (i:Int)]:=by rw [aU,hi];rfl
  have JZ:=FC.at hri2 (j:=0) (v:=.int .i64 (i:Int)) rfl;rw [dw] at JZ;have as6:=(((hm.ext abl).same (m74.same _ ab hmb)).ext xd);obtain ⟨p0,p1,pb,p2⟩:=ac7 hlu (aix.ext xd) FD x;refine ⟨⟨some ⟨b,0,none⟩,16,16⟩,as6.at 2 rfl,FC.g9 aF ab ab,_,JZ,hrd69.g9 aF ab ab,_,_,_,_,_,_,_,_,_,hrd69.bZ hrx,inb i FD,fU rfl ⟨⟨p0,p1⟩,by rw [pb];intro q;injection q with q;omega,λAO e87=> ?_⟩⟩;obtain ⟨q1,q2⟩:=p2 AO e87;have wk:=mz (j:=j);refine ⟨n3-1,by omega,rfl,j+1,wk,by omega,?_,m74.trans ((Mod.aD xd).trans q2)⟩;rw [QG hi hx];exact q1
 ·have hb:¬(j:Int)<sl.n:=by simpa using hb
  exact last ab
end
abbrev tXr:TypeId:=164
abbrev tWt:TypeId:=166
def xAt(L:List (Option dZ))(i:Nat):Xr:=((i:Int),match cc L i with|some y=>y.1|none=>Da)
def sk(L:List (Option dZ))(k:Nat):List Xr:=((List.range k).filter λi=>(cc L (i:Nat)).isSome).map (xAt L)
theorem Ou(L:List (Option dZ)):(sk L 16).length=(cg L).length:=by unfold sk cg;rw [aN,aN]
theorem To(M:Sm)(L:List (Option dZ)):DX M.now (sk L 16) M.q.l=nJ M L:=by
 unfold DX nJ;rw [Ou];have:((sk L 16).map λx=>gr x.1 x.2).flatten=fq L (cg L):=by
  unfold fq sk cg;rw [List.map_map,List.map_map];congr 1;refine List.map_congr_left λi hi=> ?_
  have h2:=(List.mem_filter.1 hi).2;obtain ⟨y,hy⟩:=nH.1 h2;show gr (xAt L i).1 (xAt L i).2=Bj L (i:Int);unfold xAt Bj;rw [hy]
 rw [this]
theorem af5(x:Xr):One (XV x):=by
 intro u hu;rcases cB.1 hu with rfl|hu
 ·rfl
 ·exact vN x.2 u hu
section
variable {F F':Nat->Prop} {w w':World} {m s o t:Nat} {M M':Sm} {occ:Value} {rows:List im}
set_option maxHeartbeats 4000000 in
theorem Il(h:MF F w m s o t M occ rows):ah 62 #[m] w λe w'=>∃sx sw:Sl,e=Value.agg #[M.now,sx,sw]/\RdK w' sx 10 ((sk (rows.map ai) 16).map XV)/\RdK w' sw 4 (M.q.l.map fI)/\Ext w w':=by
 apply vI.vc;intro w0 e0;have x0:=aL e0;have z0:=zA e0;have h0:=h.ext x0;obtain ⟨Fs,hs,jq,-⟩:=h0.vb;obtain ⟨b,hm,hr,yK,-⟩:=h0.Ik;have ldm:∀{u:World},Ext w0 u->Vc.ld u (af (some ⟨m,0,none⟩) 2)=some (.slice (some ⟨b,0,none⟩) 16 16):=λxu=>(hm.ext xu).at 2 rfl
 have rk:∀{u:World},Ext w0 u->RdK u ⟨some ⟨b,0,none⟩,16,16⟩ 13 (rows.map jL):=λxu=>sU (hr.ext xu) yK
 have inb:∀k:Nat,k<16->eo (some ⟨b,0,none⟩) (k:Int) 16:=λk hk=>(rk (Ext.cE _)).g9 (i:=(k:Int)) aF ab (by show (k:Int)<((16:Nat):Int);omega)
 refine ⟨_,jq,(Hu hs).mono ?_⟩;rintro e w2 ⟨rfl,AQ⟩;subst AQ;refine ⟨_,rfl,rfl,λw4 e4 w5 e5=> ?_⟩;have x5:Ext w2 w5:=(aL e4).ae e5 (aB _);have z5:w5.heap.size=w2.heap.size+1:=by rw [zR e5,zA e4]
 refine ⟨λn x now s1 s2 wr=>∃k:Nat,x=k/\k+n=16/\now=M.now/\s2=⟨none,0,0⟩/\aC w5 tXr 10 wr s1 ((sk (rows.map ai) k).map XV)/\Ext w2 wr/\w5.heap.size<=wr,⟨16,rfl,0,rfl,rfl,rfl,rfl,aC.nil,x5,aB _⟩,?_⟩;rintro n us x now s1 s2 bJ ⟨k,rfl,hk,rfl,rfl,ho,cm,z13⟩;apply Br.mk<;>intro hq
 ·have hq:(k:Int)<16:=by simpa using hq
  obtain ⟨r,Ka⟩:=bI (l:=rows) (i:=k) ab;have hi:(rows.map jL)[k]? =some (jL r):=by rw [aU,Ka];rfl
  have zc:=lF (rows:=rows) (n:=k) rfl Ka;have wk:=mz (j:=k);have xd:=Ext.dr bJ;have zd:=lG bJ;refine ⟨⟨some ⟨b,0,none⟩,16,16⟩,ldm cm,inb k ab,fU rfl ⟨r.1,(rk cm).at hi (Xc r),Br.mk (λhb=> ?_) (λhb=> ?_)⟩⟩
  ·have MZ:ai r=some r.2:=by unfold ai;rw [if_pos hb]
   rw [MZ] at zc;have xx:=cm.tr xd;refine ⟨⟨some ⟨b,0,none⟩,16,16⟩,ldm xx,inb k ab,fU rfl ⟨_,_,_,_,_,_,_,_,_,kT (rk xx) hi (mlB r),λeH e27=> ?_⟩⟩;have fE:=aL e27;have dI:s1.n<=16:=by have h1:=(ho.rd (show 0<10 by decide)).n;rw [aN] at h1;unfold sk at h1;rw [aN] at h1;have h2:=List.length_filter_le (λi:Nat=>(cc (rows.map ai) (i:Nat)).isSome) (List.range k);rw [Bk] at h2;omega
   have eG:∀g,s1.aX=some g->w5.heap.size<=g/\g<bJ.heap.size:=λg hg=>ho.own.lt hg
   have z27:=zA e27;subst e27;obtain ⟨Cq,hres8⟩:=(ho.ext xd).iO (bytes:=80) (news:=XV ((k:Int),r.2.1)) (.cells (XV ((k:Int),r.2.1)).toArray tXr) ab rfl (af5 _) ab ab;refine ⟨Cq,λN9 dR aqp=> ?_⟩;obtain ⟨f8,xc,hn8,x8,Fc,-⟩:=hres8 N9 dR aqp;have x8':Ext w2 dR:=Below.trans (cm.tr xd) (Below.mono x8 ab);have z29:=x8.size;have c5:∀j,j<w5.heap.size->dR.heap[j]? =(bJ.drew.alloc (.cells (XV ((k:Int),r.2.1)).toArray tXr)).heap[j]? :=λj hj=>(Fc j (λq=>by have:=eG _ q;omega) ab).trans (fE.heap ab).symm
   refine ⟨c5 _ ab,c5 _ ab,f8,TY (ldm x8'),λfu J9=> ?_⟩;have z30:=zR J9;have k30:∀j,j≠w2.heap.size->fu.heap[j]? =dR.heap[j]? :=λj hj=>by rw [J9];exact setRow_other _ _ _ _ hj
   refine ⟨n-1,by omega,rfl,k+1,wk,by omega,rfl,rfl,?_,x8'.ae J9 (aB _),by omega⟩;have e1:sk (rows.map ai) (k+1)=sk (rows.map ai) k++ [((k:Int),r.2.1)]:=by unfold sk;rw [List.range_succ,oY,bU,List.filter_cons_of_pos (by rw [zc];rfl)];show _++ [xAt _ k]=_;unfold xAt;rw [zc]
   rw [e1,bU];refine aC.c5 xc λg hg=>k30 g λq=> ?_
   have:=(xc.own.lt hg).1;omega
  ·have hb:r.1=false:=by simpa using hb
   have MZ:ai r=none:=by unfold ai;rw [if_neg (by rw [hb];decide)]
   rw [MZ] at zc;refine ⟨n-1,by omega,rfl,k+1,wk,by omega,rfl,rfl,?_,cm,z13⟩;have e1:sk (rows.map ai) (k+1)=sk (rows.map ai) k:=by unfold sk;rw [List.range_succ,oY,List.filter_cons_of_neg (by rw [zc];decide)];simp
   rw [e1];exact ho
 have hq:¬(k:Int)<16:=by simpa using hq
 have:k=16:=by omega
 subst this;obtain ⟨axC,ak5,hld13,-⟩:=(h0.ext cm).vb;refine ⟨_,hld13,(vh ak5).mono ?_⟩;rintro e lv ⟨vu,rfl,ak6,ig⟩;have z32:=ig.size;have hrd33:=ak6.rd (show 0<4 by decide);have axD:vu.n=M.q.l.length:=by rw [hrd33.n,aN]
 have ak7:∀g,vu.aX=some g->bJ.heap.size<=g/\g<lv.heap.size:=λg hg=>ak6.own.lt hg
 obtain ⟨gq,mq,qs,-,tP,-⟩:=ak5.queue;have hql:M.q.l.length<=4096:=by have:=tP.len;have:=tP.room;omega
 have G0:=ho.ext ig;have eG:∀g,s1.aX=some g->w5.heap.size<=g/\g<bJ.heap.size:=λg hg=>ho.own.lt hg
 have hxs:((sk (rows.map ai) 16).map XV).length<=16:=by rw [aN,Ou];exact sW _
 refine ⟨vu,rfl,ig.heap ab,ig.heap ab,λn x now s1' s2 wr=>∃k:Nat,x=k/\k+n=M.q.l.length/\now=M.now/\s1=s1'/\aC lv tWt 4 wr s2 ((M.q.l.take k).map fI)/\Mod (λi=>i=w2.heap.size\/lv.heap.size<=i) lv wr,⟨M.q.l.length,rfl,0,rfl,by omega,rfl,rfl,aC.nil,Mod.refl _ _⟩,?_⟩;rintro n2 wX x now s1' s2 gO ⟨k,rfl,Fb,rfl,rfl,yW,m41⟩;have z41:=m41.size;have kI:Ext w2 gO:=m41.ext (cm.tr ig) λi hi=>by omega
 apply Br.mk<;>intro hq
 ·have hq:(k:Int)<vu.n:=by simpa using hq
  obtain ⟨it,Rk⟩:=bI (l:=M.q.l) (i:=k) ab;have cO:(M.q.l.map fI)[k]? =some (fI it):=by rw [aU,Rk];rfl
  have xd:=Ext.dr gO;have zd:=lG gO;have gS:RdK gO.drew vu 4 (M.q.l.map fI):=(hrd33.same λg hg=>m41.same g (ak7 g hg).2 λq=>by have:=ak7 g hg;omega).ext xd;have oq:eo vu.a (k:Int) vu.n:=gS.g9 aF ab hq;refine ⟨oq,bE.2 ⟨iN.2 (by rw [gF];exact oq.1),_,gS.at cO (j:=0) (v:=.int .i64 it.1) rfl,oq,bE.2 ⟨iN.2 (by rw [gF];exact oq.1),_,_,_,kT gS cO (off:=1) (vs:=[.int .i64 it.2.1,.int .i64 it.2.2.1,.int .i64 it.2.2.2]) (λj _=>by rw [Nat.add_comm,Bm]),λlg e47=> ?_⟩⟩⟩;have ph:=aL e47;have z47:=zA e47;have BI:∀g,s2.aX=some g->lv.heap.size<=g/\g<gO.heap.size:=λg hg=>yW.own.lt hg
  have dI:s2.n<=4096:=by have h1:=(yW.rd (show 0<4 by decide)).n;rw [aN,du] at h1;omega
  subst e47;obtain ⟨Cq,hres8⟩:=(yW.ext xd).iO (bytes:=32) (news:=fI it) (.cells (fI it).toArray tWt) ab rfl (Q.qO it) ab ab;refine ⟨Cq,λQ2 lA aqr=> ?_⟩;obtain ⟨f8,xc,hn8,x8,Fc,-⟩:=hres8 Q2 lA aqr;have z49:=x8.size;have c5:∀j,j<lv.heap.size->lA.heap[j]? =(gO.drew.alloc (.cells (fI it).toArray tWt)).heap[j]? :=λj hj=>(Fc j (λq=>by have:=BI _ q;omega) ab).trans (ph.heap ab).symm
  refine ⟨c5 _ ab,c5 _ ab,f8,λmi e50=> ?_⟩;have k50:∀j,j≠w2.heap.size->mi.heap[j]? =lA.heap[j]? :=λj hj=>by rw [e50];exact setRow_other _ _ _ _ hj
  have mr:=oZ e50;refine ⟨n2-1,by omega,rfl,k+1,by rw [wI];omega,by omega,rfl,rfl,?_,m41.trans ((Mod.aD xd).trans (Mod.trans ⟨x8.os,x8.tape,x8.output,z49,λi hi hn=>x8.block i ab⟩ (mr.mono λi _ hi=> .inl hi)))⟩;rw [dD,Rk,bU];refine aC.c5 xc λg hg=>k50 g λq=> ?_
  have:=(xc.own.lt hg).1;omega
 ·have hq:¬(k:Int)<vu.n:=by simpa using hq
  have hk':k=M.q.l.length:=by omega
  subst hk';rw [iA] at yW;intro zf e51;have z51:=zR e51;have k51:∀j,j≠w.heap.size->zf.heap[j]? =gO.heap[j]? :=λj hj=>by rw [e51];exact setRow_other _ _ _ _ hj
  refine ⟨s1,s2,rfl,?_,?_,(x0.tr kI).ae e51 (aB _)⟩
  ·refine ((G0.rd aF).same λg hg=>m41.same g ?_ λq=> ?_).same λg hg=>k51 g λq=> ?_
   ·have:=eG g hg;omega
   ·have:=eG g hg;omega
   ·have:=eG g hg;omega
  ·refine (yW.rd aF).same λg hg=>k51 g λq=> ?_
   have:=(yW.own.lt hg).1;omega
end
set_option maxHeartbeats 8000000
set_option linter.unusedVariables false
variable {R:Ending->World->Prop} {w:World} {a0 a1 a2 a3 a4 a5 a6 a7 a8 a9 aA aq au aS aT aW bM bG bH Cr ak ao aw bz bT bR eW eX eD Cs bq bA bo wL wM uS uT wN wO wP Ct Cu Cv Cw Cx Cy Cz CA CB CC:Int}
theorem On.vc{a0:Addr}{a1:Addr}{abm:Int}{sh:Int}{si:Int}{sj:Int}{Te:Int}{Tf:Int}{Tg:Bool}(h:
 Aw w #[bq,bA,bo,wL,wM,uS,uT,wN,wO,wP,abm,sh,si,sj,Te,Tf,Tg] 45 λw0=>
 ah 10 #[bA,(4:Int)] w0 (Ri λx2 w1=>Kp w w0 w1/\
 ah 51 #[.agg #[wL,wM]] w1 (Ra2 λx4 x5 w3=>Kp w w1 w3/\
 Aw w3 #[aa,aa] 40 λw6=>
 Sw w6 w3 #[x4,x5] λw7=>
 ∃(p8:Option Addr),ld w7 (af (some a0) 0)=some (.pointer p8)/\
 ah 18 #[p8] w7 (λe w9=>∃(Ih:Option Addr),e=Ih/\K2 w w3 w7 w9 (
 ah 19 #[Ih] w9 (λe aY=>∃(oF:Option Addr),e=oF/\K2 w w3 w9 aY (
 ∃(Nx:Option Addr),ld aY (af (some a1) 0)=some (.pointer Nx)/\
 ah 19 #[Nx] aY (λe bP=>∃(Rr:Option Addr),e=Rr/\K2 w w3 aY bP (
 Br (oF).isNone
 (R false bP)
 (Br (Rr).isNone
 (R false bP)
 (Br (bq==0)
 (ah 20 #[oF,.agg #[x4,x5]] bP.drew (Ri λcY cJ=>K2 w w3 bP.drew cJ (
 ag cJ (some ⟨w3,0,none⟩) 0 [x4,x5]/\ah 20 #[Rr,.agg #[x4,x5]] cJ (Ri λcn dG=>K2 w w3 cJ dG (
 R (Value.bool (cY==cn)) dG)))))
 (Br (bq==1)
 (ah 21 #[oF,.agg #[x4,x5]] bP.drew (Ri λdh fx=>K2 w w3 bP.drew fx (
 ag fx (some ⟨w3,0,none⟩) 0 [x4,x5]/\ah 21 #[Rr,.agg #[x4,x5]] fx (Ri λdz dT=>K2 w w3 fx dT (
 R (Value.bool (dh==dz)) dT)))))
 (Br (bq==2)
 (ah 22 #[oF] bP (λe fZ=>∃(dQ fy:Int),e=Value.tuple #[dQ,fy]/\K2 w w3 bP fZ (
 ah 22 #[Rr] fZ (λe eH=>∃(g7 gd:Int),e=Value.tuple #[g7,gd]/\K2 w w3 fZ eH (
 Br (dQ==g7)
 (R (Value.bool (fy==gd)) eH)
 (R false eH))))))
 (Br (bq==3)
 (ah 52 #[.agg #[wO,wP,abm]] bP (iC λic ig eF fu=>K2 w w3 bP fu (
 Aw fu #[aa,aa,aa] 28 λjc=>
 Sw jc fu #[ic,ig,eF] λjK=>
 ah 10 #[uS,(60000:Int)] jK (Ri λfB jW=>K3 w w3 fu jK jW (
 ah 10 #[uT,(120000:Int)] jW (Ri λou lf=>K3 w w3 fu jW lf (
 ah 11 #[a0,.agg #[ic,ig,eF],fB,ou] lf (λe jr=>∃(kI lh:Int),e=Value.tuple #[kI,lh]/\K3 w w3 fu lf jr (
 ah 53 #[a1,.agg #[ic,ig,eF],fB,ou] jr (λe jd=>∃(jY nq:Int),e=Value.tuple #[jY,nq]/\K3 w w3 fu jr jd (
 Br (kI==jY)
 (R (Value.bool (lh==nq)) jd)
 (R false jd))))))))))))
 (Br (bq==4)
 (ah 54 #[a0,x2,.agg #[Te,Tf,Tg]] bP (Ri λph qC=>K2 w w3 bP qC (
 ∃(Q2:Sl),ld qC (af (some a1) 2)=some (.slice Q2.a Q2.n Q2.c)/\
 eo Q2.a x2 Q2.n/\aP (dv (af Q2.a ((x2:Int).toNat*13))) (∃(b49:Bool),ld qC (af (af Q2.a ((x2:Int).toNat*13)) 0)=some (.bool b49)/\
 Br b49
 (∃(s50:Sl),ld qC.drew (af (some a1) 2)=some (.slice s50.a s50.n s50.c)/\
 eo s50.a x2 s50.n/\aP (dv (af s50.a ((x2:Int).toNat*13))) ((((af (af s50.a ((x2:Int).toNat*13)) 10)).isSome=true/\Wr qC.drew (af (af s50.a ((x2:Int).toNat*13)) 10) 3)/\bD (af (af s50.a ((x2:Int).toNat*13)) 10)≠some w.heap.size/\bD (af (af s50.a ((x2:Int).toNat*13)) 10)≠some w3.heap.size/\(∀zf,zf=aH qC.drew (af (af s50.a ((x2:Int).toNat*13)) 10) [Te,Tf,Tg]->
 ∃(s52:Sl),ld zf (af (some a1) 2)=some (.slice s52.a s52.n s52.c)/\
 eo s52.a x2 s52.n/\aP (dv (af s52.a ((x2:Int).toNat*13))) (∃(b53:Bool),ld zf (af (af s52.a ((x2:Int).toNat*13)) 0)=some (.bool b53)/\
 Br ((ph==0)==b53)
 (Br (ph==0)
 (R true zf)
 (R (Value.bool (ph==6)) zf))
 (R false zf)))))
 (∃(C1:Sl),ld qC (af (some a1) 2)=some (.slice C1.a C1.n C1.c)/\
 eo C1.a x2 C1.n/\aP (dv (af C1.a ((x2:Int).toNat*13))) (∃(b55:Bool),ld qC (af (af C1.a ((x2:Int).toNat*13)) 0)=some (.bool b55)/\
 Br ((ph==0)==b55)
 (Br (ph==0)
 (R true qC)
 (R (Value.bool (ph==6)) qC))
 (R false qC)))))))
 (Br (bq==5)
 (ah 56 #[bo] bP.drew (Ri λmG pH=>K2 w w3 bP.drew pH (
 ag pH (some ⟨w,2,none⟩) 0 [bo]/\ag pH (some ⟨w,11,none⟩) 0 [sh,si,sj]/\ag pH (some ⟨w,11,none⟩) 0 [sh,si,sj]/\ah 55 #[a0,x2,.agg #[sh,si,sj],mG] pH (Ri λkJ kr=>K2 w w3 pH kr (
 ag kr (some ⟨w,2,none⟩) 0 [bo]/\ag kr (some ⟨w,11,none⟩) 0 [sh,si,sj]/\ah 56 #[bo] kr (Ri λov mQ=>K2 w w3 kr mQ (
 ag mQ (some ⟨w,11,none⟩) 0 [sh,si,sj]/\ah 57 #[a1,x2,.agg #[sh,si,sj],ov] mQ (Ri λsR il=>K2 w w3 mQ il (
 R (Value.bool (kJ==sR)) il)))))))))
 (Br (bq==6)
 (ah 33 #[a0,x2,.agg #[sh,si,sj]] bP (λe sO=>∃(pj mS:Int),e=Value.tuple #[pj,mS]/\K2 w w3 bP sO (
 ah 58 #[a1,x2,.agg #[sh,si,sj]] sO (λe kx=>∃(mI oM:Int),e=Value.tuple #[mI,oM]/\K2 w w3 sO kx (
 Br (pj==mI)
 (R (Value.bool (mS==oM)) kx)
 (R false kx))))))
 (Br (bq==7)
 (ah 28 #[.agg #[uS,uT,wN]] bP (iC λmj ml me np=>K2 w w3 bP np (
 Aw np #[aa,aa,aa] 41 λlD=>
 Sw lD np #[mj,ml,me] λqD=>
 ah 56 #[bo] qD.drew (Ri λFN jt=>K3 w w3 np qD.drew jt (
 ag jt (some ⟨w,2,none⟩) 0 [bo]/\ag jt (some ⟨np,0,none⟩) 0 [mj,ml,me]/\ag jt (some ⟨np,0,none⟩) 0 [mj,ml,me]/\ah 59 #[a0,.agg #[mj,ml,me],FN] jt (Ri λvt pk=>K3 w w3 np jt pk (
 ag pk (some ⟨w,2,none⟩) 0 [bo]/\ag pk (some ⟨np,0,none⟩) 0 [mj,ml,me]/\ah 56 #[bo] pk (Ri λsK uA=>K3 w w3 np pk uA (
 ag uA (some ⟨np,0,none⟩) 0 [mj,ml,me]/\ah 60 #[a1,.agg #[mj,ml,me],sK] uA (Ri λsQ w82=>K3 w w3 np uA w82 (
 R (Value.bool (vt==sQ)) w82)))))))))))
 (Br (bq==8)
 (ah 13 #[a0,x2] bP (Ri λAN JP=>K2 w w3 bP JP (
 ∃(s86:Sl),ld JP (af (some a1) 2)=some (.slice s86.a s86.n s86.c)/\
 eo s86.a x2 s86.n/\aP (dv (af s86.a ((x2:Int).toNat*13))) (∃(b87:Bool),ld JP (af (af s86.a ((x2:Int).toNat*13)) 0)=some (.bool b87)/\
 ∃(s88:Sl),ld JP (af (some a1) 2)=some (.slice s88.a s88.n s88.c)/\
 eo s88.a x2 s88.n/\(((af s88.a ((x2:Int).toNat*13))).isSome=true/\Wr JP (af s88.a ((x2:Int).toNat*13)) 13)/\bD (af s88.a ((x2:Int).toNat*13))≠some w.heap.size/\bD (af s88.a ((x2:Int).toNat*13))≠some w3.heap.size/\(∀gf,gf=aH JP (af s88.a ((x2:Int).toNat*13)) [.bool false,aa,aa,aa,aa,aa,aa,aa,aa,false,aa,aa,false]->
 Br ((AN==0)==b87)
 (Br (AN==0)
 (R true gf)
 (R (Value.bool (AN==6)) gf))
 (R false gf))))))
 (Br (bq==9)
 (ah 35 #[a0] bP (Ri λFt ow=>K2 w w3 bP ow (
 ah 62 #[a1] ow (λe ZZ=>∃(uz:Int)(s94 s95:Sl),e=Value.agg #[uz,s94,s95]/\K2 w w3 ow ZZ (
 ah 34 #[.agg #[uz,s94,s95]] ZZ (Rs λs97 w96=>K2 w w3 ZZ w96 (
 ah 61 #[Rr,s97] w96 (Ri λIe GM=>K2 w w3 w96 GM (
 R (Value.bool (Ft==Ie)) GM)))))))))
 (Br (bq==10)
 (ah 32 #[a0,x2,.agg #[sh,si,sj]] bP (λe rL=>∃(pL tU yS tV sL oN ox:Int),e=Value.tuple #[.agg #[pL,tU,yS,tV,sL,oN],ox]/\K2 w w3 bP rL (
 Aw rL #[aa,aa,aa,aa,aa,aa] 77 λtY=>
 Sw tY rL #[pL,tU,yS,tV,sL,oN] λFl=>
 ah 63 #[a1,x2,.agg #[sh,si,sj]] Fl (λe Fo=>∃(mf jm yT CF Ww Wq aaK:Int),e=Value.tuple #[.agg #[mf,jm,yT,CF,Ww,Wq],aaK]/\K3 w w3 rL Fl Fo (
 Aw Fo #[aa,aa,aa,aa,aa,aa] 77 λFp=>
 Sw Fp Fo #[mf,jm,yT,CF,Ww,Wq] λpJ=>
 Br (ox==aaK)
 (Br ((pL==mf) &&((tU==jm) &&(yS==yT)))
 (Br (tV==CF)
 (Br (sL==Ww)
 (R (Value.bool (oN==Wq)) pJ)
 (R false pJ))
 (R false pJ))
 (R false pJ))
 (R false pJ))))))
 (ah 64 #[a0] bP (Ri λRg Fy=>K2 w w3 bP Fy (
 ah 65 #[a1] Fy (Ri λGN Nn=>K2 w w3 Fy Nn (
 R (Value.bool (Rg==GN)) Nn)))))))))))))))))))))))))):ah 15 #[a0,a1,.agg #[bq,bA,bo,wL,wM,uS,uT,wN,wO,wP,abm,sh,si,sj,Te,Tf,Tg]] w R:=
 cq bV Tryz.func15 h
theorem CU{a b:List Int}(ha:mY a)(hb:mY b):mY (a++b):=λx hx=>(di.1 hx).elim (ha x) (hb x)
theorem Sy(n:Int):mY (B7 n):=λx hx=>by
 obtain ⟨q,-,rfl⟩:=aZ.1 hx
 exact YF n q
theorem EZ{α:Type}{f:α->List Int}{l:List α}(h:∀x ∈ l,mY (f x)):mY (l.map f).flatten:=λx hx=>by
 obtain ⟨r,hr,hx⟩:=List.mem_flatten.1 hx
 obtain ⟨y,hy,rfl⟩:=aZ.1 hr
 exact h y hy x hx
theorem MI(l:List Int):mY (lW l):=EZ λx _=>Sy x
theorem adg(n m:Int):mY [n % 256,m % 256]:=λx hx=>by
 simp at hx
 rcases hx with rfl|rfl<;>omega
theorem RE(M:Sm)(L:List (Option dZ)):mY (nJ M L):=by
 unfold nJ dC fq uu;refine CU (CU (CU (Sy _) λx hx=> ?_) (EZ λx hx=> ?_)) (CU (adg _ _) (EZ λx _=>MI _))
 ·simp at hx;omega
 ·obtain ⟨i,rfl,hi,y,hy⟩:=Ez hx;unfold Bj gr;rw [hy];intro z hz;rcases cB.1 hz with rfl|hz
  ·omega
  ·rcases di.1 hz with hz|hz
   ·exact MI _ z hz
   ·have:z=stB y.1.gV:=by simpa using hz
    rw [this];unfold stB;split<;>decide
theorem RD(M:Sm)(L:List (Option dZ)):(nJ M L).length<=50000:=by have h1:=wA L (cg L);have h2:=sW L;have h3:=JE (M.q.l.take 2000);rw [du] at h3;unfold nJ dC uu;rw [dm,dm,dm,dm,h3,tC];simp only [dt,List.length_nil];omega
section
variable {F F':Nat->Prop} {w w':World} {g s o t m:Nat} {M M':Sm} {occ:Value} {L:List (Option dZ)} {rows:List im}
theorem rO{ch:List Cg}{T:Tb}{ar limit:Int}(h:WF F w o t ar limit T ch)(hW:T.1.l.length<=900000):
  ah 22 #[t] w λe w'=>e=Value.tuple #[.int .i64 (mD T.1 T.2).2.1,.int .i64 (mD T.1 T.2).2.2]/\FV F w o t ar limit (mD T.1 T.2).1 ch w':=by
 obtain ⟨F1,hT,-,bw⟩:=h.table;refine (Ck hT hW).mono ?_;rintro e w' ⟨rfl,hr⟩;exact ⟨rfl,bw hr⟩
theorem A1{ch:List Cg}{T:Tb}{ar limit:Int}(h:WF F w o t ar limit T ch)(hW:T.1.l.length<=1000000)(sl:Sl)(b:List Int)(hs:jf w sl b)(hb:mY b)(hn:b.length<=1099511627776):
  ah 61 #[t,sl] w λe w'=>e=Value.int .i64 (xA T.1 0 b).2/\FV F w o t ar limit ((xA T.1 0 b).1,T.2) ch w':=by
 obtain ⟨F1,hT,-,bw⟩:=h.table;refine (MJ hT hW sl b hs hb hn).mono ?_;rintro e w' ⟨rfl,hr⟩;exact ⟨rfl,bw hr⟩
theorem EF.world(h:EF F w g s o t M occ L):∃Fw,WF Fw w o t M.ar M.cap M.T M.ch/\∀{w':World} {T':Tb} {ch':List Go.fR.Cg},FV Fw w o t M.ar M.cap T' ch' w'->jh F w g s o t {M with T:=T',ch:=ch'} occ L w':=by obtain ⟨Fs,hs,-,-,bw⟩:=h.vb;obtain ⟨Fw,hW,-,hresW⟩:=hs.world;exact ⟨Fw,hW,λhr=>bw (hresW hr)⟩
theorem MF.world(h:MF F w m s o t M occ rows):∃Fw,WF Fw w o t M.ar M.cap M.T M.ch/\∀{w':World} {T':Tb} {ch':List Go.fR.Cg},FV Fw w o t M.ar M.cap T' ch' w'->kA F w m s o t {M with T:=T',ch:=ch'} occ rows w':=by obtain ⟨Fs,hs,-,-,-,bw⟩:=h.vb;obtain ⟨Fw,hW,-,hresW⟩:=hs.world;exact ⟨Fw,hW,λhr=>bw (hresW hr)⟩
abbrev Xe(M:Sm)(L:List (Option dZ)):Sm:={M with T:=((xA M.T.1 0 (nJ M L)).1,M.T.2)}
theorem Tn(h:EF F w g s o t M occ L)(hW:M.T.1.l.length<=1000000):ah 35 #[g] w λe w'=>e=Value.int .i64 (xA M.T.1 0 (nJ M L)).2/\jh F w g s o t (Xe M L) occ L w':=by apply wF.vc;have xd:=Ext.cE w;have hd:=h;obtain ⟨Fs,hs,jq,-,-⟩:=hd.vb;obtain ⟨Fw,hW0,-,-⟩:=hs.world;refine ⟨_,jq,(fO hs).mono ?_⟩;rintro e w1 ⟨rfl,Ru⟩;subst Ru;refine ⟨_,rfl,(oT hW0).mono ?_⟩;rintro e w2 ⟨rfl,AQ⟩;subst AQ;refine ⟨_,rfl,(Mz hd).mono ?_⟩;rintro e w3 ⟨sl,rfl,ho,x3⟩;obtain ⟨Fw3,hW3,bw⟩:=(hd.ext x3).world;have hl:=RD M L;refine ⟨sl,rfl,(A1 hW3 hW sl (nJ M L) (ho.rd aF) (RE M L) ab).mono ?_⟩;rintro e w4 ⟨rfl,hr⟩;exact ⟨_,rfl,rfl,jh.aD (xd.tr x3) (bw hr)⟩
end
structure RC where
 kind:Int
 n:Int
 b:Int
 p:Po
 c:Ce
 aI:Ce
 cK:Ce
 uC:Ga
abbrev dL(d:RC):LV:=[.int .i64 d.kind,.int .i64 d.n,.int .i64 d.b,.int .i64 d.p.1,.int .i64 d.p.2,.int .i64 d.c.1,.int .i64 d.c.2.1,.int .i64 d.c.2.2,.int .i64 d.aI.1,.int .i64 d.aI.2.1,.int .i64 d.aI.2.2,.int .i64 d.cK.1,.int .i64 d.cK.2.1,.int .i64 d.cK.2.2,.int .i64 d.uC.1,.int .i64 d.uC.2.1,.bool d.uC.2.2]
abbrev dV(d:RC):Value:=.agg (dL d).toArray
def dIn(d:RC):Prop:=inI d.kind/\inI d.n/\inI d.b/\(inI d.p.1/\inI d.p.2)/\pn d.c/\pn d.aI
def G1(rows:List im)(i:Int)(uC:Ga):List im:=match rows[i.toNat]? with|some r=>if r.1=true then rows.set i.toNat (r.1,(r.2.1,uC)) else rows|none=>rows
def C8(rows:List im)(i:Int):List im:=rows.set i.toNat (false,(Da,(0,0,false)))
abbrev ix(d:RC):Int:=cH d.n 4
abbrev R3(d:RC):ef:=fe (Kl d.aI) (cH d.c.1 60000) (cH d.c.2.1 120000)
def wY(M:Sm)(rows:List im)(d:RC):Sm × List im:=
 if d.kind=0 then ({M with T:=(Gk M.ar M.cap M.T.1 M.T.2 (xk d.p)).1},rows)
 else if d.kind=1 then ({M with T:=(lV M.T.1 M.T.2 (xk d.p)).1},rows)
 else if d.kind=2 then ({M with T:=(mD M.T.1 M.T.2).1},rows)
 else if d.kind=3 then (M,tf M rows (R3 d))
 else if d.kind=4 then (M,G1 rows (ix d) d.uC)
 else if d.kind=5 then ((nI M (rows.map ai) (ix d) d.cK (FT d.b)).2,rows)
 else if d.kind=6 then ((fG M (rows.map ai) (ix d) d.cK).2,rows)
 else if d.kind=7 then ((eR M (rows.map ai) (AZ d.c) (FT d.b)).2,rows)
 else if d.kind=8 then (M,C8 rows (ix d))
 else if d.kind=9 then (Xe M (rows.map ai),rows)
 else if d.kind=10 then (M,rows)
 else ((sX M (rows.map ai)).1,oR M rows)
def Lz(b:ef):Prop:=(-1000000<=b.speed.1/\b.speed.1<=1000000)/\-1000000<=b.speed.2.2/\b.speed.2.2<=1000000
def okT(x:gg.It):Prop:=zn x.2/\0<=x.1/\x.1<=2000000000000
structure Jv(k:Nat)(M:Sm)(L:List (Option dZ)):Prop where
 b:sC (1200000+3300000000*(k:Int)) L
 s:qH M (3000*k)
 d:M.T.1.l.length<=20*k
 t:∀e ∈ M.T.2,sM e.1
 q:∀x ∈ M.q.l,okT x
 x:∀y,some y ∈ L->Lz y.1
 u:1<=M.dH/\M.dH<=64
theorem Jv.mono{k n:Nat}{M:Sm}{L:List (Option dZ)}(h:Jv k M L)(hk:k<=n):Jv n M L:=⟨h.b.up ab,h.s.mono ab,by have:=h.d;omega,h.t,h.q,h.x,h.u⟩
theorem Sr{D:Dk}{l:List En}{i:Nat}:(∀e ∈ l,sM e.1)->∀e ∈(Ph D l i).1.2,sM e.1:=by
 intro h;unfold Ph;split
 ·exact h
 ·rename_i e he;split
  ·exact λx hx=>h x ((List.eraseIdx_sublist ..).subset hx)
  ·intro x hx;rcases kh hx with hx|rfl
   ·exact h x hx
   ·have h1:(de D e).2.1.1=e.1:=by unfold de;split<;>rfl
    rw [h1];exact h e (bg he)
theorem ajQ{D:Dk}{l:List En}{i:Nat}:(Ph D l i).1.2.length<=l.length:=by
 unfold Ph;split
 ·exact aB _
 ·split
  ·exact List.length_eraseIdx_le ..
  ·rw [iq];exact aB _
theorem HZ{limit:Int}{D:Dk}{l:List En}(h:∀e ∈ l,sM e.1):∀e ∈(fo limit D l).1.2,sM e.1:=by
 unfold fo;split
 ·exact h
 ·split
  ·exact h
  ·exact Sr h
theorem ajE{ar limit:Int}{D:Dk}{l:List En}{p:Po}(h:∀e ∈ l,sM e.1):(∀e ∈(Gk ar limit D l p).1.2,sM e.1)/\(Gk ar limit D l p).1.1.l.length<=D.l.length+1:=by
 unfold Gk;split
 ·exact ⟨h,by simp only;omega⟩
 split
 ·refine ⟨λe he=> ?_,by simp only;omega⟩;rcases di.1 he with he|he
  ·exact h e ((List.eraseIdx_sublist ..).subset he)
  ·exact h e (bg (Option.mem_toList.1 he))
 split
 ·exact ⟨HZ h,Jd _ _ _⟩
 ·refine ⟨λe he=> ?_,Jd _ _ _⟩;rename_i hp _ _;rcases di.1 he with he|he
  ·exact HZ h e he
  ·rw [List.mem_singleton.1 he];simpa using hp
theorem acI{D:Dk}{l:List En}{p:Po}(h:∀e ∈ l,sM e.1):(∀e ∈(lV D l p).1.2,sM e.1)/\(lV D l p).1.1.l.length<=D.l.length+1/\(lV D l p).1.2.length<=l.length:=by
 unfold lV;split
 ·split
  ·exact ⟨h,by simp only;omega,aB _⟩
  ·exact ⟨Sr h,aeF _ _ _,ajQ⟩
 ·exact ⟨h,by simp only;omega,aB _⟩
theorem Ym:∀(l:List En) {D:Dk} {pre:List En} {n:Int},(∀e ∈ pre,sM e.1)->(∀e ∈ l,sM e.1)->(∀e ∈(P5 D pre l n).1.2,sM e.1)/\(P5 D pre l n).1.1.l.length<=D.l.length+l.length/\(P5 D pre l n).1.2.length=pre.length+l.length
 | [],D,pre,n,hp,_=>⟨hp,by simp [P5],by simp [P5]⟩
 |e::l,D,pre,n,hp,hl=>by
  have h1:(de D e).2.1.1=e.1:=by unfold de;split<;>rfl
  have hl1:=Jc D e;have he:=hl e bB;unfold P5;split
  ·obtain ⟨q1,q2,q3⟩:=Ym l (D:=(de D e).1) (pre:=pre++ [(de D e).2.1]) (n:=if e.2.2.1=true then n+1 else n) (λx hx=>by
    rcases di.1 hx with hx|hx
    ·exact hp x hx
    ·rw [List.mem_singleton.1 hx,h1];exact he) λx hx=>hl x (by simp [hx])
   rw [dm,List.length_singleton] at q3;exact ⟨q1,by rw [dt];omega,by rw [dt];omega⟩
  ·refine ⟨λx hx=> ?_,by rw [dt];simp only;omega,by simp⟩;simp only at hx;rcases di.1 hx with hx|hx
   ·exact hp x hx
   ·rcases cB.1 hx with rfl|hx
    ·rw [h1];exact he
    ·exact hl x (by simp [hx])
theorem HK{l:List En}{c:Ce}{b:Int}(h:(gI l c b).2=0):DA c/\∃e ∈ l,e.1=pos c:=by
 unfold gI at h;split at h
 ·simp only at h;omega
 rename_i h1;split at h
 ·simp only at h;omega
 rename_i h2;refine ⟨by simpa using h2,?_⟩;rcases fg (λe:En=>e.1==pos c) l with ⟨e,-⟩|⟨k,x,hx,hq,-,-⟩
 ·rw [e] at h1;omega
 ·exact ⟨x,bg hx,by simpa using hq⟩
theorem ac6{l:List En}{c:Ce}{b:Int}(h:∀e ∈ l,sM e.1):∀e ∈(gI l c b).1,sM e.1:=by
 unfold gI;split
 ·exact h
 split
 ·exact h
 split
 ·exact h
 ·intro e he;rcases di.1 he with he|he
  ·exact h e ((List.eraseIdx_sublist ..).subset he)
  ·obtain ⟨x,hx,rfl⟩:=Option.map_eq_some_iff.1 (Option.mem_toList.1 he);exact h x (bg hx)
theorem Zm{c:Ce}(h:sM (pos c))(hy:DA c):(-9000000<=c.1/\c.1<=9000000)/\(0<=c.2.1/\c.2.1<32)/\-9000000<=c.2.2/\c.2.2<=9000000:=by unfold sM pos at h;unfold DA at hy;simp only at h;omega
theorem Ss{q:QS}{c:Ce}{t:Int}{x:gg.It}(h:x ∈(oH q c t).1.l):x ∈ q.l\/x=(t,c):=by
 unfold oH at h;split at h
 ·split at h
  ·exact .inl h
  ·rcases (Et _ _ _).1 h with h|h
   ·exact .inr h
   ·exact .inl ((As q.l c).subset h)
 ·split at h
  ·exact .inl h
  ·rcases (Et _ _ _).1 h with h|h
   ·exact .inr h
   ·exact .inl h
theorem Su{V:Ce->Int}{now:Int}{c:Ce}:∀(l:List Ce) {q:QS} {x:gg.It},x ∈(l.foldl (λq n=>(oH q n (now+jk (V n))).1) q).l->x ∈ q.l\/(x.2 ∈ l/\now<=x.1/\x.1<=now+5)
 | [],q,x,h=> .inl h
 |n::l,q,x,h=>by
  rcases Su (c:=c) l h with h|h
  ·rcases Ss h with h|h
   ·exact .inl h
   ·have:=LF (V n)
    exact .inr (by rw [h];exact ⟨by simp,by simp only;omega,by simp only;omega⟩)
  ·exact .inr ⟨List.mem_cons_of_mem _ h.1,h.2⟩
theorem Vw{V:Ce->Int}{c:Ce}(h:(-9000000<=c.1/\c.1<=9000000)/\(0<=c.2.1/\c.2.1<32)/\-9000000<=c.2.2/\c.2.2<=9000000):∀n ∈ rf V c,zn n:=by intro n hn;have hn:=(List.mem_filter.1 hn).1;obtain ⟨x,y,z⟩:=c;simp only at h;unfold zn;simp only [pN,cB,jQ,or_false] at hn;rcases hn with rfl|rfl|rfl|rfl|rfl|rfl|rfl<;>(try simp only [eT,BA])<;>omega
def Nr(M:Sm):Prop:=(∀e ∈ M.T.2,sM e.1)/\(∀x ∈ M.q.l,okT x)/\0<=M.now/\M.now<=1099511627776
theorem Nr.edit{M:Sm}(h:Nr M)(c:Ce)(b:Int):Nr (vj M c b):=by
 refine ⟨ac6 h.1,λx hx=> ?_,h.2.2⟩;have hx:x ∈(if (gI M.T.2 c b).2=0 then Ej (gy (gI M.T.2 c b).1) M.now M.q c else M.q).l:=hx;split at hx
 ·rename_i h0;obtain ⟨hy,e,he,hp⟩:=HK h0;have hc:=Zm (by rw [<-hp];exact h.1 e he) hy;rcases Su (c:=c) _ hx with hx|⟨hx,h1,h2⟩
  ·exact h.2.1 x hx
  ·have:=h.2.2;exact ⟨Vw hc _ hx,by omega,by omega⟩
 ·exact h.2.1 x hx
theorem Nr.change{M:Sm}(h:Nr M)(x:Go.fR.Cg):Nr (dE M x):=by
 unfold dE;split
 ·exact h
 ·exact h.edit _ _
theorem Nr.changes:∀(l:List Go.fR.Cg) {M:Sm},Nr M->Nr (l.foldl dE M)
 | [],M,h=>h
 |x::l,M,h=>Nr.changes l (h.change x)
theorem Nr.upd{M:Sm}(h:Nr M)(O:Ce->Bool){c:Ce}(hc:zn c):Nr (px O M c):=by
 unfold px;split
 ·refine ⟨h.1,λx hx=> ?_,h.2.2⟩;rcases Ss hx with hx|hx
  ·exact h.2.1 x hx
  ·have:=h.2.2;rw [hx];exact ⟨hc,by simp only;omega,by simp only;omega⟩
 split
 ·exact Nr.change (M:={M with ki:=M.ki++ [eT c]}) h (c,0)
 ·exact Nr.changes _ h
theorem Nr.Uz(O:Ce->Bool):∀(l:List Ce) {M:Sm},G3 l->Nr M->Nr (l.foldl (px O) M)
 | [],M,_,h=>h
 |c::l,M,hl,h=>Nr.Uz O l (λy hy=>hl y (by simp [hy])) (h.upd O (hl c bB))
theorem Nr.due{M:Sm}(h:Nr M):G3 (sm M):=λy hy=>by
 have hy:y ∈(M.q.l.take (iH M.q.l (re M) M.dH)).map (·.2):=hy
 obtain ⟨x,hx,rfl⟩:=aZ.1 hy
 exact (h.2.1 x (List.mem_of_mem_take hx)).1
theorem Nr.tick{M:Sm}(h:Nr M)(O:Ce->Bool):Nr (Ly O M):=Nr.Uz O _ h.due ⟨h.1,λx hx=>h.2.1 x (List.mem_of_mem_drop (show x ∈ M.q.l.drop _ from hx)),by have:=h.2.2;show 0<=re M/\re M<=_;unfold re;omega⟩
theorem tM:∀(l:List Go.fR.Cg)(M:Sm),(l.foldl dE M).dH=M.dH
 | [],M=>rfl
 |x::l,M=>(tM l (dE M x)).trans (by unfold dE;split<;>rfl)
theorem QD(O:Ce->Bool)(M:Sm)(c:Ce):(px O M c).dH=M.dH:=by
 unfold px;split
 ·rfl
 split
 ·unfold dE;split<;>rfl
 ·exact tM _ _
theorem Bq(O:Ce->Bool):∀(l:List Ce)(M:Sm),(l.foldl (px O) M).dH=M.dH
 | [],M=>rfl
 |c::l,M=>(Bq O l (px O M c)).trans (QD O M c)
theorem Jf(O:Ce->Bool)(M:Sm):(Ly O M).dH=M.dH:=Bq O _ _
theorem Hy(O:Ce->Bool):∀(l:List Ce)(M:Sm),(l.foldl (px O) M).T.1=M.T.1
 | [],M=>rfl
 |c::l,M=>(Hy O l (px O M c)).trans (by
  have ch:∀(M:Sm)(x:Go.fR.Cg),(dE M x).T.1=M.T.1:=λM x=>by unfold dE;split<;>rfl
  have chs:∀(l:List Go.fR.Cg)(M:Sm),(l.foldl dE M).T.1=M.T.1:=λl=>by
   induction l with
   |nil=>exact λM=>rfl
   |cons x l ih=>exact λM=>(ih _).trans (ch M x)
  unfold px
  split
  ·rfl
  split
  ·exact ch _ _
  ·exact chs _ _)
theorem acC{V:Ce->Int}{i k:Nat}{l:List ef}{m:Int}(h:∀b ∈ l,okB m b)(hm:m<=99970000000000):(∀b ∈ yc V i k l,okB (m+12582912) b)/\(yc V i k l).length=l.length:=by
 unfold yc;split
 ·rename_i a b ha hb;refine ⟨λx hx=> ?_,by rw [iq,iq]⟩;rcases kh hx with hx|rfl
  ·rcases kh hx with hx|rfl
   ·exact (h x hx).up ab
   ·exact ye (h a (bg ha)) hm
  ·exact ye (h b (bg hb)) hm
 ·exact ⟨λx hx=>(h x hx).up ab,rfl⟩
theorem Yh{V:Ce->Int}{i:Nat}:∀(n k:Nat) {l:List ef} {m:Int},(∀b ∈ l,okB m b)->m+n*12582912<=99970000000000->(∀b ∈ Gn V i k n l,okB (m+n*12582912) b)/\(Gn V i k n l).length=l.length
 |0,k,l,m,h,hm=>⟨λx hx=>(h x hx).up ab,rfl⟩
 |n+1,k,l,m,h,hm=>by
  obtain ⟨q1,q2⟩:=acC (V:=V) (i:=i) (k:=k) h ab
  obtain ⟨p1,p2⟩:=Yh (V:=V) (i:=i) n (k+1) q1 ab
  exact ⟨λx hx=>(p1 x hx).up ab,p2.trans q2⟩
theorem aeG{V:Ce->Int}:∀(n i:Nat) {l:List ef} {m:Int},l.length<=16->(∀b ∈ l,okB m b)->m+n*(16*12582912)<=99970000000000->(∀b ∈ crB V i n l,okB (m+n*(16*12582912)) b)
 |0,i,l,m,hl,h,hm=>λx hx=>(h x hx).up ab
 |n+1,i,l,m,hl,h,hm=>by
  obtain ⟨q1,q2⟩:=Yh (V:=V) (i:=i) (l.length-(i+1)) (i+1) h ab
  have p:=aeG (V:=V) n (i+1) (l:=Gn V i (i+1) (l.length-(i+1)) l) (m:=m+16*12582912) (by rw [q2];exact hl) (λx hx=>(q1 x hx).up ab) ab
  exact λx hx=>(p x hx).up ab
theorem Yi{V:Ce->Int}{l:List ef}{m:Int}(h:∀b ∈ l,okB m b)(hl:l.length<=16)(hm:m<=99960000000000):∀b ∈ q9 V l,okB (m+16*16*12582912) b:=λx hx=>(aeG l.length 0 hl h ab x hx).up ab
theorem Yj{M:Sm}{L:List (Option dZ)}{m:Int}(h:sC m L)(hm0:0<=m)(hm:m<=99900000000000):sC (m+3300000000) (o5 M L):=by
 refine CP _ (h.up ab) λx hx=> ?_
 have hx:=(List.of_mem_zip hx).2;have hb:=D9 (M:=M) h ab;exact (Yi hb (by rw [aN];exact I9 M L) ab x.2 hx).up ab
theorem C7{rows:List im}(i:Int)(hi:0<=i)(uC:Ga):(G1 rows i uC).map ai=(pS (rows.map ai) i uC).2:=by
 obtain ⟨k,rfl⟩:∃k:Nat,i=k:=⟨i.toNat,by omega⟩;unfold G1 pS;rw [ej]
 cases hq:rows[k]? with
 |none=>
  have:cc (rows.map ai) ((k:Nat):Int)=none:=by unfold cc;rw [if_pos ab,ej,aU,hq];rfl
  rw [this]
 |some r=>
  rw [lF (rows:=rows) (n:=(k:Nat)) rfl hq];obtain ⟨th,bd,inq⟩:=r
  cases th with
  |false=>rfl
  |true=>
   show ((rows.set k (true,(bd,uC))).map ai)=(rows.map ai).set k (some (bd,uC));rw [List.map_set];rfl
theorem C9{rows:List im}(i:Int)(hi:0<=i):(C8 rows i).map ai=(pT (rows.map ai) i).2:=by
 obtain ⟨k,rfl⟩:∃k:Nat,i=k:=⟨i.toNat,by omega⟩;unfold C8 pT;rw [ej,List.map_set];have h0:ai (false,(Da,(0,0,false)))=none:=rfl;rw [h0];split
 ·rename_i h;unfold cc at h;rw [if_pos ab,ej] at h;show (rows.map ai).set k none=rows.map ai;refine iY λj=> ?_
  by_cases e:k=j
  ·subst e;by_cases hk:k<(rows.map ai).length
   ·rw [oP hk,cZ hk];rw [cZ hk] at h;simp only [Option.join_some] at h;rw [Option.isNone_iff_eq_none.1 h]
   ·rw [ju (by rw [iq];omega),ju ab]
  ·rw [List.getElem?_set_ne e]
 ·rfl
theorem acE{L:List (Option dZ)}{m:Int}(h:sC m L)(i:Int):sC m (pT L i).2:=by
 unfold pT;split
 ·exact h
 ·intro y hy;rcases kh hy with hy|hy
  ·exact h y hy
  ·cases hy
theorem acF{L:List (Option dZ)}{m:Int}(h:sC m L)(i:Int)(uC:Ga):sC m (pS L i uC).2:=by
 unfold pS
 cases hq:cc L i with
 |none=>exact h
 |some y=>
  intro z hz;rcases kh hz with hz|hz
  ·exact h z hz
  ·cases hz
   unfold cc at hq;split at hq
   ·exact h y (bg (Option.join_eq_some_iff.1 hq))
   ·cases hq
theorem Yk{M:Sm}{L:List (Option dZ)}{m:Int}(h:sC m L){b:ef}(hb:okB m b):sC m (dn M L b).2.2:=by
 unfold dn;split
 ·exact h
 split
 ·exact h
 split
 ·exact h
 split
 ·exact h
 ·intro z hz;rcases kh hz with hz|hz
  ·exact h z hz
  ·cases hz
   exact hb
theorem acG(d:RC):okB 1200000 (R3 d):=by have h1:=c9 d.aI.1 589825 aF;have h2:=c9 d.aI.2.1 589825 aF;have h3:=c9 d.aI.2.2 589825 aF;have h4:=c9 d.c.1 60000 aF;have h5:=c9 d.c.2.1 120000 aF;unfold okB R3 fe Kl jw;simp only;omega
abbrev B5(L:List (Option dZ)):Prop:=∀y,some y ∈ L->Lz y.1
theorem af9(h:Ht){b:ef}(hb:Lz b):(-1000000<=(lU h b.speed).1/\(lU h b.speed).1<=1000000)/\-1000000<=(lU h b.speed).2.2/\(lU h b.speed).2.2<=1000000:=by
 have c0:dB 0=0:=by decide
 have e1:(lU h b.speed).1=if h.1=true then dB 0 else b.speed.1:=by
  unfold lU
  cases h.1<;>cases h.2.1<;>cases h.2.2<;>rfl
 have e2:(lU h b.speed).2.2=if h.2.2=true then dB 0 else b.speed.2.2:=by
  unfold lU
  cases h.1<;>cases h.2.1<;>cases h.2.2<;>rfl
 unfold Lz at hb;rw [e1,e2,c0];constructor<;>split<;>omega
theorem aga(V:Ce->Int)(b:ef)(i:Ga):Lz (tu V b i):=by
 have h1:Lz (rV b i):=by
  have h0:∀n,-1000000<=Hs n/\Hs n<=1000000:=λn=>by unfold Hs;omega
  exact ⟨h0 _,h0 _⟩
 have h2:Lz (qn V (rV b i) i):=by
  unfold qn;split
  ·exact h1
  ·split<;>exact h1
 exact af9 _ h2
theorem agb{V:Ce->Int}{i k:Nat}{l:List ef}(h:∀b ∈ l,Lz b):∀b ∈ yc V i k l,Lz b:=by
 unfold yc;split
 ·rename_i a b ha hb;intro x hx;rcases kh hx with hx|rfl
  ·rcases kh hx with hx|rfl
   ·exact h x hx
   ·exact h a (bg ha)
  ·exact h b (bg hb)
 ·exact h
theorem aeH{V:Ce->Int}{i:Nat}:∀(n k:Nat) {l:List ef},(∀b ∈ l,Lz b)->∀b ∈ Gn V i k n l,Lz b
 |0,k,l,h=>h
 |n+1,k,l,h=>aeH n (k+1) (agb h)
theorem ajC{V:Ce->Int}:∀(n i:Nat) {l:List ef},(∀b ∈ l,Lz b)->∀b ∈ crB V i n l,Lz b
 |0,i,l,h=>h
 |n+1,i,l,h=>ajC n (i+1) (aeH _ _ h)
theorem ajD{L:List (Option dZ)}{i:Nat}{b:ef}(h:B5 L)(hb:Lz b):B5 (vT L i b):=by
 unfold vT
 cases hq:cc L i with
 |none=>exact h
 |some y=>
  intro z hz;rcases kh hz with hz|hz
  ·exact h z hz
  ·cases hz
   exact hb
theorem Yl:∀(l:List (Nat × ef)) {L:List (Option dZ)},B5 L->(∀x ∈ l,Lz x.2)->B5 (Bp L l)
 | [],L,h,_=>h
 |x::l,L,h,hl=>Yl l (ajD h (hl x bB)) λy hy=>hl y (by simp [hy])
theorem agc{M:Sm}{L:List (Option dZ)}(h:B5 L):B5 (o5 M L):=by
 refine Yl _ h λx hx=>ajC _ _ (λb hb=> ?_) x.2 (List.of_mem_zip hx).2
 obtain ⟨i,hi,rfl⟩:=aZ.1 hb;obtain ⟨-,y,hy⟩:=tq hi;unfold mC;rw [hy];exact aga _ _ _
theorem agd{L:List (Option dZ)}(h:B5 L)(i:Int):B5 (pT L i).2:=by
 unfold pT;split
 ·exact h
 ·intro y hy;rcases kh hy with hy|hy
  ·exact h y hy
  ·cases hy
theorem age{L:List (Option dZ)}(h:B5 L)(i:Int)(uC:Ga):B5 (pS L i uC).2:=by
 unfold pS
 cases hq:cc L i with
 |none=>exact h
 |some y=>
  intro z hz;rcases kh hz with hz|hz
  ·exact h z hz
  ·cases hz
   unfold cc at hq;split at hq
   ·exact h y (bg (Option.join_eq_some_iff.1 hq))
   ·cases hq
theorem acH{M:Sm}{L:List (Option dZ)}(h:B5 L){b:ef}(hb:Lz b):B5 (dn M L b).2.2:=by
 unfold dn;split
 ·exact h
 split
 ·exact h
 split
 ·exact h
 split
 ·exact h
 ·intro z hz;rcases kh hz with hz|hz
  ·exact h z hz
  ·cases hz
   exact hb
theorem Jv.edits{k:Nat}{M:Sm}{L:List (Option dZ)}(h:Jv k M L)(c:Ce)(b:Int):Jv (k+1) (vj M c b) L:=by have hN:Nr (vj M c b):=Nr.edit ⟨h.t,h.q,h.s.now⟩ c b;exact ⟨h.b.up ab,(h.s.edit c b).mono ab,by have:=h.d;show M.T.1.l.length<=_;omega,hN.1,hN.2.1,h.x,h.u⟩
theorem Jv.Hz{k:Nat}{M:Sm}{L L':List (Option dZ)}(h:Jv k M L)(c:Ce)(b:Int):Jv (k+1) (eR M L' c b).2 L:=by
 unfold eR;split
 ·exact h.mono (Nat.le_succ _)
 ·exact h.edits c b
set_option maxHeartbeats 4000000 in
theorem Jv.step{k:Nat}{M:Sm}{rows:List im}(h:Jv k M (rows.map ai))(d:RC)(hn:M.T.2.length<=16)(hk:k<=100):Jv (k+1) (wY M rows d).1 ((wY M rows d).2.map ai):=by
 have hd:=h.d;have eG:=h.s.mono (show 3000*k<=3000*(k+1) by omega);have C4:=h.b.up (show 1200000+3300000000*(k:Int)<=1200000+3300000000*((k+1:Nat):Int) by omega);have hi:=c9 d.n 4 aF;unfold wY;split
 ·obtain ⟨q1,q2⟩:=ajE (ar:=M.ar) (limit:=M.cap) (D:=M.T.1) (p:=xk d.p) h.t;exact ⟨C4,⟨eG.l,eG.c,eG.now,eG.d⟩,by simp only;omega,q1,h.q,h.x,h.u⟩
 split
 ·obtain ⟨q1,q2,-⟩:=acI (D:=M.T.1) (p:=xk d.p) h.t;exact ⟨C4,⟨eG.l,eG.c,eG.now,eG.d⟩,by simp only;omega,q1,h.q,h.x,h.u⟩
 split
 ·obtain ⟨q1,q2,-⟩:=Ym M.T.2 (D:=M.T.1) (pre:=[]) (n:=0) (λe he=>by cases he) h.t;exact ⟨C4,⟨eG.l,eG.c,eG.now,eG.d⟩,by simp only [mD];omega,q1,h.q,h.x,h.u⟩
 split
 ·simp only;rw [AY];exact ⟨Yk C4 ((acG d).up ab),eG,by omega,h.t,h.q,acH h.x (by unfold Lz R3 fe;simp only;omega),h.u⟩
 split
 ·simp only;rw [C7 _ hi.1];exact ⟨acF C4 _ _,eG,by omega,h.t,h.q,age h.x _ _,h.u⟩
 split
 ·simp only;unfold nI;split
  ·exact h.mono (Nat.le_succ _)
  split
  ·exact h.mono (Nat.le_succ _)
  split
  ·exact h.mono (Nat.le_succ _)
  split
  ·exact h.mono (Nat.le_succ _)
  split
  ·exact h.mono (Nat.le_succ _)
  ·exact h.Hz _ _
 split
 ·simp only;unfold fG;split
  ·exact h.mono (Nat.le_succ _)
  split
  ·exact h.Hz _ _
  ·exact h.Hz _ _
 split
 ·exact h.Hz _ _
 split
 ·simp only;rw [C9 _ hi.1];exact ⟨acE C4 _,eG,by omega,h.t,h.q,agd h.x _,h.u⟩
 split
 ·have h9:=Xx M.T.1 0 (nJ M (rows.map ai));exact ⟨C4,⟨eG.l,eG.c,eG.now,eG.d⟩,by simp only;omega,h.t,h.q,h.x,h.u⟩
 split
 ·exact h.mono (Nat.le_succ _)
 ·simp only;rw [mT];have hN:Nr (sX M (rows.map ai)).1:=Nr.tick (M:=M) ⟨h.t,h.q,h.s.now⟩ _;have hl:=R4 (q:=M.q) (now:=re M) h.u;have gG:qH (Ae M) (3000*k):=⟨h.s.l,h.s.c,by have:=h.s.now;show 0<=re M/\re M<=_;unfold re;omega,h.s.d⟩;have hS:qH (sX M (rows.map ai)).1 (3000*k+40*(sm M).length):=qH.Uz _ (sm M) gG;have JM:(sm M).length<=64:=hl;refine ⟨(Yj h.b ab ab).up ab,hS.mono ab,?_,hN.1,hN.2.1,agc h.x,?_⟩
  ·have:(sX M (rows.map ai)).1.T.1=M.T.1:=Hy _ _ _;rw [this];omega
  ·have:(sX M (rows.map ai)).1.dH=M.dH:=Jf _ _;rw [this];exact h.u
structure Ad where
 g:Nat
 s:Nat
 o:Nat
 t:Nat
 m:Nat
 s':Nat
 o':Nat
 t':Nat
def qE(K:Nat->Prop)(w0 w:World)(a:Ad)(Me:Sm)(Le:List (Option dZ))(Mm:Sm)(rows:List im):Prop:=
 ∃(F F':Nat->Prop)(occ occ':Value),EF F w a.g a.s a.o a.t Me occ Le/\MF F' w a.m a.s' a.o' a.t' Mm occ' rows/\(∀i,F i->¬F' i)/\(∀i,F i->w0.heap.size<=i)/\(∀i,F' i->w0.heap.size<=i)/\(∀j,K j->¬F j/\¬F' j/\j<w.heap.size)/\Ext w0 w
section
variable {K:Nat->Prop} {w0 w u w':World} {a:Ad} {Me Mm M:Sm} {Le:List (Option dZ)} {rows:List im}
theorem qE.e(h:qE K w0 w a Me Le Mm rows):∃F occ,EF F w a.g a.s a.o a.t Me occ Le/\∀{w':World} {M':Sm} {occ':Value} {L':List (Option dZ)},jh F w a.g a.s a.o a.t M' occ' L' w'->qE K w0 w' a M' L' Mm rows/\∀j,K j->w'.heap[j]? =w.heap[j]? :=by
 obtain ⟨F,F',occ,occ',h1,h2,h3,h4,h5,h6,h7⟩:=h;refine ⟨F,occ,h1,?_⟩;rintro w' M' oc L' ⟨G,g1,g2⟩;have hz:=g2.mod.size;obtain ⟨x,f⟩:=g2.fresh h7 h4;refine ⟨⟨G,F',oc,occ',g1,h2.same λi hi=>g2.mod.same i (h2.lt hi) λq=>h3 i q hi,g2.apart h3 λi hi=>h2.lt hi,f,h5,λj hj=> ?_,x⟩,λj hj=>g2.mod.same j (h6 j hj).2.2 (h6 j hj).1⟩;obtain ⟨k1,k2,k3⟩:=h6 j hj;refine ⟨λq=> ?_,k2,by omega⟩;rcases g2.sub j q with q|q
 ·exact k1 q
 ·omega
theorem qE.m(h:qE K w0 w a Me Le Mm rows):∃F occ,MF F w a.m a.s' a.o' a.t' Mm occ rows/\∀{w':World} {M':Sm} {occ':Value} {rows':List im},kA F w a.m a.s' a.o' a.t' M' occ' rows' w'->qE K w0 w' a Me Le M' rows'/\∀j,K j->w'.heap[j]? =w.heap[j]? :=by
 obtain ⟨F,F',occ,occ',h1,h2,h3,h4,h5,h6,h7⟩:=h;refine ⟨F',occ',h2,?_⟩;rintro w' M' oc rows' ⟨G,g1,g2⟩;have hz:=g2.mod.size;obtain ⟨x,f⟩:=g2.fresh h7 h5;refine ⟨⟨F,G,occ,oc,h1.same λi hi=>g2.mod.same i (h1.lt hi) λq=>h3 i hi q,g1,λi hi hg=>g2.apart (G:=F) (λi hi hf=>h3 i hf hi) (λi hi=>h1.lt hi) i hg hi,h4,f,λj hj=> ?_,x⟩,λj hj=>g2.mod.same j (h6 j hj).2.2 (h6 j hj).2.1⟩;obtain ⟨k1,k2,k3⟩:=h6 j hj;refine ⟨k1,λq=> ?_,by omega⟩;rcases g2.sub j q with q|q
 ·exact k2 q
 ·omega
theorem qE.mK(h:qE K w0 w a Me Le Mm rows):∃F occ,MF F w a.m a.s' a.o' a.t' Mm occ rows/\(∀j,K j->¬F j)/\∀{w':World} {M':Sm} {occ':Value} {rows':List im},kA F w a.m a.s' a.o' a.t' M' occ' rows' w'->qE K w0 w' a Me Le M' rows'/\∀j,K j->w'.heap[j]? =w.heap[j]? :=by
 obtain ⟨F,F',occ,occ',h1,h2,h3,h4,h5,h6,h7⟩:=h;refine ⟨F',occ',h2,λj hj=>(h6 j hj).2.1,?_⟩;rintro w' M' oc rows' ⟨G,g1,g2⟩;have hz:=g2.mod.size;obtain ⟨x,f⟩:=g2.fresh h7 h5;refine ⟨⟨F,G,occ,oc,h1.same λi hi=>g2.mod.same i (h1.lt hi) λq=>h3 i hi q,g1,λi hi hg=>g2.apart (G:=F) (λi hi hf=>h3 i hf hi) (λi hi=>h1.lt hi) i hg hi,h4,f,λj hj=> ?_,x⟩,λj hj=>g2.mod.same j (h6 j hj).2.2 (h6 j hj).2.1⟩;obtain ⟨k1,k2,k3⟩:=h6 j hj;refine ⟨k1,λq=> ?_,by omega⟩;rcases g2.sub j q with q|q
 ·exact k2 q
 ·omega
theorem qE.ext(h:qE K w0 w a Me Le Mm rows)(x:Ext w u):qE (λj=>K j\/w.heap.size<=j/\j<u.heap.size) w0 u a Me Le Mm rows:=by
 obtain ⟨F,F',occ,occ',h1,h2,h3,h4,h5,h6,h7⟩:=h;have hz:=x.size;refine ⟨F,F',occ,occ',h1.ext x,h2.ext x,h3,h4,h5,λj hj=> ?_,h7.tr x⟩;rcases hj with hj|⟨j1,j2⟩
 ·obtain ⟨k1,k2,k3⟩:=h6 j hj;exact ⟨k1,k2,by omega⟩
 ·exact ⟨λq=>by have:=h1.lt q;omega,λq=>by have:=h2.lt q;omega,j2⟩
theorem qE.mono{K':Nat->Prop}(h:qE K w0 w a Me Le Mm rows)(hs:∀j,K' j->K j):qE K' w0 w a Me Le Mm rows:=by obtain ⟨F,F',occ,occ',h1,h2,h3,h4,h5,h6,h7⟩:=h;exact ⟨F,F',occ,occ',h1,h2,h3,h4,h5,λj hj=>h6 j (hs j hj),h7⟩
theorem qE.same(h:qE K w0 w a Me Le Mm rows)(x:Ext w u):qE K w0 u a Me Le Mm rows/\∀j,K j->u.heap[j]? =w.heap[j]? :=⟨(h.ext x).mono λj hj=> .inl hj,λj hj=>by
 obtain ⟨F,F',occ,occ',h1,h2,h3,h4,h5,h6,h7⟩:=h
 exact x.heap (h6 j hj).2.2⟩
theorem qE.lt(h:qE K w0 w a Me Le Mm rows){j:Nat}(hj:K j):j<w:=by obtain ⟨F,F',occ,occ',h1,h2,h3,h4,h5,h6,h7⟩:=h;exact (h6 j hj).2.2
theorem qE.e0(h:qE K w0 w a Me Le Mm rows):Vc.ld w (af (some ⟨a.g,0,none⟩) 0)=some (.pointer (some ⟨a.s,0,none⟩))/\(ah 18 #[.pointer (some ⟨a.s,0,none⟩)] w λe w'=>e=Value.pointer (some ⟨a.o,0,none⟩)/\w'=w)/\
  (ah 19 #[.pointer (some ⟨a.o,0,none⟩)] w λe w'=>e=Value.pointer (some ⟨a.t,0,none⟩)/\w'=w):=by
 obtain ⟨F,occ,h1,-⟩:=h.e;obtain ⟨Fs,hs,jq,-⟩:=h1.vb;obtain ⟨Fw,hW,-⟩:=hs.world;exact ⟨jq,fO hs,oT hW⟩
theorem qE.m0(h:qE K w0 w a Me Le Mm rows):Vc.ld w (af (some ⟨a.m,0,none⟩) 0)=some (.pointer (some ⟨a.o',0,none⟩))/\
  (ah 19 #[.pointer (some ⟨a.o',0,none⟩)] w λe w'=>e=Value.pointer (some ⟨a.t',0,none⟩)/\w'=w):=by
 obtain ⟨F,occ,h1,-⟩:=h.m;obtain ⟨Fs,hs,-,jq,-⟩:=h1.vb;obtain ⟨Fw,hW,-⟩:=hs.world;exact ⟨jq,oT hW⟩
theorem qE.few(h:qE K w0 w a Me Le Mm rows):Me.T.2.length<=16:=by obtain ⟨F,occ,h1,-⟩:=h.e;obtain ⟨Fs,hs,-⟩:=h1.vb;obtain ⟨Fw,hW,-⟩:=hs.world;have:=hW.len;omega
theorem qE.Xb(h:qE K w0 w a Me Le Mm rows):rows.length=16:=by obtain ⟨F,occ,h1,-⟩:=h.m;obtain ⟨b,-,-,h2,-⟩:=h1.Ik;exact h2
end
theorem ajd{rows:List im}(hn:rows.length=16){b:Nat}{w:World}(hr:Row w b (rows.map jL).flatten Bb){k:Nat}(hk:k<16){r:im}(Ka:rows[k]? =some r)(i:Ga):(af (af (some ⟨b,0,none⟩) ((k:Int).toNat*13)) 10).isSome=true/\Wr w (af (af (some ⟨b,0,none⟩) ((k:Int).toNat*13)) 10) 3/\bD (af (af (some ⟨b,0,none⟩) ((k:Int).toNat*13)) 10)=some b/\
  ∀w',w'=Vc.aH w (af (af (some ⟨b,0,none⟩) ((k:Int).toNat*13)) 10) [.int .i64 i.1,.int .i64 i.2.1,.bool i.2.2]->Row w' b ((rows.set k (r.1,(r.2.1,i))).map jL).flatten Bb/\Mod (λi=>i=b) w w':=by
 have Ff:(rows.map jL).flatten.length=16*13:=by
  have:=bK (k:=13) (rows:=rows.map jL) λr hr=>by obtain ⟨x,-,rfl⟩:=aZ.1 hr;rfl
  rw [this,aN,hn]
 rw [dw,ej];have uQ:One [.int .i64 i.1,.int .i64 i.2.1,.bool i.2.2]:=by intro u hu;simp at hu;rcases hu with rfl|rfl|rfl<;>rfl
 obtain ⟨p1,p2⟩:=lO hr (off:=k*13+10) (vs:=[.int .i64 i.1,.int .i64 i.2.1,.bool i.2.2]) (by rw [Ff];show _+3<=_;omega) uQ;refine ⟨rfl,p1,by rw [bf];rfl,λw' e=> ?_⟩;obtain ⟨q1,q2⟩:=p2 w' e;refine ⟨?_,q2⟩;have cO:(rows.map jL)[k]? =some (jL r):=by rw [aU,Ka];rfl
 have:aR (rows.map jL).flatten (k*13+10) [.int .i64 i.1,.int .i64 i.2.1,.bool i.2.2]=((rows.set k (r.1,(r.2.1,i))).map jL).flatten:=by rw [List.map_set];exact Dx (λr hr=>by obtain ⟨y,-,rfl⟩:=aZ.1 hr;rfl) cO (by show 10+3<=13;decide) rfl
 rw [<-this];exact q1
section
variable {K:Nat->Prop} {w0 w u w':World} {a:Ad} {Me Mm M:Sm} {Le:List (Option dZ)} {rows:List im}
abbrev ajc(K:Nat->Prop)(w0 w:World)(a:Ad)(M:Sm)(rows:List im)(d:RC)(e:Ending)(w':World):Prop:=e=true/\qE K w0 w' a (wY M rows d).1 ((wY M rows d).2.map ai) (wY M rows d).1 (wY M rows d).2/\∀j,K j->w'.heap[j]? =w.heap[j]?
theorem afH{k:Nat}(h:Jv k M (rows.map ai))(hk:k<=100):(∀x ∈ sk (rows.map ai) 16,(0<=x.1/\x.1<16)/\∀n ∈ jZ x.2,C5 n)/\(∀x ∈ M.q.l,∀n ∈ [x.1,x.2.1,x.2.2.1,x.2.2.2],C5 n)/\C5 M.now:=by
 refine ⟨λx hx=> ?_,λx hx n hn=> ?_,?_⟩
 ·unfold sk at hx;obtain ⟨i,hi,rfl⟩:=aZ.1 hx;obtain ⟨h1,h2⟩:=List.mem_filter.1 hi;have h1:=List.mem_range.1 h1;obtain ⟨y,hy⟩:=nH.1 h2;have hb:=h.b y (pR hy);have hx:=h.x y (pR hy);unfold xAt;rw [hy];refine ⟨by simp only;omega,λn hn=> ?_⟩;obtain ⟨⟨b1,b2,b3⟩,b4,b5,b6⟩:=hb;obtain ⟨c1,c2⟩:=hx;simp only [cB,jQ,or_false] at hn;unfold C5;rcases hn with rfl|rfl|rfl|rfl|rfl|rfl|rfl|rfl<;>omega
 ·obtain ⟨h1,h2,h3⟩:=h.q x hx;unfold zn at h1;simp only [cB,jQ,or_false] at hn;unfold C5;rcases hn with rfl|rfl|rfl|rfl<;>omega
 ·have:=h.s.now;unfold C5;omega
set_option maxHeartbeats 8000000 in
theorem Ti(h:qE K w0 w a M (rows.map ai) M rows){k:Nat}(hj:Jv k M (rows.map ai))(hk:k<=100)(d:RC)(hd:dIn d):
  ah 15 #[.pointer (some ⟨a.g,0,none⟩),.pointer (some ⟨a.m,0,none⟩),dV d] w (ajc K w0 w a M rows d):=by
 obtain ⟨hd1,hd2,hd3,⟨hd4,hd5⟩,hd6,hd7⟩:=hd;have hjd:=hj.d;have hjs:qH M 600000:=hj.s.mono ab;have hbm:1200000+3300000000*(k:Int)<=99900000000000:=by omega
 have hbm0:0<=1200000+3300000000*(k:Int):=by omega
 apply On.vc;intro v0 e0;have x0:=aL e0;have z0:=zA e0;have r0:∃τ,Row v0 w (dL d) τ:=⟨_,by rw [e0];exact Row.new w [_,_,_,_,_,_,_,_,_,_,_,_,_,_,_,_,_] _⟩;obtain ⟨τ,r0⟩:=r0;refine (gD d.n 4 v0 hd2 aF (by unfold inI;omega)).mono ?_;rintro e v1 ⟨rfl,hv1⟩;subst hv1;refine ⟨_,rfl,rfl,(Tj d.p ⟨hd4,hd5⟩ v1).mono ?_⟩;rintro e v3 ⟨rfl,x3⟩;have z3:=x3.size;refine ⟨_,_,rfl,x3.heap ab,λv6 e6 v7 e7=> ?_⟩;have x7:Ext v3 v7:=(aL e6).ae e7 (aB _);have z7:v7.heap.size=v3.heap.size+1:=by rw [zR e7,zA e6]
 have r7:∃τ,Row v7 v3 [.int .i64 (xk d.p).1,.int .i64 (xk d.p).2] τ:=⟨_,by rw [e7,e6];exact Row.set (Row.new v3 [_,_] _) [_,_]⟩;obtain ⟨τ7,r7⟩:=r7;have x07:=x0.tr (x3.tr x7);have kK:∀j,K j->v7.heap[j]? =w.heap[j]? :=(h.same x07).2;have r07:=r0.ext (x3.tr x7);obtain ⟨K2,kw,k3,hKK,hB⟩:∃K2:Nat->Prop,K2 w/\K2 v3/\(∀j,K j->K2 j)/\qE K2 w0 v7 a M (rows.map ai) M rows:=⟨_,.inr ⟨aB _,by omega⟩,.inr ⟨by omega,by omega⟩,λj hj=> .inl hj,h.ext x07⟩;have fin:∀{b:Bool} {w':World} {M':Sm} {rows':List im},b=true->wY M rows d=(M',rows')->qE K2 w0 w' a M' (rows'.map ai) M' rows'->(∀j,K2 j->w'.heap[j]? =v7.heap[j]?)->ajc K w0 w a M rows d (.returned (.bool b)) w':=by intro b w' M' rows' hb GD hBt N6;subst hb;refine ⟨rfl,?_,λj hj=>(N6 j (hKK j hj)).trans (kK j hj)⟩;rw [GD];exact hBt.mono hKK
 have parL:∀{u:World} {o:Nat} {vs:LV},(∀j,K2 j->u.heap[j]? =v7.heap[j]?)->(∀j,j<vs.length->(dL d)[o+j]? =vs[j]?)->ag u (some ⟨w.heap.size,o,none⟩) 0 vs:=λhu hv=>(r07.same (hu _ kw)).bZ hv
 have wayL:∀{u:World},(∀j,K2 j->u.heap[j]? =v7.heap[j]?)->ag u (some ⟨w.heap.size,11,none⟩) 0 (dA d.cK):=λhu=>parL hu λj hj=>by
  have hj:j<3:=hj;have:j=0\/j=1\/j=2:=by omega
  rcases this with rfl|rfl|rfl<;>rfl
 have bL:∀{u:World},(∀j,K2 j->u.heap[j]? =v7.heap[j]?)->ag u (some ⟨w.heap.size,2,none⟩) 0 [d.b]:=λhu=>parL hu λj hj=>by
  have:j=0:=by simpa using hj
  subst this;rfl
 have posL:∀{u:World},(∀j,K2 j->u.heap[j]? =v7.heap[j]?)->ag u (some ⟨v3.heap.size,0,none⟩) 0 [.int .i64 (xk d.p).1,.int .i64 (xk d.p).2]:=λhu=>Lo.wv (r7.same (hu _ k3))
 obtain ⟨l1,l2,l3⟩:=hB.e0;obtain ⟨l4,l5⟩:=hB.m0;refine ⟨_,l1,l2.mono ?_⟩;rintro e v9 ⟨rfl,hv⟩;subst hv;refine ⟨_,rfl,rfl,rfl,l3.mono ?_⟩;rintro e v11 ⟨rfl,hv⟩;subst hv;refine ⟨_,rfl,rfl,rfl,_,l4,l5.mono ?_⟩;rintro e V4 ⟨rfl,hv⟩;subst hv;refine ⟨_,rfl,rfl,rfl,eZ rfl (eZ rfl ?_)⟩;have r0:∀j,K2 j->V4.heap[j]? =V4.heap[j]? :=λj _=>rfl
 obtain ⟨hBd,kd⟩:=hB.same (Ext.dr V4);have hi4:=c9 d.n 4 aF;apply Br.mk<;>intro hk0
 ·have hk0:d.kind=0:=by simpa using hk0
  obtain ⟨F,occ,hE,he⟩:=hBd.e;obtain ⟨Fw,hW,bw⟩:=hE.world;refine (sT hW ab (xk d.p)).mono ?_;rintro e u1 ⟨rfl,hr⟩;obtain ⟨C0,k1⟩:=he (bw hr);have kk1:∀j,K2 j->u1.heap[j]? =V4.heap[j]? :=λj hj=>(k1 j hj).trans (kd j hj)
  obtain ⟨F',occ',hM,hm⟩:=C0.m;obtain ⟨Fw',hW',MX⟩:=hM.world;refine ⟨_,rfl,k1 _ kw,k1 _ k3,posL kk1,(sT hW' ab (xk d.p)).mono ?_⟩;rintro e u2 ⟨rfl,hr⟩;obtain ⟨GG,k2⟩:=hm (MX hr);exact ⟨_,rfl,k2 _ kw,k2 _ k3,fin bB (by unfold wY;rw [if_pos hk0]) GG λj hj=>(k2 j hj).trans (kk1 j hj)⟩
 have n0:¬d.kind=0:=by simpa using hk0
 apply Br.mk<;>intro MY
 ·have MY:d.kind=1:=by simpa using MY
  obtain ⟨F,occ,hE,he⟩:=hBd.e;obtain ⟨Fw,hW,bw⟩:=hE.world;refine (uZ hW ab (xk d.p)).mono ?_;rintro e u1 ⟨rfl,hr⟩;obtain ⟨C0,k1⟩:=he (bw hr);have kk1:∀j,K2 j->u1.heap[j]? =V4.heap[j]? :=λj hj=>(k1 j hj).trans (kd j hj)
  obtain ⟨F',occ',hM,hm⟩:=C0.m;obtain ⟨Fw',hW',MX⟩:=hM.world;refine ⟨_,rfl,k1 _ kw,k1 _ k3,posL kk1,(uZ hW' ab (xk d.p)).mono ?_⟩;rintro e u2 ⟨rfl,hr⟩;obtain ⟨GG,k2⟩:=hm (MX hr);exact ⟨_,rfl,k2 _ kw,k2 _ k3,fin bB (by unfold wY;rw [if_neg n0,if_pos MY]) GG λj hj=>(k2 j hj).trans (kk1 j hj)⟩
 have n1:¬d.kind=1:=by simpa using MY
 apply Br.mk<;>intro Fb
 ·have Fb:d.kind=2:=by simpa using Fb
  obtain ⟨F,occ,hE,he⟩:=hB.e;obtain ⟨Fw,hW,bw⟩:=hE.world;refine (rO hW ab).mono ?_;rintro e u1 ⟨rfl,hr⟩;obtain ⟨C0,k1⟩:=he (bw hr);obtain ⟨F',occ',hM,hm⟩:=C0.m;obtain ⟨Fw',hW',MX⟩:=hM.world;refine ⟨_,_,rfl,k1 _ kw,k1 _ k3,(rO hW' ab).mono ?_⟩;rintro e u2 ⟨rfl,hr⟩;obtain ⟨GG,k2⟩:=hm (MX hr);exact ⟨_,_,rfl,k2 _ kw,k2 _ k3,yes bB (fin bB (by unfold wY;rw [if_neg n0,if_neg n1,if_pos Fb]) GG λj hj=>(k2 j hj).trans (k1 j hj))⟩
 have n2:¬d.kind=2:=by simpa using Fb
 apply Br.mk<;>intro za
 ·have za:d.kind=3:=by simpa using za
  refine (Oo d.aI hd7 V4).mono ?_;rintro e u1 ⟨rfl,x1⟩;obtain ⟨C0,k1⟩:=hB.same x1;refine ⟨_,_,_,rfl,k1 _ kw,k1 _ k3,λu2 e2 u3 e3=> ?_⟩;have xx:Ext u1 u3:=(aL e2).ae e3 (aB _);have zx:u3.heap.size=u1.heap.size+1:=by rw [zR e3,zA e2]
  have ZQ:=C0.ext xx;have WV:=(C0.same xx).2;have kb:K2 u1.heap.size\/u1.heap.size<=u1.heap.size/\u1.heap.size<u3.heap.size:=.inr ⟨aB _,by omega⟩;have a1:=c9 d.c.1 60000 aF;refine (gD d.c.1 60000 u3 hd6.1 aF (by unfold inI;omega)).mono ?_;rintro e u4 ⟨rfl,hu⟩;subst hu;refine ⟨_,rfl,rfl,rfl,rfl,(gD d.c.2.1 120000 u4 hd6.2.1 aF (by unfold inI;omega)).mono ?_⟩;rintro e u5 ⟨rfl,hu⟩;subst hu;obtain ⟨F,occ,hE,he⟩:=ZQ.e;refine ⟨_,rfl,rfl,rfl,rfl,(C6 hE (Kl d.aI) (cH d.c.1 60000) (cH d.c.2.1 120000) (by unfold inI;omega)).mono ?_⟩;rintro e u6 ⟨rfl,hr⟩;obtain ⟨hB6,k6⟩:=he hr;obtain ⟨F',occ',hM,hm⟩:=hB6.m;refine ⟨_,_,rfl,k6 _ (.inl kw),k6 _ (.inl k3),k6 _ kb,(Km hM (Kl d.aI) (cH d.c.1 60000) (cH d.c.2.1 120000) (by unfold inI;omega)).mono ?_⟩;rintro e u7 ⟨rfl,hr⟩;obtain ⟨hB7,k7⟩:=hm hr;refine ⟨_,_,rfl,k7 _ (.inl kw),k7 _ (.inl k3),k7 _ kb,yes bB (fin bB (by unfold wY;rw [if_neg n0,if_neg n1,if_neg n2,if_pos za]) ?_ λj hj=>(k7 j (.inl hj)).trans ((k6 j (.inl hj)).trans ((WV j hj).trans (k1 j hj))))⟩;rw [AY];exact hB7.mono λj hj=> .inl hj
 have n3:¬d.kind=3:=by simpa using za
 apply Br.mk<;>intro hk4
 ·have hk4:d.kind=4:=by simpa using hk4
  have GD:wY M rows d=(M,G1 rows (ix d) d.uC):=by unfold wY;rw [if_neg n0,if_neg n1,if_neg n2,if_neg n3,if_pos hk4]
  have htl:=C7 (rows:=rows) (ix d) hi4.1 d.uC;obtain ⟨i,hi⟩:∃i:Nat,ix d=i:=⟨(cH d.n 4).toNat,by show cH d.n 4=_;omega⟩;have ao8:i<4:=by have:cH d.n 4=i:=hi;omega
  have agV:=hB.Xb;obtain ⟨r,uP⟩:=bI (l:=rows) (i:=i) ab;have hii:(rows.map jL)[i]? =some (jL r):=by rw [aU,uP];rfl
  have zc:=lF (rows:=rows) (n:=i) rfl uP;have htR:G1 rows i d.uC=if r.1=true then rows.set i (r.1,(r.2.1,d.uC)) else rows:=by unfold G1;rw [ej,uP]
  show ah 54 #[.pointer (some ⟨a.g,0,none⟩),(ix d),.agg #[d.uC.1,d.uC.2.1,.bool d.uC.2.2]] V4 _;have hix:cH d.n 4=(i:Int):=hi;rw [hix];rw [hi] at GD htl ⊢;obtain ⟨F,occ,hE,he⟩:=hB.e;refine (Tk hE i d.uC).mono ?_;rintro e u1 ⟨rfl,hr⟩;obtain ⟨C0,k1⟩:=he hr;obtain ⟨F',occ',hM,hnK,hm⟩:=C0.mK;obtain ⟨b,hmr,hbr,yK,-,hFb,hmb,bw⟩:=hM.Ik;have rk:=sU hbr yK;have inb:eo (some ⟨b,0,none⟩) (i:Int) 16:=rk.g9 (i:=(i:Int)) aF ab (by show (i:Int)<((16:Nat):Int);omega);refine ⟨_,rfl,k1 _ kw,k1 _ k3,⟨some ⟨b,0,none⟩,16,16⟩,hmr.at 2 rfl,inb,fU rfl ⟨r.1,rk.at hii (Xc r),Br.mk (λhb=> ?_) (λhb=> ?_)⟩⟩
  ·have MZ:ai r=some r.2:=by unfold ai;rw [if_pos hb]
   have ht0:(pS (rows.map ai) i d.uC).1=0:=by unfold pS;rw [zc,MZ]
   rw [if_pos hb] at htR;have xd:=Ext.dr u1;obtain ⟨p0,p1,pb,p2⟩:=ajd yK (hbr.ext xd) (k:=i) ab uP d.uC;have nK:∀j,K2 j->some b≠some j:=λj hj q=>by injection q with q;exact hnK j hj (q▸hFb)
   refine ⟨⟨some ⟨b,0,none⟩,16,16⟩,(hmr.ext xd).at 2 rfl,inb,fU rfl ⟨⟨p0,p1⟩,by rw [pb];exact nK _ kw,by rw [pb];exact nK _ k3,λu2 e2=> ?_⟩⟩;obtain ⟨q1,q2⟩:=p2 u2 e2;have jl:Mod (λi=>i=b) u1 u2:=(Mod.aD xd).trans q2;have hmr2:=jl.row hmr hmb;have JM:(rows.set i (r.1,(r.2.1,d.uC))).length=16:=by rw [iq];exact yK
   obtain ⟨GG,k2⟩:=hm (bw jl q1 JM);have rk2:=sU q1 JM;have hii2:((rows.set i (r.1,(r.2.1,d.uC))).map jL)[i]? =some (jL (r.1,(r.2.1,d.uC))):=by rw [aU,oP ab];rfl
   refine ⟨⟨some ⟨b,0,none⟩,16,16⟩,hmr2.at 2 rfl,inb,fU rfl ⟨r.1,rk2.at hii2 (Xc _),?_⟩⟩;rw [ht0,hb];refine yes rfl (yes rfl (fin rfl GD ?_ λj hj=>(k2 j hj).trans (k1 j hj)));rw [htl,htR];exact GG
  ·have MZ:ai r=none:=by unfold ai;rw [if_neg (by rw [hb];decide)]
   have ht0:(pS (rows.map ai) i d.uC).1=6:=by unfold pS;rw [zc,MZ]
   rw [if_neg (by rw [hb];decide)] at htR;refine ⟨⟨some ⟨b,0,none⟩,16,16⟩,hmr.at 2 rfl,inb,fU rfl ⟨r.1,rk.at hii (Xc r),?_⟩⟩;rw [ht0,hb];refine yes rfl (eZ rfl (fin rfl GD ?_ k1));rw [htl,htR];exact C0
 have n4:¬d.kind=4:=by simpa using hk4
 apply Br.mk<;>intro hk5
 ·have hk5:d.kind=5:=by simpa using hk5
  have GD:wY M rows d=((nI M (rows.map ai) (ix d) d.cK (FT d.b)).2,rows):=by unfold wY;rw [if_neg n0,if_neg n1,if_neg n2,if_neg n3,if_neg n4,if_pos hk5]
  refine (oQ d.b hd3 V4.drew).mono ?_;rintro e u1 ⟨rfl,hu⟩;subst hu;obtain ⟨F,occ,hE,he⟩:=hBd.e;refine ⟨_,rfl,rfl,rfl,bL kd,wayL kd,wayL kd,(Kn hE hj.b ab (ix d) d.cK (FT d.b) (hjs.mono ab)).mono ?_⟩;rintro e u2 ⟨rfl,hr⟩;obtain ⟨GG,k2⟩:=he hr;have kk2:∀j,K2 j->u2.heap[j]? =V4.heap[j]? :=λj hj=>(k2 j hj).trans (kd j hj)
  refine ⟨_,rfl,k2 _ kw,k2 _ k3,bL kk2,wayL kk2,(oQ d.b hd3 u2).mono ?_⟩;rintro e u3 ⟨rfl,hu⟩;subst hu;obtain ⟨F',occ',hM,hm⟩:=GG.m;refine ⟨_,rfl,rfl,rfl,wayL kk2,(Ko hM hj.b ab (ix d) d.cK (FT d.b) (hjs.mono ab)).mono ?_⟩;rintro e u4 ⟨rfl,hr⟩;obtain ⟨hB4,k4⟩:=hm hr;exact ⟨_,rfl,k4 _ kw,k4 _ k3,fin bB GD hB4 λj hj=>(k4 j hj).trans (kk2 j hj)⟩
 have n5:¬d.kind=5:=by simpa using hk5
 apply Br.mk<;>intro hk6
 ·have hk6:d.kind=6:=by simpa using hk6
  have GD:wY M rows d=((fG M (rows.map ai) (ix d) d.cK).2,rows):=by unfold wY;rw [if_neg n0,if_neg n1,if_neg n2,if_neg n3,if_neg n4,if_neg n5,if_pos hk6]
  obtain ⟨F,occ,hE,he⟩:=hB.e;refine (sV hE hj.b ab (ix d) d.cK (hjs.mono ab)).mono ?_;rintro e u2 ⟨rfl,hr⟩;obtain ⟨GG,k2⟩:=he hr;obtain ⟨F',occ',hM,hm⟩:=GG.m;refine ⟨_,_,rfl,k2 _ kw,k2 _ k3,(Oq hM hj.b ab (ix d) d.cK (hjs.mono ab)).mono ?_⟩;rintro e u4 ⟨rfl,hr⟩;obtain ⟨hB4,k4⟩:=hm hr;exact ⟨_,_,rfl,k4 _ kw,k4 _ k3,yes bB (fin bB GD hB4 λj hj=>(k4 j hj).trans (k2 j hj))⟩
 have n6:¬d.kind=6:=by simpa using hk6
 apply Br.mk<;>intro hk7
 ·have hk7:d.kind=7:=by simpa using hk7
  have GD:wY M rows d=((eR M (rows.map ai) (AZ d.c) (FT d.b)).2,rows):=by unfold wY;rw [if_neg n0,if_neg n1,if_neg n2,if_neg n3,if_neg n4,if_neg n5,if_neg n6,if_pos hk7]
  have hcw:eO (AZ d.c):=by have b1:=c9 d.c.1 10 aF;have b2:=c9 d.c.2.1 14 aF;have b3:=c9 d.c.2.2 10 aF;unfold eO AZ;simp only;omega
  refine (Ot d.c hd6 V4).mono ?_;rintro e u1 ⟨rfl,x1⟩;obtain ⟨C0,k1⟩:=hB.same x1;refine ⟨_,_,_,rfl,k1 _ kw,k1 _ k3,λu2 e2 u3 e3=> ?_⟩;have xx:Ext u1 u3:=(aL e2).ae e3 (aB _);have zx:u3.heap.size=u1.heap.size+1:=by rw [zR e3,zA e2]
  have ru:∃τ,Row u3 u1.heap.size (dA (AZ d.c)) τ:=⟨_,by rw [e3,e2];exact Row.set (Row.new u1 [_,_,_] _) [_,_,_]⟩;obtain ⟨τu,ru⟩:=ru;have ZQ:=C0.ext (xx.tr (Ext.dr u3));have WV:=(C0.same (xx.tr (Ext.dr u3))).2;have zd:u3.drew.heap.size=u3.heap.size:=rfl;have kb:K2 u1.heap.size\/u1.heap.size<=u1.heap.size/\u1.heap.size<u3.drew.heap.size:=.inr ⟨aB _,by omega⟩;have kk3:∀j,K2 j->u3.drew.heap[j]? =V4.heap[j]? :=λj hj=>(WV j hj).trans (k1 j hj)
  have rud:=ru.ext (Ext.dr u3);refine (oQ d.b hd3 u3.drew).mono ?_;rintro e u4 ⟨rfl,hu⟩;subst hu;obtain ⟨F,occ,hE,he⟩:=ZQ.e;refine ⟨_,rfl,rfl,rfl,rfl,bL kk3,Lo.wv rud,Lo.wv rud,(vx hE hj.b (AZ d.c) hcw (FT d.b) (hjs.mono ab)).mono ?_⟩;rintro e u5 ⟨rfl,hr⟩;obtain ⟨hB5,k5⟩:=he hr;have kk5:∀j,K2 j->u5.heap[j]? =V4.heap[j]? :=λj hj=>(k5 j (.inl hj)).trans (kk3 j hj)
  refine ⟨_,rfl,k5 _ (.inl kw),k5 _ (.inl k3),k5 _ kb,bL kk5,Lo.wv (rud.same (k5 _ kb)),(oQ d.b hd3 u5).mono ?_⟩;rintro e u6 ⟨rfl,hu⟩;subst hu;obtain ⟨F',occ',hM,hm⟩:=hB5.m;refine ⟨_,rfl,rfl,rfl,rfl,Lo.wv (rud.same (k5 _ kb)),(vy hM hj.b (AZ d.c) hcw (FT d.b) (hjs.mono ab)).mono ?_⟩;rintro e u7 ⟨rfl,hr⟩;obtain ⟨hB7,k7⟩:=hm hr;exact ⟨_,rfl,k7 _ (.inl kw),k7 _ (.inl k3),k7 _ kb,fin bB GD (hB7.mono λj hj=> .inl hj) λj hj=>(k7 j (.inl hj)).trans (kk5 j hj)⟩
 have n7:¬d.kind=7:=by simpa using hk7
 apply Br.mk<;>intro Fc
 ·have Fc:d.kind=8:=by simpa using Fc
  have GD:wY M rows d=(M,C8 rows (ix d)):=by unfold wY;rw [if_neg n0,if_neg n1,if_neg n2,if_neg n3,if_neg n4,if_neg n5,if_neg n6,if_neg n7,if_pos Fc]
  have htl:=C9 (rows:=rows) (ix d) hi4.1;obtain ⟨i,hi⟩:∃i:Nat,ix d=i:=⟨(cH d.n 4).toNat,by show cH d.n 4=_;omega⟩;have hix:cH d.n 4=(i:Int):=hi;have ao8:i<4:=by omega
  have agV:=hB.Xb;obtain ⟨r,uP⟩:=bI (l:=rows) (i:=i) ab;have hii:(rows.map jL)[i]? =some (jL r):=by rw [aU,uP];rfl
  have zc:=lF (rows:=rows) (n:=i) rfl uP;rw [hix];rw [hi] at GD htl;obtain ⟨F,occ,hE,he⟩:=hB.e;refine (Tm hE i).mono ?_;rintro e u1 ⟨rfl,hr⟩;obtain ⟨C0,k1⟩:=he hr;obtain ⟨F',occ',hM,hnK,hm⟩:=C0.mK;obtain ⟨b,hmr,hbr,yK,-,hFb,hmb,bw⟩:=hM.Ik;have rk:=sU hbr yK;have inb:eo (some ⟨b,0,none⟩) (i:Int) 16:=rk.g9 (i:=(i:Int)) aF ab (by show (i:Int)<((16:Nat):Int);omega);obtain ⟨p0,p1,p2⟩:=Xd yK hbr (k:=i) ab (false,(Da,(0,0,false)));have pb:bD (af (some ⟨b,0,none⟩) ((i:Int).toNat*13))=some b:=by rw [bf];rfl
  have nK:∀j,K2 j->some b≠some j:=λj hj q=>by injection q with q;exact hnK j hj (q▸hFb)
  refine ⟨_,rfl,k1 _ kw,k1 _ k3,⟨some ⟨b,0,none⟩,16,16⟩,hmr.at 2 rfl,inb,fU rfl ⟨r.1,rk.at hii (Xc r),⟨some ⟨b,0,none⟩,16,16⟩,hmr.at 2 rfl,inb,⟨p0,p1⟩,by rw [pb];exact nK _ kw,by rw [pb];exact nK _ k3,λu2 e2=> ?_⟩⟩;obtain ⟨q1,q2⟩:=p2 u2 e2;obtain ⟨GG,k2⟩:=hm (bw q2 q1 (by rw [iq];exact yK));have yL:qE K2 w0 u2 a M ((C8 rows (i:Int)).map ai) M (C8 rows (i:Int)):=by rw [htl];unfold C8;rw [ej];exact GG
  cases hb:r.1 with
  |true=>
   have MZ:ai r=some r.2:=by unfold ai;rw [if_pos hb]
   have ht0:(pT (rows.map ai) i).1=0:=by unfold pT;rw [zc,MZ];rfl
   rw [ht0];exact yes rfl (yes rfl (fin rfl GD yL λj hj=>(k2 j hj).trans (k1 j hj)))
  |false=>
   have MZ:ai r=none:=by unfold ai;rw [if_neg (by rw [hb];decide)]
   have ht0:(pT (rows.map ai) i).1=6:=by unfold pT;rw [zc,MZ];rfl
   rw [ht0];exact yes rfl (eZ rfl (fin rfl GD yL λj hj=>(k2 j hj).trans (k1 j hj)))
 have n8:¬d.kind=8:=by simpa using Fc
 apply Br.mk<;>intro hk9
 ·have hk9:d.kind=9:=by simpa using hk9
  have GD:wY M rows d=(Xe M (rows.map ai),rows):=by unfold wY;rw [if_neg n0,if_neg n1,if_neg n2,if_neg n3,if_neg n4,if_neg n5,if_neg n6,if_neg n7,if_neg n8,if_pos hk9]
  obtain ⟨F,occ,hE,he⟩:=hB.e;refine (Tn hE ab).mono ?_;rintro e u1 ⟨rfl,hr⟩;obtain ⟨C0,k1⟩:=he hr;obtain ⟨F',occ',hM,hm⟩:=C0.m;refine ⟨_,rfl,k1 _ kw,k1 _ k3,(Il hM).mono ?_⟩;rintro e u2 ⟨sx,sw,rfl,hsx,hsw,x2⟩;obtain ⟨GG,k2⟩:=C0.same x2;obtain ⟨c1,c2,c3⟩:=afH hj hk;have hxl:(sk (rows.map ai) 16).length<=16:=by rw [Ou];exact sW _
  have hql:M.q.l.length<=4096:=by obtain ⟨Fs,hs,-⟩:=hM.vb;obtain ⟨gq,mq,qs,-,tP,-⟩:=hs.queue;have:=tP.len;have:=tP.room;omega
  refine ⟨_,sx,sw,rfl,k2 _ kw,k2 _ k3,(Ov hsx hsw c3 hxl hql c1 c2).mono ?_⟩;rintro e u3 ⟨sl,rfl,ho,x3⟩;obtain ⟨ZQ,k33⟩:=GG.same x3;rw [To] at ho;obtain ⟨F3,occ3,hM3,hm3⟩:=ZQ.m;obtain ⟨Fw,hW,bw⟩:=hM3.world;have hl:=RD M (rows.map ai);refine ⟨sl,rfl,k33 _ kw,k33 _ k3,(A1 hW ab sl (nJ M (rows.map ai)) (ho.rd aF) (RE M _) ab).mono ?_⟩;rintro e u4 ⟨rfl,hr⟩;obtain ⟨hB4,k4⟩:=hm3 (bw hr);exact ⟨_,rfl,k4 _ kw,k4 _ k3,fin bB GD hB4 λj hj=>(k4 j hj).trans ((k33 j hj).trans ((k2 j hj).trans (k1 j hj)))⟩
 have n9:¬d.kind=9:=by simpa using hk9
 apply Br.mk<;>intro V5
 ·have V5:d.kind=10:=by simpa using V5
  have GD:wY M rows d=(M,rows):=by unfold wY;rw [if_neg n0,if_neg n1,if_neg n2,if_neg n3,if_neg n4,if_neg n5,if_neg n6,if_neg n7,if_neg n8,if_neg n9,if_pos V5]
  obtain ⟨F,occ,hE,he⟩:=hB.e;refine (ub hE hj.b ab (ix d) d.cK).mono ?_;rintro e u1 ⟨rfl,x1⟩;have C0:=hB.ext x1;have k1:=(hB.same x1).2;refine ⟨_,_,_,_,_,_,_,rfl,k1 _ kw,k1 _ k3,λu2 e2 u3 e3=> ?_⟩;have xx:Ext u1 u3:=(aL e2).ae e3 (aB _);have zx:u3.heap.size=u1.heap.size+1:=by rw [zR e3,zA e2]
  have ZQ:=C0.ext xx;have WV:=(C0.same xx).2;have kb:(K2 u1.heap.size\/V4.heap.size<=u1.heap.size/\u1.heap.size<u1.heap.size)\/u1.heap.size<=u1.heap.size/\u1.heap.size<u3.heap.size:=.inr ⟨aB _,by omega⟩;obtain ⟨F',occ',hM,hm⟩:=ZQ.m;refine (vz hM hj.b ab (ix d) d.cK).mono ?_;rintro e u4 ⟨rfl,x4⟩;obtain ⟨hB4,k4⟩:=ZQ.same x4;refine ⟨_,_,_,_,_,_,_,rfl,k4 _ (.inl (.inl kw)),k4 _ (.inl (.inl k3)),k4 _ kb,λu5 e5 u6 e6=> ?_⟩;have x6:Ext u4 u6:=(aL e5).ae e6 (aB _);obtain ⟨hB6,k6⟩:=hB4.same x6;exact yes bB (yes bB (yes bB (yes bB (fin bB GD (hB6.mono λj hj=> .inl (.inl hj)) λj hj=>(k6 j (.inl (.inl hj))).trans ((k4 j (.inl (.inl hj))).trans ((WV j (.inl hj)).trans (k1 j hj)))))))
 have n10:¬d.kind=10:=by simpa using V5
 have GD:wY M rows d=((sX M (rows.map ai)).1,oR M rows):=by unfold wY;rw [if_neg n0,if_neg n1,if_neg n2,if_neg n3,if_neg n4,if_neg n5,if_neg n6,if_neg n7,if_neg n8,if_neg n9,if_neg n10]
 have hNr:G3 (sm M):=Nr.due ⟨hj.t,hj.q,hj.s.now⟩;obtain ⟨F,occ,hE,he⟩:=hB.e;refine (Tp hE hj.b hbm0 hbm hNr hjs hj.u).mono ?_;rintro e u1 ⟨rfl,hr,-⟩;obtain ⟨C0,k1⟩:=he hr;obtain ⟨F',occ',hM,hm⟩:=C0.m;refine ⟨_,rfl,k1 _ kw,k1 _ k3,(Ow hM hj.b hbm0 hbm hNr hjs hj.u).mono ?_⟩;rintro e u2 ⟨rfl,hr⟩;obtain ⟨GG,k2⟩:=hm hr;refine ⟨_,rfl,k2 _ kw,k2 _ k3,fin bB GD ?_ λj hj=>(k2 j hj).trans (k1 j hj)⟩;rw [mT];exact GG
end
section
variable {K:Nat->Prop} {w0 w u w':World} {a:Ad} {Me Mm M:Sm} {Le:List (Option dZ)} {rows:List im}
end
variable {R:Ending->World->Prop} {w:World} {a0 a1 a2 a3 a4 a5 a6 a7 a8 a9 aA aq au aS aT aW bM bG bH Cr ak ao aw bz bT bR eW eX eD Cs bq bA bo wL wM uS uT wN wO wP Ct Cu Cv Cw Cx Cy Cz CA CB CC:Int}
section
variable {F F':Nat->Prop} {w w':World} {g s o t:Nat} {M M':Sm} {occ:Value} {L:List (Option dZ)}
theorem EF.dO(h:EF F w g s o t M occ L){j:Nat}{cs:LV}{τ:TypeId}(hr:Row w j cs τ)(h1:Dq τ)(h2:τ≠qL)(h3:τ≠kc)(h4:τ≠zL)(h5:τ≠Q.gK)(h6:τ≠Q.cC)(h7:τ≠pM)(h8:τ≠sB)(h9:τ≠kQ):¬F j:=by
 obtain ⟨Fs,av,r1,r2,r3,rfl⟩:=h;rintro (hi|hi|hi)
 ·exact hr.ne r1 h8 hi
 ·exact r2.jG hr h1 h2 h3 h4 h5 h6 h7 hi
 ·obtain ⟨i,hi⟩:=pq hi;obtain ⟨x,-,hx⟩:=r3.s i j hi;exact hr.ne hx h9 rfl
end
abbrev aoI:im:=(false,(Da,(0,0,false)))
abbrev Hl:List im:=List.replicate 16 aoI
theorem Pe:Hl.map ai=noL:=rfl
theorem Pf:bu zl 16=(Hl.map jL).flatten:=rfl
theorem ach:(tk≠sB/\tk≠kQ)/\Bb≠sB/\Bb≠kQ:=by decide
theorem jv0(ar cap bud:Int):Jv 0 (M9e ar cap bud) (Hl.map ai):=by
 have mF:∀y:dZ,some y ∈ Hl.map ai->False:=λy hy=>by
  rw [Pe] at hy;have:=List.eq_of_mem_replicate hy
  cases this
 refine ⟨λy hy=>(mF y hy).elim,⟨⟨Int.le_refl _,Int.le_refl _⟩,aB _,⟨Int.le_refl _,by show (0:Int)<=_;decide⟩,aB _⟩,aB _,λe he=> ?_,λx hx=>(by cases hx),λy hy=>(mF y hy).elim,by show 1<=min (max bud 1) 64/\min (max bud 1) 64<=64;omega⟩;have he:e ∈ l9 ar 9:=he;unfold l9 at he;obtain ⟨p,hp,rfl⟩:=aZ.1 he;have hp:p ∈ xH:=List.mem_of_mem_take hp;obtain ⟨k,hk⟩:=List.mem_iff_getElem?.1 hp;exact (IG hk).1
theorem Pg(ar bud cap:Int)(hc:9<=cap)(w:World):ah 9 #[ar,bud,cap] w λe w'=>
  ∃a:Ad,e=Value.tuple #[.pointer (some ⟨a.g,0,none⟩),.pointer (some ⟨a.m,0,none⟩)]/\qE (λ_=>False) w w' a (M9e ar cap bud) (Hl.map ai) (M9e ar cap bud) Hl:=by
 refine (IH ar bud cap hc w).mono ?_;rintro e w' ⟨g,s,o,t,F,m,b,s',o',t',F',rfl,hE,hS,rm,rb,hdj,fF,fF',zm,zb,x⟩;have nm:=hE.dO rm mL.1.1 mL.1.2.1 mL.1.2.2.1 mL.1.2.2.2.1 mL.1.2.2.2.2.1 mL.1.2.2.2.2.2.1 mL.1.2.2.2.2.2.2 ach.1.1 ach.1.2;have nb:=hE.dO rb mL.2.1.1 mL.2.1.2.1 mL.2.1.2.2.1 mL.2.1.2.2.2.1 mL.2.1.2.2.2.2.1 mL.2.1.2.2.2.2.2.1 mL.2.1.2.2.2.2.2.2 ach.2.1 ach.2.2;refine ⟨⟨g,s,o,t,m,s',o',t'⟩,rfl,F,_,_,_,hE,⟨F',b,rm,hS,by rw [<-Pf];exact rb,rfl,rfl⟩,λi hi q=> ?_,fF,λi hi=> ?_,λj hj=>hj.elim,x⟩
 ·rcases q with rfl|rfl|q
  ·exact nm hi
  ·exact nb hi
  ·exact hdj i hi q
 ·rcases hi with rfl|rfl|hi
  ·exact zm
  ·exact zb
  ·exact fF' i hi
abbrev dKs:List Bool:=[true,true,true,true,true,true,true,true,true,true,true,true,true,true,true,true,false]
theorem ji{r:LV}(h:MixR dKs r)(i:Nat)(hi:dKs[i]? =some true):∃z,r[i]? =some (.int .i64 z)/\inI z:=by obtain ⟨v,hv,z,rfl,hz⟩:=h.2 i true hi;exact ⟨z,hv,hz⟩
theorem afW{r:LV}(h:r.length=17):∃a0 a1 a2 a3 a4 a5 a6 a7 a8 a9 b0 b1 b2 b3 b4 b5 b6,r=[a0,a1,a2,a3,a4,a5,a6,a7,a8,a9,b0,b1,b2,b3,b4,b5,b6]:=by
 match r,h with
 | [a0,a1,a2,a3,a4,a5,a6,a7,a8,a9,b0,b1,b2,b3,b4,b5,b6],_=>exact ⟨a0,a1,a2,a3,a4,a5,a6,a7,a8,a9,b0,b1,b2,b3,b4,b5,b6,rfl⟩
theorem acf{r:LV}(h:MixR dKs r):∃d:RC,r=dL d/\dIn d:=by
 obtain ⟨a0,a1,a2,a3,a4,a5,a6,a7,a8,a9,b0,b1,b2,b3,b4,b5,b6,rfl⟩:=afW h.1;obtain ⟨z0,h0,i0⟩:=ji h 0 rfl;obtain ⟨z1,h1,i1⟩:=ji h 1 rfl;obtain ⟨z2,h2,i2⟩:=ji h 2 rfl;obtain ⟨z3,h3,i3⟩:=ji h 3 rfl;obtain ⟨z4,h4,i4⟩:=ji h 4 rfl;obtain ⟨z5,h5,i5⟩:=ji h 5 rfl;obtain ⟨z6,h6,i6⟩:=ji h 6 rfl;obtain ⟨z7,h7,i7⟩:=ji h 7 rfl;obtain ⟨z8,h8,i8⟩:=ji h 8 rfl;obtain ⟨z9,h9,i9⟩:=ji h 9 rfl;obtain ⟨y0,g0,j0⟩:=ji h 10 rfl;obtain ⟨y1,g1,j1⟩:=ji h 11 rfl;obtain ⟨y2,g2,j2⟩:=ji h 12 rfl;obtain ⟨y3,g3,j3⟩:=ji h 13 rfl;obtain ⟨y4,g4,j4⟩:=ji h 14 rfl;obtain ⟨y5,g5,j5⟩:=ji h 15 rfl;obtain ⟨v,hv,c,rfl⟩:=h.2 16 false rfl
 cases h0;cases h1;cases h2;cases h3;cases h4;cases h5;cases h6;cases h7;cases h8;cases h9;cases g0;cases g1;cases g2;cases g3;cases g4;cases g5;cases hv
 exact ⟨⟨z0,z1,z2,(z3,z4),(z5,z6,z7),(z8,z9,y0),(y1,y2,y3),(y4,y5,c)⟩,rfl,i0,i1,i2,⟨i3,i4⟩,⟨i5,i6,i7⟩,i8,i9,j0⟩
theorem KJ:∀{z:List (LV)},(∀r ∈ z,MixR dKs r)->∃ds:List RC,z=ds.map dL/\∀d ∈ ds,dIn d
 | [],_=>⟨[],rfl,λd hd=>(by cases hd)⟩
 |r::z,h=>by
  obtain ⟨d,rfl,hd⟩:=acf (h r bB)
  obtain ⟨ds,rfl,hds⟩:=KJ λr hr=>h r (List.mem_cons_of_mem _ hr)
  refine ⟨d::ds,rfl,λx hx=> ?_⟩
  rcases cB.1 hx with rfl|hx
  ·exact hd
  ·exact hds x hx
theorem H5{l:List En}(h:ey l)(k:Nat){f:En->En}(hf:∀e,(f e).1=e.1):ey (l.eraseIdx k++(l[k]?.map f).toList):=by
 cases hk:l[k]? with
 |none=>simp only [Option.map_none,Option.toList_none,rS];exact AF h k
 |some e=>exact MA (e:=f e) (AF h k) λ⟨x,hx,q⟩=>((mem_erase h hk x).1 hx).2 (q.trans (hf e))
theorem yG(D:Dk)(e:En):(de D e).2.1.1=e.1:=by unfold de;split<;>rfl
theorem ZB{D:Dk}{l:List En}{i:Nat}(h:ey l):ey (Ph D l i).1.2/\∀x ∈(Ph D l i).1.2,∃e ∈ l,e.1=x.1:=by
 unfold Ph;split
 ·exact ⟨h,λx hx=>⟨x,hx,rfl⟩⟩
 ·rename_i e he;split
  ·exact ⟨AF h i,λx hx=>⟨x,(List.eraseIdx_sublist ..).subset hx,rfl⟩⟩
  ·refine ⟨ac8 h he (yG D e),λx hx=> ?_⟩;rcases kh hx with hx|rfl
   ·exact ⟨x,hx,rfl⟩
   ·exact ⟨e,bg he,(yG D e).symm⟩
theorem EY{limit:Int}{D:Dk}{l:List En}(h:ey l):ey (fo limit D l).1.2/\∀x ∈(fo limit D l).1.2,∃e ∈ l,e.1=x.1:=by
 unfold fo;split
 ·exact ⟨h,λx hx=>⟨x,hx,rfl⟩⟩
 split
 ·exact ⟨h,λx hx=>⟨x,hx,rfl⟩⟩
 ·exact ZB h
theorem agL{ar limit:Int}{D:Dk}{l:List En}{p:Po}(h:ey l):ey (Gk ar limit D l p).1.2:=by
 unfold Gk;split
 ·exact h
 split
 ·have:=H5 h (cj (λe:En=>e.1==p) l).toNat (f:=id) λ_=>rfl
  rw [Option.map_id] at this;exact this
 split
 ·exact (EY h).1
 ·rename_i hf _;refine MA (EY h).1 ?_;rintro ⟨x,hx,q⟩;obtain ⟨e,he,hq⟩:=(EY h).2 x hx;obtain ⟨k,-,h2⟩:=wE h he;have h3:e.1=p:=hq.trans q;rw [h3] at h2;omega
theorem Sx:∀(l:List En)(D:Dk)(pre:List En)(n:Int),(P5 D pre l n).1.2.map (·.1)=pre.map (·.1)++l.map (·.1)
 | [],D,pre,n=>by simp [P5]
 |e::l,D,pre,n=>by
  unfold P5
  split
  ·rw [Sx l,bU,eP,eP,List.map_nil,yG,gE]
   rfl
  ·simp only [bU,eP,yG]
theorem MG{l:List En}(h:ey l)(c:Ce)(b:Int):ey (gI l c b).1:=by
 unfold gI;split
 ·exact h
 split
 ·exact h
 split
 ·exact h
 ·exact H5 h _ λ_=>rfl
theorem AH{M:Sm}(h:ey M.T.2)(L:List (Option dZ))(c:Ce)(b:Int):ey (eR M L c b).2.T.2:=by
 unfold eR;split
 ·exact h
 ·exact MG h c b
theorem VK{M:Sm}(h:ey M.T.2)(L:List (Option dZ))(n:Int)(cK:Ce)(b:Int):ey (nI M L n cK b).2.T.2:=by unfold nI;(repeat' split)<;>first|exact h|exact AH h _ _ _
theorem HM{M:Sm}(h:ey M.T.2)(L:List (Option dZ))(n:Int)(cK:Ce):ey (fG M L n cK).2.T.2:=by unfold fG;(repeat' split)<;>first|exact h|exact AH h _ _ _
theorem MH(O:Ce->Bool):∀(l:List Ce) {M:Sm},ey M.T.2->ey (l.foldl (px O) M).T.2
 | [],M,h=>h
 |c::l,M,h=>MH O l (by
  have ch:∀{M:Sm} (x:Go.fR.Cg),ey M.T.2->ey (dE M x).T.2:=λ{M} x h=>by
   unfold dE
   split
   ·exact h
   ·exact MG h _ _
  have chs:∀(l:List Go.fR.Cg) {M:Sm},ey M.T.2->ey (l.foldl dE M).T.2:=λl=>by
   induction l with
   |nil=>exact λh=>h
   |cons x l ih=>exact λh=>ih (ch x h)
  unfold px
  split
  ·exact h
  split
  ·exact ch (M:={M with ki:=M.ki++ [eT c]}) _ h
  ·exact chs _ h)
theorem agq{M:Sm}{rows:List im}(h:ey M.T.2)(d:RC):ey (wY M rows d).1.T.2:=by
 unfold wY;split
 ·exact agL h
 split
 ·show ey (lV M.T.1 M.T.2 (xk d.p)).1.2;unfold lV;split
  ·split
   ·exact h
   ·exact (ZB h).1
  ·exact h
 split
 ·show ey (P5 M.T.1 [] M.T.2 0).1.2;unfold ey;rw [Sx];exact h
 split
 ·exact h
 split
 ·exact h
 split
 ·exact VK h _ _ _ _
 split
 ·exact HM h _ _ _
 split
 ·exact AH h _ _ _
 split
 ·exact h
 split
 ·exact h
 split
 ·exact h
 ·exact MH (M:=Ae M) _ (sm M) h
variable {R:Ending->World->Prop} {w:World} {a0 a1 a2 a3 a4 a5 a6 a7 a8 a9 aA aq au aS aT aW bM bG bH Cr ak ao aw bz bT bR eW eX eD Cs bq bA bo wL wM uS uT wN wO wP Ct Cu Cv Cw Cx Cy Cz CA CB CC:Int}
theorem ym.vc{a1:Sl}(h:
 Aw w #[bq,bA,bo] 28 λw0=>
 ah 9 #[a0,(8:Int),(9:Int)] w0 (λe w1=>∃(p2 p3:Option Addr),e=Value.tuple #[p2,p3]/\Kp w w0 w1/\
 Br (p2).isNone
 (R false w1)
 (∃J4:World->Prop,
 (∃I5:Nat->Int->World->Prop,
 (∃n6,aO [bq,bA,bo]/\I5 n6 (0) w1)/\
 ∀(n6:Nat)(us7:Nat->Value)(x8:Int)(w9:World),I5 n6 x8 w9->
 Br (decide (x8<((a1.n:Nat):Int)))
 (Br (x8<10)
 (eo a1.a x8 a1.n/\∃(bC bN cm bX cA cD cY cp cn cW dh dN dz eE dQ fy:Int)(AM:Bool),ag w9 (af a1.a ((x8:Int).toNat*17)) 0 [bC,bN,cm,bX,cA,cD,cY,cp,cn,cW,dh,dN,dz,eE,dQ,fy,AM]/\
 ah 15 #[p2,p3,.agg #[bC,bN,cm,bX,cA,cD,cY,cp,cn,cW,dh,dN,dz,eE,dQ,fy,AM]] w9 (Rb λb29 gN=>Kp w w9 gN/\
 Br (!b29)
 (R false gN)
 (∃n10,n10<n6/\aO [bq,bA,bo]/\I5 n10 ((aj (x8+1))) gN)))
 (aO [bq,bA,bo]/\J4 w9))
 (aO [bq,bA,bo]/\J4 w9))/\
 ∀ayJ:Nat->Value,∀(fJ:World),J4 fJ->
 ah 12 #[p2] fJ (Rs λvu lv=>Kp w fJ lv/\
 ∃I34:Nat->Int->World->Prop,
 (∃CD,aO [bq,bA,bo]/\I34 CD (0) lv)/\
 ∀(CD:Nat)(apH:Nat->Value)(fB:Int)(lf:World),I34 CD fB lf->
 Br (decide (fB<((vu.n:Nat):Int)))
 (eo vu.a fB vu.n/\∃(mc:Int),ld lf (af vu.a ((fB:Int).toNat*1))=some (.int .i64 mc)/\
 ah 29 #[p2,mc] lf (λe gO=>∃(lh oE jY nq gC ph sN zi:Int)(b50 b51:Bool),e=Value.tuple #[.agg #[lh,oE,jY,nq,gC,ph,sN,zi,b50],b51]/\Kp w lf gO/\
 Aw gO #[aa,aa,aa,aa,aa,aa,aa,aa,false] 70 λKd=>
 Sw Kd gO #[lh,oE,jY,nq,gC,ph,sN,zi,b50] λRq=>
 ah 31 #[.agg #[lh,oE,jY,nq,gC,ph,sN,zi,b50]] Rq (iC λkC qF mG AS=>K2 w gO Rq AS (
 ah 30 #[.agg #[kC,qF,mG]] AS (iC λkJ iW ov kr=>K2 w gO AS kr (
 Aw kr #[aa,aa,aa] 41 λil=>
 Sw il kr #[kJ,iW,ov] λxe=>
 ∃J64:Int->Option Addr->World->Prop,
 (eo vu.a fB vu.n/\∃(pj:Int),ld xe.drew (af vu.a ((fB:Int).toNat*1))=some (.int .i64 pj)/\
 (ah 32 #[p2,pj,.agg #[bq,bA,bo]] xe.drew (λe oK=>∃(mP mI oM nG mj ml me:Int),e=Value.tuple #[.agg #[mP,mI,oM,nG,mj,ml],me]/\K3 w gO kr xe.drew oK (
 Aw oK #[aa,aa,aa,aa,aa,aa] 77 λlD=>
 Sw lD oK #[mP,mI,oM,nG,mj,ml] λqD=>
 aO [bq,bA,bo]/\aO [lh,oE,jY,nq,gC,ph,sN,zi,b50]/\aO [kJ,iW,ov]/\J64 me (some ⟨oK,0,none⟩) qD)))/\(Aw xe.drew #[aa,aa,aa,aa,aa,aa] 77 λjt=>
 ah 32 #[p2,pj,.agg #[bq,bA,bo]] jt (λe rJ=>∃(zg vt uy sK qG sQ xg:Int),e=Value.tuple #[.agg #[zg,vt,uy,sK,qG,sQ],xg]/\K3 w gO kr jt rJ (
 rJ.heap[xe.drew.heap.size]? =jt.heap[xe.drew.heap.size]?/\
 Sw rJ xe.drew.heap.size #[zg,vt,uy,sK,qG,sQ] λWZ=>
 aO [bq,bA,bo]/\aO [lh,oE,jY,nq,gC,ph,sN,zi,b50]/\aO [kJ,iW,ov]/\J64 xg (some ⟨xe.drew.heap.size,0,none⟩) WZ))))/\
 ∀ayK:Nat->Value,∀(rK:Int)(JQ:Option Addr)(gf:World),J64 rK JQ gf->
 Br (rK !=0)
 (eo vu.a fB vu.n/\∃(S4:Int),ld gf.drew (af vu.a ((fB:Int).toNat*1))=some (.int .i64 S4)/\
 ah 33 #[p2,S4,.agg #[bq,bA,bo]] gf.drew (λe Z2=>∃(zh uz:Int),e=Value.tuple #[zh,uz]/\K3 w gO kr gf.drew Z2 (
 Br (zh !=0)
 (R false Z2)
 (Br (uz !=rK)
 (R false Z2)
 (∃Oj,Oj<CD/\aO [bq,bA,bo]/\I34 Oj ((aj (fB+1))) Z2)))))
 (aP (dv JQ) (∃(vv pF pG:Int),ag gf (af JQ 0) 0 [vv,pF,pG]/\
 Aw gf #[aa,aa,aa] 41 λw97=>
 Sw w97 gf #[vv,pF,pG] λGM=>
 Br (decide (((if (aj (kJ-vv))>(aj (vv-kJ)) then (aj (kJ-vv)) else (aj (vv-kJ))):Int)>5))
 (R false GM.drew)
 (Br (decide (((if (aj (iW-pF))>(aj (pF-iW)) then (aj (iW-pF)) else (aj (pF-iW))):Int)>5))
 (R false GM.drew)
 (Br (decide (((if (aj (ov-pG))>(aj (pG-ov)) then (aj (ov-pG)) else (aj (pG-ov))):Int)>5))
 (R false GM.drew)
 (aP (dv p2) (aP (dv p2) (∃(p99:Option Addr),ld GM.drew (af p2 0)=some (.pointer p99)/\
 aP (dv JQ) (∃(mJ:Int),ld GM.drew (af JQ 3)=some (.int .i64 mJ)/\
 ah 18 #[p99] GM.drew (λe kE=>∃(al2:Option Addr),e=al2/\K4 w gO kr gf GM.drew kE (
 ag kE (af JQ 3) 0 [mJ]/\ag kE gf 0 [vv,pF,pG]/\ag kE (some ⟨gf,2,none⟩) 0 [pG]/\ag kE (some ⟨kr,2,none⟩) 0 [ov]/\ag kE (some ⟨kr,2,none⟩) 0 [ov]/\ag kE (some ⟨gf,2,none⟩) 0 [pG]/\ag kE (some ⟨gf,1,none⟩) 0 [pF]/\ag kE (some ⟨kr,1,none⟩) 0 [iW]/\ag kE (some ⟨kr,1,none⟩) 0 [iW]/\ag kE (some ⟨gf,1,none⟩) 0 [pF]/\ag kE gf 0 [vv]/\ag kE (some ⟨kr,0,none⟩) 0 [kJ]/\ag kE (some ⟨kr,0,none⟩) 0 [kJ]/\ag kE gf 0 [vv]/\ah 27 #[al2] kE (Rv λarQ ua=>K4 w gO kr gf kE ua (
 ag ua (af JQ 3) 0 [mJ]/\ag ua gf 0 [vv,pF,pG]/\ag ua (some ⟨gf,2,none⟩) 0 [pG]/\ag ua (some ⟨kr,2,none⟩) 0 [ov]/\ag ua (some ⟨kr,2,none⟩) 0 [ov]/\ag ua (some ⟨gf,2,none⟩) 0 [pG]/\ag ua (some ⟨gf,1,none⟩) 0 [pF]/\ag ua (some ⟨kr,1,none⟩) 0 [iW]/\ag ua (some ⟨kr,1,none⟩) 0 [iW]/\ag ua (some ⟨gf,1,none⟩) 0 [pF]/\ag ua gf 0 [vv]/\ag ua (some ⟨kr,0,none⟩) 0 [kJ]/\ag ua (some ⟨kr,0,none⟩) 0 [kJ]/\ag ua gf 0 [vv]/\cr Tryz.prog arQ [.agg #[vv,pF,pG]] ua (Ri λoN kq=>K4 w gO kr gf ua kq (
 ag kq (af JQ 3) 0 [mJ]/\ag kq (some ⟨gf,2,none⟩) 0 [pG]/\ag kq (some ⟨kr,2,none⟩) 0 [ov]/\ag kq (some ⟨kr,2,none⟩) 0 [ov]/\ag kq (some ⟨gf,2,none⟩) 0 [pG]/\ag kq (some ⟨gf,1,none⟩) 0 [pF]/\ag kq (some ⟨kr,1,none⟩) 0 [iW]/\ag kq (some ⟨kr,1,none⟩) 0 [iW]/\ag kq (some ⟨gf,1,none⟩) 0 [pF]/\ag kq gf 0 [vv]/\ag kq (some ⟨kr,0,none⟩) 0 [kJ]/\ag kq (some ⟨kr,0,none⟩) 0 [kJ]/\ag kq gf 0 [vv]/\Br (oN !=mJ)
 (R false kq)
 (eo vu.a fB vu.n/\∃(ox:Int),ld kq.drew (af vu.a ((fB:Int).toNat*1))=some (.int .i64 ox)/\
 ah 33 #[p2,ox,.agg #[bq,bA,bo]] kq.drew (λe tY=>∃(pI jE:Int),e=Value.tuple #[pI,jE]/\K4 w gO kr gf kq.drew tY (
 Br (jE==0)
 (aP (dv JQ) (∃(mf:Int),ld tY.drew (af JQ 3)=some (.int .i64 mf)/\
 Br (pI !=mf)
 (R false tY.drew)
 (aP (dv p2) (aP (dv p2) (∃(al3:Option Addr),ld tY.drew (af p2 0)=some (.pointer al3)/\
 ah 18 #[al3] tY.drew (λe AW=>∃(al4:Option Addr),e=al4/\K4 w gO kr gf tY.drew AW (
 ag AW gf 0 [vv,pF,pG]/\ag AW (af JQ 3) 0 [mf]/\ah 27 #[al4] AW (Rv λarR uY=>K4 w gO kr gf AW uY (
 ag uY gf 0 [vv,pF,pG]/\ag uY (af JQ 3) 0 [mf]/\cr Tryz.prog arR [.agg #[vv,pF,pG]] uY (Ri λadP AR=>K4 w gO kr gf uY AR (
 ag AR (af JQ 3) 0 [mf]/\Br (adP !=0)
 (R false AR)
 (∃Oj,Oj<CD/\aO [bq,bA,bo]/\I34 Oj ((aj (fB+1))) AR))))))))))))
 (∃Oj,Oj<CD/\aO [bq,bA,bo]/\I34 Oj ((aj (fB+1))) tY.drew))))))))))))))))))))))))
 (ah 14 #[] lf (Rb λadM pJ=>Kp w lf pJ/\
 R adM pJ)))))):ah 7 #[a0,a1,.agg #[bq,bA,bo]] w R:=
 cq ⟨[(5,⟨[(9,.int .i64)],[],[]⟩),(11,⟨[(11,.int .i64)],[],[]⟩)],[(16,⟨[(16,.int .i64),(15,.ptr)],[],[]⟩),(9,⟨[],[],[]⟩)],[]⟩ Tryz.func7 h
theorem YO{M:Sm}{L:List (Option dZ)}{n:Int}{cK:Ce}(e:(bW M L n cK).2≠0):fG M L n cK=((0,(bW M L n cK).2),M):=by unfold fG;rw [if_pos e]
theorem UW{M:Sm}{L:List (Option dZ)}{n:Int}{cK:Ce}(hn:ey M.T.2)(hg:RK M.T.2)(e0:(bW M L n cK).2=0)(e:(fG M L n cK).1.2=0):(fG M L n cK).1.1=(bW M L n cK).1.2.1/\gy (fG M L n cK).2.T.2 (bW M L n cK).1.1=0:=by
 unfold fG at e ⊢;rw [if_neg (λq=>q e0)] at e ⊢;split at e
 ·rename_i h1;exact absurd e h1
 ·rename_i h1;rw [if_neg h1];refine ⟨rfl,?_⟩;have hb:¬(aE 0=true/\qi L (bW M L n cK).1.1=true):=λq=>by
   have:aE 0=false:=by decide
   rw [this] at q
   cases q.1
  have h2:(eR M L (bW M L n cK).1.1 0)=((gI M.T.2 (bW M L n cK).1.1 0).2,vj M (bW M L n cK).1.1 0):=by unfold eR;rw [if_neg hb]
  rw [h2] at h1 ⊢;have h1:(gI M.T.2 (bW M L n cK).1.1 0).2=0:=by simpa using h1
  obtain ⟨hy,x,hx,hp⟩:=HK h1;have:=(YP hn hg ⟨x,hx,hp⟩ hy (b:=0) aF).2.2.2 (bW M L n cK).1.1;rw [if_pos rfl] at this;exact this
theorem DQ(v:Ce):br (eJ v)=br v:=by
 have e:∀n,cu (dB n)=cu n:=λn=>by unfold cu dB;omega
 show (cu (dB v.1),cu (dB v.2.1),cu (dB v.2.2))=_;rw [e,e,e];rfl
theorem Jv.brk{k:Nat}{M:Sm}{L:List (Option dZ)}(h:Jv k M L)(n:Int)(cK:Ce):Jv (k+1) (fG M L n cK).2 L:=by
 unfold fG;split
 ·exact h.mono (Nat.le_succ _)
 split
 ·exact h.Hz _ _
 ·exact h.Hz _ _
theorem Qd{a b:Int}(ha: -2000000000<=a/\a<=2000000000)(hb: -2000000000<=b/\b<=2000000000)(h1:a-b<=5)(h2:b-a<=5):decide ((if aj (a-b)>aj (b-a) then aj (a-b) else aj (b-a))>5)=false:=by rw [wI,wI];refine decide_eq_false ?_;split<;>omega
set_option maxHeartbeats 8000000 in
theorem BO(ar:Int){sl:Sl}{ds:List RC}(cK:Ce){w:World}(hs:RdK w sl 17 (ds.map dL))(hd:∀d ∈ ds,dIn d):Calls Tryz.prog 7 #[ar,sl,dY cK] w λe w'=>e=.returned (.bool true)/\Ext w w':=by
 apply (ym.vc (a1:=sl));have hn:sl.n=ds.length:=by rw [hs.n,List.length_map]
 intro v0 e0;have x0:Ext w v0:=(Ext.cE _).bn e0;have z0:=zA e0;clear e0;refine (Pg ar 8 9 (by decide) v0).mono ?_;rintro e v1 ⟨a,rfl,hB⟩;have xB:∀{K:Nat->Prop} {u:World} {Me Mm:Sm} {Le:List (Option dZ)} {rows:List im},qE K v0 u a Me Le Mm rows->Ext v0 u:=λh=>by obtain ⟨F,F',oc,oc',h1,h2,h3,h4,h5,h6,h7⟩:=h;exact h7
 refine ⟨_,_,rfl,(xB hB).k,eZ rfl ⟨λu=>∃(j:Nat)(M:Sm)(rows:List im),j<=10/\qE (λ_=>False) v0 u a M (rows.map ai) M rows/\Jv j M (rows.map ai)/\ey M.T.2,⟨λn x wr=>∃(j:Nat)(M:Sm)(rows:List im),x=j/\j+n=10/\qE (λ_=>False) v0 wr a M (rows.map ai) M rows/\Jv j M (rows.map ai)/\ey M.T.2,⟨10,rfl,0,_,_,rfl,rfl,hB,jv0 _ _ _,?_⟩,?_⟩,?_⟩⟩
 ·show ey (l9 ar 9);unfold ey l9;rw [List.map_map];show (xH.map id).Nodup;decide
 ·rintro n us x u ⟨j,M,rows,rfl,hjn,hB7,hJ,hnd⟩;have stop:aO [cK.1,cK.2.1,cK.2.2]/\∃(j:Nat)(M:Sm)(rows:List im),j<=10/\qE (λ_=>False) v0 u a M (rows.map ai) M rows/\Jv j M (rows.map ai)/\ey M.T.2:=⟨rfl,j,M,rows,by omega,hB7,hJ,hnd⟩;refine Br.mk (λhq=>Br.mk (λM1=> ?_) (λM1=>stop)) (λhq=>stop);have hq:(j:Int)<sl.n:=by simpa using hq
  have M1:(j:Int)<10:=by simpa using M1
  obtain ⟨d,hdj⟩:=bI (l:=ds) (i:=j) (by omega);have gS:=hs.ext (x0.tr (xB hB7));have cO:(ds.map dL)[j]? =some (dL d):=by rw [List.getElem?_map,hdj];rfl
  have z7:=(xB hB7).size;refine ⟨gS.g9 (by decide) (by omega) hq,_,_,_,_,_,_,_,_,_,_,_,_,_,_,_,_,_,gS.bZ cO,(Ti hB7 hJ (by omega) d (hd d (List.mem_of_getElem? hdj))).mono ?_⟩;rintro e u2 ⟨rfl,alV,-⟩;refine ⟨_,rfl,?_,eZ rfl ⟨n-1,by omega,rfl,j+1,_,_,by rw [wI];omega,by omega,alV,hJ.step d hB7.few (by omega),agq hnd d⟩⟩;exact ((xB alV).k).trans ((xB hB7).k).symm
 rintro-v2 ⟨j,M,rows,ayy,hB,hJ,hnd⟩;obtain ⟨F,occ,hE,-⟩:=hB.e;have yK:=hB.Xb;have z2:=(xB hB).size;refine (HL hE).mono ?_;rintro e v3 ⟨s,rfl,ho,x3⟩;have z3:=x3.size;clear hE;have SY:s.n=(cg (rows.map ai)).length:=by rw [(ho.rd (show 0<1 by decide)).n,List.length_map]
 have hll:=sW (rows.map ai);have ZQ:=hB.ext x3;have yN:∀b,s.aX=some b->v2.heap.size<=b/\b<v3.heap.size:=λb hb=>by
  rcases ho.form (by decide) with ⟨rfl,-⟩|⟨g,cs,hsa,hg,hr,-⟩
  ·cases hb
  ·unfold Sl.aX at hb;rw [hsa] at hb
   cases hb
   exact ⟨hg,hr.lt⟩
 refine ⟨s,rfl,x3.k,λn x u=>∃(i:Nat)(Me:Sm),x=i/\i+n=(cg (rows.map ai)).length/\qE (λj=>v2.heap.size<=j/\j<v3.heap.size) v0 u a Me (rows.map ai) M rows/\Jv (j+i) Me (rows.map ai)/\ey Me.T.2/\v3.heap.size<=u.heap.size/\RdK u s 1 ((cg (rows.map ai)).map λi=> [.int .i64 i]),⟨(cg (rows.map ai)).length,rfl,0,M,rfl,by omega,ZQ.mono λj hj=> .inr hj,hJ,hnd,Nat.le_refl _,ho.rd (by decide)⟩,?_⟩;clear hJ hnd ZQ;rintro n us x u0 ⟨i,Me,rfl,oq,hB0,hJ,hnd,kz,gS⟩;have z4:=(xB hB0).size;refine Br.mk (λhq=> ?_) (λhq=> ?_)
 case refine_2=>
  refine (Jj u0).mono ?_;rintro e u9 ⟨rfl,x9⟩;exact ⟨_,rfl,x9.k,rfl,x0.tr ((xB hB0).tr x9)⟩
 have hq:(i:Int)<s.n:=by simpa using hq
 obtain ⟨m,hm⟩:=bI (l:=cg (rows.map ai)) (i:=i) (by omega);obtain ⟨m,rfl,ahX,y,hy⟩:=Ez (List.mem_of_getElem? hm);have mg:some y ∈ rows.map ai:=by
  unfold cc at hy;split at hy
  ·exact List.mem_of_getElem? (Option.join_eq_some_iff.1 hy)
  ·cases hy
 have cO:((cg (rows.map ai)).map λi=> [Value.int .i64 i])[i]? =some [.int .i64 (m:Int)]:=by rw [List.getElem?_map,hm];rfl
 have inb:eo s.a (i:Int) s.n:=gS.g9 (by decide) (by omega) hq;have lvL:∀{u:World},(∀j,v2.heap.size<=j/\j<v3.heap.size->u.heap[j]? =u0.heap[j]?)->Vc.ld u (af s.a ((i:Int).toNat*1))=some (.int .i64 (m:Int)):=λhu=>by have q:=(gS.same λb hb=>hu b (yN b hb)).at cO (j:=0) (v:=.int .i64 (m:Int)) rfl;rw [fK] at q;exact q
 have lvX:∀{u:World},Ext u0 u->Vc.ld u (af s.a ((i:Int).toNat*1))=some (.int .i64 (m:Int)):=λx=>by have q:=(gS.ext x).at cO (j:=0) (v:=.int .i64 (m:Int)) rfl;rw [fK] at q;exact q
 obtain ⟨F,occ,hE,-⟩:=hB0.e;have oky:=hJ.b y mg;refine ⟨inb,_,lvX (Ext.cE _),(UX hE m).mono ?_⟩;rintro e u1 ⟨rfl,x1⟩;have hb:LW (rows.map ai) (m:Int)=(y.1,true):=by unfold LW;rw [hy]
 rw [hb];have z1:=x1.size;refine ⟨_,_,_,_,_,_,_,_,_,_,rfl,x1.k,λu2 e2 u3 e3=> ?_⟩;have x3':Ext u1 u3:=((Ext.cE _).bn e2).ae e3 (Nat.le_refl _);have z3':u3.heap.size=u1.heap.size+1:=by rw [zR e3,zA e2]
 clear e2 e3;have hht:0<=y.1.ht/\y.1.ht<=1000000:=oky.2.2.1;refine (um y.1 (by omega) (by omega) u3).mono ?_;rintro e u4 ⟨rfl,x4⟩;have z4':=x4.size;refine ⟨_,_,_,rfl,x4.k,x4.k,(LX (ij y.1) u4).mono ?_⟩;rintro e u5 ⟨rfl,x5⟩;have z5:=x5.size;refine ⟨_,_,_,rfl,x5.k,x5.k,λu6 e6 u7 e7=> ?_⟩;have x7:Ext u5 u7.drew:=(((Ext.cE _).bn e6).ae e7 (Nat.le_refl _)).drew;have z7:u7.drew.heap.size=u5.heap.size+1:=by show u7.heap.size=_;rw [zR e7,zA e6]
 have r7:∃τ,Row u7.drew u5.heap.size (dA (br (ij y.1))) τ:=⟨_,by rw [e7,e6];exact (Row.set (Row.new u5 [_,_,_] _) [_,_,_]).ext (Ext.dr _)⟩;clear e6 e7;obtain ⟨τ7,r7⟩:=r7;have xx:=x1.tr (x3'.tr (x4.tr (x5.tr x7)));have zd:u7.drew.heap.size=u7.heap.size:=rfl;have lookS:∀{u:World},Ext u7.drew u->Calls Tryz.prog 32 #[.pointer (some ⟨a.g,0,none⟩),.int .i64 (m:Int),dY cK] u λe w'=>e=.returned (.tuple #[Sa (bW Me (rows.map ai) m cK).1,.int .i64 (bW Me (rows.map ai) m cK).2])/\Ext u w':=λx=>ub (hE.ext (xx.tr x)) hJ.b (by omega) m cK
 have Rk:=λe=>D4 (M:=Me) (L:=rows.map ai) (n:=(m:Int)) (cK:=cK) e
 have brk:=λe=>YO (M:=Me) (L:=rows.map ai) (n:=(m:Int)) (cK:=cK) e
 have bra:=λhg e0 e=>UW (M:=Me) (L:=rows.map ai) (n:=(m:Int)) (cK:=cK) hnd hg e0 e
 have nearL:=λe=>(ql (M:=Me) (L:=rows.map ai) hJ.b (by omega) (n:=(m:Int)) (cK:=cK) e).1
 have hwr:IntKind.wrap .i64 ((i:Int)+1)=((i+1:Nat):Int):=by rw [wI];omega
 generalize pQ:bW Me (rows.map ai) m cK=lk at lookS Rk brk bra nearL;obtain ⟨⟨⟨cx,cy,cz⟩,cb,cf,ct⟩,ce⟩:=lk;refine ⟨λx p u=>x=ce/\∃(b:Nat)(τ:TypeId),p=some ⟨b,0,none⟩/\u7.drew.heap.size<=b/\Row u b [cx,cy,cz,cb,cf,ct] τ/\Ext u7.drew u,⟨inb,_,lvX xx,?_,?_⟩,?_⟩
 ·refine (lookS (Ext.cE _)).mono ?_;rintro e u8 ⟨rfl,x8⟩;have z8:=x8.size;refine ⟨_,_,_,_,_,_,_,rfl,x8.k,x8.k,x8.k,λu9 e9 Ij vw=> ?_⟩;exact ⟨rfl,rfl,rfl,rfl,_,_,rfl,z8,by rw [vw,e9];exact Row.set (Row.new u8 [_,_,_,_,_,_] _) [_,_,_,_,_,_],x8.tr (((Ext.cE _).bn e9).ae vw (Nat.le_refl _))⟩
 ·intro u9 e9;have x9:Ext u7.drew u9:=(Ext.cE _).bn e9;have z9:=zA e9;have r9:∃τ,Row u9 u7.drew.heap.size [(0:Int),(0:Int),(0:Int),(0:Int),(0:Int),(0:Int)] τ:=⟨_,by rw [e9];exact Row.new u7.drew [_,_,_,_,_,_] _⟩;clear e9;obtain ⟨τ9,r9⟩:=r9;refine (lookS x9).mono ?_;rintro e Ij ⟨rfl,bh⟩;have QX:=bh.size;refine ⟨_,_,_,_,_,_,_,rfl,bh.k,bh.k,bh.k,bh.k,λu11 Cn=> ?_⟩;exact ⟨rfl,rfl,rfl,rfl,_,_,rfl,Nat.le_refl _,by rw [Cn];exact Row.set (r9.ext bh) [_,_,_,_,_,_],(x9.tr bh).ae Cn (Nat.le_refl _)⟩
 rintro-x p u8 ⟨rfl,b,τ8,rfl,hb8,r8,x8⟩;have z8:=x8.size;have hbz:=r8.lt;refine Br.mk (λhq=> ?_) (λhq=> ?_)
 ·have hce:x≠0:=by simpa using hq
  have xd:=xx.tr (x8.tr (Ext.dr u8));have zd8:u8.drew.heap.size=u8.heap.size:=rfl;have hB8:=hB0.ext xd;obtain ⟨F8,oc8,hE8,he8⟩:=hB8.e;have Oh:=sV hE8 hJ.b (by omega) (m:Int) cK (hJ.s.mono (by omega));rw [brk hce] at Oh;refine ⟨inb,_,lvX xd,Oh.mono ?_⟩;rintro e u9 ⟨rfl,hr⟩;have hz:u8.drew.heap.size<=u9.heap.size:=by obtain ⟨G,g1,g2⟩:=hr;exact g2.mod.size
  obtain ⟨hB9,k9⟩:=he8 hr;refine ⟨_,_,rfl,((xB hB9).k).trans ((xB hB8).k).symm,k9 _ (.inr ⟨by omega,by omega⟩),k9 _ (.inr ⟨by omega,by omega⟩),eZ rfl (eZ (by simp) ⟨n-1,by omega,rfl,i+1,Me,hwr,by omega,hB9.mono λj hj=> .inl hj,hJ.mono (by omega),hnd,by omega,gS.same λb hb=> ?_⟩)⟩;rw [k9 b (.inl (yN b hb)),xd.heap (hB0.lt (yN b hb))]
 have hce:x=0:=by simpa using hq
 obtain ⟨y',hy',-,hcast,-⟩:=Rk hce;have hyy:y'=y:=Option.some.inj (hy'.symm.trans hy);subst hyy;have hnear:=nearL hce;obtain ⟨n1,n2,n3,hV,-⟩:=D5 (by rw [X5];decide) hcast;obtain ⟨c1,c2,c3⟩:=yn oky (by omega);rw [DQ] at n1 n2 n3 c1 c2 c3;simp only at n1 n2 n3 hV;have ael:pn (cx,cy,cz):=by unfold iJ at hnear;unfold pn inI;simp only at hnear ⊢;omega
 unfold iJ at hnear;simp only at hnear;refine fU rfl ⟨cx,cy,cz,by rw [bf];exact qe r8 rfl rfl rfl,λu9 e9 Ij vw=> ?_⟩;have bh:Ext u8 Ij.drew:=(((Ext.cE _).bn e9).ae vw (Nat.le_refl _)).drew;have QX:Ij.drew.heap.size=u8.heap.size+1:=by show Ij.heap.size=_;rw [zR vw,zA e9]
 have r10:∃τ,Row Ij.drew u8.heap.size [cx,cy,cz] τ:=⟨_,by rw [vw,e9];exact (Row.set (Row.new u8 [_,_,_] _) [_,_,_]).ext (Ext.dr _)⟩;clear e9 vw;obtain ⟨τ10,r10⟩:=r10;have xa:=xx.tr (x8.tr bh);have pb:∀{u:World},(u.heap[b]? =Ij.drew.heap[b]?)->ag u (af (some ⟨b,0,none⟩) 3) 0 [cb]:=λhu=>by rw [bf];exact kB ((r8.ext bh).same hu) rfl
 have d3:∀{u:World},(u.heap[u8.heap.size]? =Ij.drew.heap[u8.heap.size]?)->ag u (some ⟨u8.heap.size,0,none⟩) 0 [cx,cy,cz]:=λhu=>qe (r10.same hu) rfl rfl rfl
 have d0:∀{u:World},Ext Ij.drew u->ag u (some ⟨u8.heap.size,0,none⟩) 0 [cx]:=λx=>kB (r10.ext x) rfl
 have d1:∀{u:World},Ext Ij.drew u->ag u (some ⟨u8.heap.size,1,none⟩) 0 [cy]:=λx=>kB (r10.ext x) rfl
 have d2:∀{u:World},Ext Ij.drew u->ag u (some ⟨u8.heap.size,2,none⟩) 0 [cz]:=λx=>kB (r10.ext x) rfl
 have f0:∀{u:World},Ext Ij.drew u->ag u (some ⟨u5.heap.size,0,none⟩) 0 [.int .i64 (br (ij y'.1)).1]:=λx=>kB (r7.ext (x8.tr (bh.tr x))) rfl
 have f1:∀{u:World},Ext Ij.drew u->ag u (some ⟨u5.heap.size,1,none⟩) 0 [.int .i64 (br (ij y'.1)).2.1]:=λx=>kB (r7.ext (x8.tr (bh.tr x))) rfl
 have f2:∀{u:World},Ext Ij.drew u->ag u (some ⟨u5.heap.size,2,none⟩) 0 [.int .i64 (br (ij y'.1)).2.2]:=λx=>kB (r7.ext (x8.tr (bh.tr x))) rfl
 have xr:Ext Ij.drew Ij.drew:=Ext.cE _;have hbz10:b<Ij.drew.heap.size:=by omega
 have hsz10:u8.heap.size<Ij.drew.heap.size:=by omega
 obtain ⟨Fs,Kq,jq,-,-⟩:=(hE.ext xa).vb;obtain ⟨Fw,hW,-,-⟩:=Kq.world;have hgd:=hW.afS;refine eZ (Qd (by omega) (by omega) (by omega) (by omega)) (eZ (Qd (by omega) (by omega) (by omega) (by omega)) (eZ (Qd (by omega) (by omega) (by omega) (by omega)) (fU rfl (fU rfl ⟨_,jq,fU rfl ⟨cb,(r8.ext bh).at 3 rfl,(fO Kq).mono ?_⟩⟩))));rintro e u11 ⟨rfl,hv⟩;subst hv;refine ⟨_,rfl,rfl,rfl,rfl,rfl,pb rfl,d3 rfl,d2 xr,f2 xr,f2 xr,d2 xr,d1 xr,f1 xr,f1 xr,d1 xr,d0 xr,f0 xr,f0 xr,d0 xr,(fl hW).mono ?_⟩;rintro e u11 ⟨rfl,hv⟩;subst hv;refine ⟨_,rfl,rfl,rfl,rfl,rfl,pb rfl,d3 rfl,d2 xr,f2 xr,f2 xr,d2 xr,d1 xr,f1 xr,f1 xr,d1 xr,d0 xr,f0 xr,f0 xr,d0 xr,?_⟩;refine (λR' k=>dp (R':=R') ((hE.ext xa).tl.at ael) k) _ ?_;rintro e u12 ⟨rfl,bN⟩;have z12:=bN.size;have hV':gy Me.T.2 (cx,cy,cz)=cb:=hV;refine ⟨_,rfl,bN.k,bN.k,bN.k,bN.k,pb (bN.heap hbz10),d2 bN,f2 bN,f2 bN,d2 bN,d1 bN,f1 bN,f1 bN,d1 bN,d0 bN,f0 bN,f0 bN,d0 bN,eZ (by rw [hV'];simp) ?_⟩;have xb:=xa.tr (bN.tr (Ext.dr u12));have ayE:u12.drew.heap.size=u12.heap.size:=rfl;have alX:=hB0.ext xb;obtain ⟨F12,ayF,arG,arH⟩:=alX.e;have Kk:=hJ.brk (m:Int) cK;have hnd2:=HM hnd (rows.map ai) (m:Int) cK;have alY:=bra hgd hce;have Oh:=sV arG hJ.b (by omega) (m:Int) cK (hJ.s.mono (by omega));generalize fG Me (rows.map ai) (m:Int) cK=bk at Kk hnd2 alY Oh;refine ⟨inb,_,lvX xb,Oh.mono ?_⟩;rintro e u13 ⟨rfl,hr⟩;have hz:u12.drew.heap.size<=u13.heap.size:=by obtain ⟨G,g1,g2⟩:=hr;exact g2.mod.size
 obtain ⟨ah8,WV⟩:=arH hr;have fin:∀{u:World},Ext u13 u->∃Oj,Oj<n/\aO [cK.1,cK.2.1,cK.2.2]/\∃(i_1:Nat)(Me:Sm),IntKind.wrap .i64 ((i:Int)+1)=i_1/\i_1+Oj=(cg (rows.map ai)).length/\qE (λj=>v2.heap.size<=j/\j<v3.heap.size) v0 u a Me (rows.map ai) M rows/\Jv (j+i_1) Me (rows.map ai)/\ey Me.T.2/\v3.heap.size<=u.heap.size/\RdK u s 1 ((cg (rows.map ai)).map λi=> [.int .i64 i]):=λ{u} xu=>by have zu:=xu.size;have hBu:=(ah8.mono (K':=λj=>v2.heap.size<=j/\j<v3.heap.size) λj hj=> .inl hj).same xu;refine ⟨n-1,by omega,rfl,i+1,bk.2,hwr,by omega,hBu.1,Kk.mono (by omega),hnd2,by omega,gS.same λb hb=> ?_⟩;rw [hBu.2 b (yN b hb),WV b (.inl (yN b hb)),xb.heap (hB0.lt (yN b hb))]
 refine ⟨_,_,rfl,((xB ah8).k).trans ((xB alX).k).symm,WV _ (.inr ⟨by omega,by omega⟩),WV _ (.inr ⟨by omega,by omega⟩),WV _ (.inr ⟨by omega,by omega⟩),Br.mk (λM1=> ?_) (λM1=>fin (Ext.dr _))⟩;have M1:bk.1.2=0:=by simpa using M1
 obtain ⟨C4,jC⟩:=alY M1;simp only at C4 jC;have kb:u13.drew.heap[b]? =Ij.drew.heap[b]? :=(WV b (.inr ⟨by omega,by omega⟩)).trans ((bN.tr (Ext.dr u12)).heap hbz10);have kd:u13.drew.heap[u8.heap.size]? =Ij.drew.heap[u8.heap.size]? :=(WV _ (.inr ⟨by omega,by omega⟩)).trans ((bN.tr (Ext.dr u12)).heap hsz10);obtain ⟨F13,ayG,alZ,-⟩:=ah8.e;obtain ⟨Fs3,hs3,hld3,-,-⟩:=(alZ.ext (Ext.dr u13)).vb;obtain ⟨Fw3,hW3,-,-⟩:=hs3.world;refine fU rfl ⟨cb,((r8.ext bh).same kb).at 3 rfl,eZ (by rw [C4];simp) (fU rfl (fU rfl ⟨_,hld3,(fO hs3).mono ?_⟩))⟩;rintro e u14 ⟨rfl,hv⟩;subst hv;refine ⟨_,rfl,rfl,rfl,rfl,rfl,d3 kd,pb kb,(fl hW3).mono ?_⟩;rintro e u14 ⟨rfl,hv⟩;subst hv;refine ⟨_,rfl,rfl,rfl,rfl,rfl,d3 kd,pb kb,?_⟩;refine (λR' k=>dp (R':=R') ((alZ.ext (Ext.dr u13)).tl.at ael) k) _ ?_;rintro e u14 ⟨rfl,bX⟩;have Wb:=bX.size;have ayI:u13.drew.heap.size=u13.heap.size:=rfl;exact ⟨_,rfl,bX.k,bX.k,bX.k,bX.k,pb ((bX.k).trans kb),eZ (by rw [jC];rfl) (fin ((Ext.dr u13).tr bX))⟩
end Go.Proofs.YtkkkfkopcfdmaaaGreatDoor
