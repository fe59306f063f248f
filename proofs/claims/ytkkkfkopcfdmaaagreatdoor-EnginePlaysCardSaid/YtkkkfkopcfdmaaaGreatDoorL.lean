import Derived.Test.YtkkkfkopcfdmaaaGreatDoorK
import Derived.Test.YtkkkfkopcfdmaaaGreatDoorC
set_option linter.all false
namespace Go.Proofs.YtkkkfkopcfdmaaaGreatDoor
open Go Go.Vc Go.RowKit Go.Proofs Go.dK Go.bf Go.Code Go.gw Go.fV Go.ku
set_option maxRecDepth 100000
section
variable {F F':Nat->Prop} {w w':World} {m s o t:Nat} {M M':Sm} {occ:Value} {rows:List jd}
def tf (M:Sm) (rows:List jd) (b:ep):List jd:=
 if (dp M (rows.map ai) b).2.1=0 then rows.set (oQ (rows.map ai)).toNat (true,({b with gZ:=jN (ig M.T.2) (iA b.box) aI},(0,0,false))) else rows
theorem AI {b:ep}:(tf M rows b).map ai=(dp M (rows.map ai) b).2.2:=by
 unfold tf;by_cases h1:b.may=false
 ·have e:dp M (rows.map ai) b=(-1,1,rows.map ai):=by unfold dp;rw [if_pos h1]
  rw [e,if_neg bt]
 by_cases h2:oQ (rows.map ai)<0
 ·have e:dp M (rows.map ai) b=(-1,8,rows.map ai):=by unfold dp;rw [if_neg h1,if_pos h2]
  rw [e,if_neg bt]
 by_cases h3:nI M b=false
 ·have e:dp M (rows.map ai) b=(-1,11,rows.map ai):=by unfold dp;rw [if_neg h1,if_neg h2,if_pos h3]
  rw [e,if_neg bt]
 by_cases h4:jN (ig M.T.2) b.box aI=true
 ·have e:dp M (rows.map ai) b=(-1,12,rows.map ai):=by unfold dp;rw [if_neg h1,if_neg h2,if_neg h3,if_pos h4]
  rw [e,if_neg bt]
 have e:dp M (rows.map ai) b=(oQ (rows.map ai),0,(rows.map ai).set (oQ (rows.map ai)).toNat (some ({b with gZ:=jN (ig M.T.2) (iA b.box) aI},(0,0,false)))):=by unfold dp;rw [if_neg h1,if_neg h2,if_neg h3,if_neg h4]
 rw [e,if_pos rfl,List.map_set];rfl
set_option maxHeartbeats 4000000 in
theorem Kh (h:MF F w m s o t M occ rows) (aH:Ce) (wd ht:Int) (hw:bS wd):ah 53 #[m,ea aH,wd,ht] w λe w'=>
  e=Value.tuple #[.int .i64 (dp M (rows.map ai) (fe aH wd ht)).1,.int .i64 (dp M (rows.map ai) (fe aH wd ht)).2.1]/\kB F w m s o t M occ (tf M rows (fe aH wd ht)) w':=by
 apply xk.vc;intro w0 e0 w1 e1 w2 e2;have x0:=aL e0;have z0:=zA e0;have x2:Ext w0 w2:=(aL e1).af e2 (aB _);have z2:w2.heap.size=w0.heap.size+1:=by rw [zR e2,zA e1]
 have r2:∃τ,Row w2 w0 (jo (fe aH wd ht)) τ:=⟨_,by rw [e2,e1];exact Row.set (Row.new w0 [_,_,_,_,_,_,_,_,_] _) [_,_,_,_,_,_,_,_,_]⟩;obtain ⟨τ,r2⟩:=r2;have yA:=x0.tr x2;obtain ⟨b,hm,hr,hn,-,hFb,-,bo⟩:=h.CL;have ldm:∀{u:World},Ext w u->Vc.ld u (ae (some ⟨m,0,none⟩) 2)=some (.slice (some ⟨b,0,none⟩) 16 16):=λxu=>(hm.ext xu).at 2 rfl
 have rk:∀{u:World},Ext w u->RdK u ⟨some ⟨b,0,none⟩,16,16⟩ 13 (rows.map jr):=λxu=>qv (hr.ext xu) hn
 have inb:∀{u:World},Ext w u->∀k:Nat,k<16->ee (some ⟨b,0,none⟩) (k:Int) 16:=λxu k hk=>(rk xu).gR (i:=(k:Int)) aE aa (by show (k:Int)<((16:Nat):Int);omega)
 refine (Tm (fe aH wd ht) w2).mono ?_;rintro e w3 ⟨rfl,x3⟩;have z3:=x3.size;have Av:=yA.tr x3;have same:∀{n q:Int},dp M (rows.map ai) (fe aH wd ht)=(n,q,rows.map ai)->q≠0->∀{u:World},Ext w u->Ending.returned (.tuple #[.int .i64 n,.int .i64 q])=Value.tuple #[.int .i64 (dp M (rows.map ai) (fe aH wd ht)).1,.int .i64 (dp M (rows.map ai) (fe aH wd ht)).2.1]/\kB F w m s o t M occ (tf M rows (fe aH wd ht)) u:=λ{n q} he hq {u} xu=>by unfold tf;rw [he];rw [if_neg hq];exact ⟨rfl,h.res xu⟩
 refine ⟨_,rfl,x3.heap aa,x3.heap aa,Br.mk (λq=> ?_) (λq=> ?_)⟩
 ·have q:(fe aH wd ht).may=false:=by simpa using q
  exact same (by unfold dp;rw [if_pos q]) aE Av
 have q:¬(fe aH wd ht).may=false:=by simpa using q
 refine ⟨λn x y wr=>∃j:Nat,x=(j:Int)-1/\j=n/\j<=16/\wr=w3/\((y= -1/\∀(i:Nat) (r:jd),j<=i->rows[i]? =some r->r.1=true)\/(∃i:Nat,y=i/\j<=i/\i<16/\(∃r:jd,rows[i]? =some r/\r.1=false)/\∀(k:Nat) (r:jd),j<=k->k<i->rows[k]? =some r->r.1=true)),⟨16,rfl,rfl,16,rfl,rfl,aB _,rfl,.inl ⟨rfl,λi r hi hr=>by have:=(cR.1 hr).1;omega⟩⟩,?_⟩;rintro n6 us x y bD ⟨j,rfl,rfl,awn,rfl,hy⟩;apply Br.mk<;>intro hc
 ·have hc:(j:Int)-1>=0:=by simpa using hc
  obtain ⟨i,rfl⟩:∃i,j=i+1:=⟨j-1,by omega⟩;have e1:((i+1:Nat):Int)-1=(i:Int):=by omega
  rw [e1];obtain ⟨r,sO⟩:=bH (l:=rows) (i:=i) aa;have hi:(rows.map jr)[i]? =some (jr r):=by rw [aS,sO];rfl
  have wk:aj ((i:Int)-1)=(i:Int)-1:=wI;refine ⟨⟨some ⟨b,0,none⟩,16,16⟩,ldm Av,inb Av i aa,gr rfl ⟨r.1,(rk Av).at hi (Wv r),Br.mk (λhb=> ?_) (λhb=> ?_)⟩⟩
  ·have hb:r.1=false:=by simpa using hb
   refine ⟨i,by omega,rfl,rfl,i,wk,rfl,by omega,rfl,.inr ⟨i,rfl,aB _,by omega,⟨r,sO,hb⟩,λk r hk EO=>by omega⟩⟩
  ·have hb:r.1=true:=by simpa using hb
   refine ⟨i,by omega,rfl,rfl,i,wk,rfl,by omega,rfl,?_⟩;rcases hy with ⟨hy1,qg⟩|⟨i',hy1,h1,h2,h3,h4⟩
   ·refine .inl ⟨hy1,λk r' hk hr'=> ?_⟩;by_cases hki:k=i
    ·subst hki;rw [sO] at hr';rw [<-Option.some.inj hr'];exact hb
    ·exact qg k r' aa hr'
   ·refine .inr ⟨i',hy1,by omega,h2,h3,λk r' hk EO hr'=> ?_⟩;by_cases hki:k=i
    ·subst hki;rw [sO] at hr';rw [<-Option.some.inj hr'];exact hb
    ·exact h4 k r' aa EO hr'
 have hc:¬(j:Int)-1>=0:=by simpa using hc
 have hj0:j=0:=by omega
 subst hj0;have hfree:oQ (rows.map ai)=y:=Tn hn (by
  rcases hy with ⟨h1,h2⟩|⟨i,h1,h2,h3,h4,h5⟩
  ·exact .inl ⟨h1,λi r hr=>h2 i r (Nat.zero_le _) hr⟩
  ·exact .inr ⟨i,h1,h3,h4,λk r hk hr=>h5 k r (Nat.zero_le _) hk hr⟩)
 apply Br.mk<;>intro q2
 ·have q2:y<0:=by simpa using q2
  exact same (by unfold dp;rw [if_neg q,hfree,if_pos q2]) aE Av
 have q2:¬y<0:=by simpa using q2
 obtain ⟨k,hyk,uQ⟩:∃k:Nat,y=k/\k<16:=by
  rcases hy with ⟨h1,-⟩|⟨i,h1,-,h3,-⟩
  ·omega
  ·exact ⟨i,h1,h3⟩
 subst hyk;refine (AP (h.ext Av) (fe aH wd ht)).mono ?_;rintro e bK ⟨rfl,bW⟩;have WE:=bW.size;have awp:=lv bK;have ZI:=Av.tr bW;refine ⟨_,rfl,bW.heap aa,bW.heap aa,Br.mk (λq3=> ?_) (λq3=> ?_)⟩
 ·have q3:nI M (fe aH wd ht)=false:=by simpa using q3
  exact same (by unfold dp;rw [if_neg q,hfree,if_neg q2,if_pos q3]) aE ZI
 have q3:¬nI M (fe aH wd ht)=false:=by simpa using q3
 have viewS:∀{u:World},Ext w u->Vc.ld u (ae (some ⟨m,0,none⟩) 0)=some (.pointer (some ⟨o,0,none⟩))/\ah 27 #[o] u λe w'=>e=Value.func (.func 83) #[t] #[]/\w'=u:=λxu=>by obtain ⟨Fs,hs,-,jq,-⟩:=(h.ext xu).sV;obtain ⟨Fw,hW,-,-⟩:=hs.world;exact ⟨jq,fo hW⟩
 have parL:∀{u:World},Ext w2 u->ag u (some ⟨w0.heap.size,0,none⟩) 0 (jo (fe aH wd ht)):=λxu=>Lo.wv (r2.ext xu)
 refine ⟨_,(viewS ZI.drew).1,(viewS ZI.drew).2.mono ?_⟩;rintro e cE ⟨rfl,aoY⟩;subst aoY;refine ⟨_,rfl,rfl,rfl,parL ((x3.tr bW).drew),(zi (fe aH wd ht) hw bK.drew).mono ?_⟩;rintro e fy ⟨rfl,cr⟩;have z19:=cr.size;refine ⟨_,_,_,_,_,_,rfl,cr.heap aa,cr.heap aa,?_⟩
 try refine ⟨parL (((x3.tr bW).drew).tr cr),?_⟩
 refine (mO (h.ext (ZI.drew.tr cr)).tl rfl (fe aH wd ht).box).mono ?_;rintro e eG ⟨rfl,fk⟩;have z26:=fk.size;have awq:=lv eG;have Gt:=(ZI.drew.tr cr).tr fk;have ajI:=(((x3.tr bW).drew).tr cr).tr fk;refine ⟨_,rfl,fk.heap aa,fk.heap aa,Br.mk (λq4=> ?_) (λq4=> ?_)⟩
 ·exact same (by unfold dp;rw [if_neg q,hfree,if_neg q2,if_neg q3,if_pos q4]) aE Gt
 refine ⟨_,(viewS Gt.drew).1,(viewS Gt.drew).2.mono ?_⟩;rintro e dH ⟨rfl,ao0⟩;subst ao0;refine ⟨_,rfl,rfl,rfl,parL ajI.drew,(zi (fe aH wd ht) hw eG.drew).mono ?_⟩;rintro e fj ⟨rfl,gI⟩;have z31:=gI.size;refine ⟨_,_,_,_,_,_,rfl,gI.heap aa,gI.heap aa,?_⟩
 try refine ⟨parL (ajI.drew.tr gI),?_⟩
 refine (lF (h.ext (Gt.drew.tr gI)).tl rfl (fe aH wd ht).box).mono ?_;rintro e mX ⟨rfl,fX⟩;have z38:=fX.size;have ao1:=(Gt.drew.tr gI).tr fX;refine ⟨_,rfl,fX.heap aa,fX.heap aa,λik QJ=> ?_⟩;have lW:Ext w ik.drew:=(ao1.af QJ aa).drew;have z40:ik.drew.heap.size=mX.heap.size:=by show ik.heap.size=_;exact zR QJ
 have hspawn:dp M (rows.map ai) (fe aH wd ht)=((k:Int),0,(rows.map ai).set k (some ({fe aH wd ht with gZ:=jN (ig M.T.2) (iA (fe aH wd ht).box) aI},(0,0,false)))):=by unfold dp;rw [if_neg q,hfree,if_neg q2,if_neg q3,if_neg (by rw [q4];decide)];rfl
 have hsr:tf M rows (fe aH wd ht)=rows.set k (true,({fe aH wd ht with gZ:=jN (ig M.T.2) (iA (fe aH wd ht).box) aI},(0,0,false))):=by unfold tf;rw [hspawn,if_pos rfl,hfree];rfl
 rw [hspawn,hsr];obtain ⟨p0,p1,p2⟩:=WZ hn (hr.ext lW) uQ (true,({fe aH wd ht with gZ:=jN (ig M.T.2) (iA (fe aH wd ht).box) aI},(0,0,false)));have hpb:bC (ae (some ⟨b,0,none⟩) ((k:Int).toNat*13))=some b:=by rw [bh];rfl
 have hbw:=h.lt hFb;refine ⟨⟨some ⟨b,0,none⟩,16,16⟩,ldm lW,inb lW k uQ,⟨p0,p1⟩,by rw [hpb];intro q;injection q with q;omega,by rw [hpb];intro q;injection q with q;omega,λjI ZJ=>⟨rfl,?_⟩⟩;obtain ⟨q1,q2⟩:=p2 jI ZJ;have ao2:Mod (λi=>i=b) w jI:=(Mod.aD lW).trans q2;exact bo ao2 q1 (by rw [ir];exact hn)
end
def B2 (rows:List jd) (i:Nat) (b:ep):List jd:=match rows[i]? with|some r=>rows.set i (r.1,(b,r.2.2))|none=>rows
def HQ (rows:List jd) (l:List (Nat × ep)):List jd:=l.foldl (λL x=>B2 L x.1 x.2) rows
def oI (M:Sm) (rows:List jd):List jd:=HQ rows ((eU M (rows.map ai)).zip (pS M (rows.map ai)))
theorem Zg {rows:List jd} {i:Nat} {b:ep}:(B2 rows i b).length=rows.length:=by
 unfold B2;split
 ·rw [ir]
 ·rfl
theorem Vi {rows:List jd} {i:Nat} {b:ep}:(B2 rows i b).map ai=vL (rows.map ai) i b:=by
 unfold B2 vL
 cases hq:rows[i]? with
 |none=>
  have:bV (rows.map ai) ((i:Nat):Int)=none:=by unfold bV;rw [if_pos aa,eJ,aS,hq];rfl
  rw [this]
 |some r=>
  rw [j8 (rows:=rows) (n:=(i:Nat)) rfl hq];obtain ⟨th,bd,uC⟩:=r
  cases th with
  |false=>
   show ((rows.set i (false,(b,uC))).map ai)=rows.map ai;rw [List.map_set];have hi:=(cR.1 hq).1;refine iX λj=> ?_
   by_cases e:i=j
   ·subst e;rw [oF (by rw [aM];exact hi),aS,hq];rfl
   ·rw [List.getElem?_set_ne e]
  |true=>
   show ((rows.set i (true,(b,uC))).map ai)=(rows.map ai).set i (some (b,uC));rw [List.map_set];rfl
theorem Et:∀(l:List (Nat × ep)) (rows:List jd),(HQ rows l).map ai=A7 (rows.map ai) l
 | [],rows=>rfl
 |x::l,rows=>by
  show (HQ (B2 rows x.1 x.2) l).map ai=A7 (vL (rows.map ai) x.1 x.2) l
  rw [Et l,Vi]
theorem HR:∀(l:List (Nat × ep)) (rows:List jd),(HQ rows l).length=rows.length
 | [],rows=>rfl
 |x::l,rows=>(HR l (B2 rows x.1 x.2)).trans Zg
theorem mI (M:Sm) (rows:List jd):(oI M rows).map ai=oS M (rows.map ai):=Et _ _
abbrev Eu (M:Sm) (rows:List jd) (j:Nat):List jd:=HQ rows (((eU M (rows.map ai)).zip (pS M (rows.map ai))).take j)
theorem Qo {M:Sm} {rows:List jd} {j:Nat} {i:Nat} {b:ep} (hi:(eU M (rows.map ai))[j]? =some i) (hb:(pS M (rows.map ai))[j]? =some b):Eu M rows (j+1)=B2 (Eu M rows j) i b:=by
 have e:((eU M (rows.map ai)).zip (pS M (rows.map ai)))[j]? =some (i,b):=by rw [List.getElem?_zip_eq_some];exact ⟨hi,hb⟩
 unfold Eu HQ;rw [dE,e,List.foldl_append];rfl
theorem Db {K:Nat} {v r:LV} {off:Nat}:∀{l:List (LV)} {k:Nat} {r':LV},(∀r ∈ l,r.length=K)->l[k]? =some r->off+v.length<=K->aR r off v=r'->aR l.flatten (k*K+off) v=(l.set k r').flatten
 | [],k,_,_,hk,_,_=>absurd hk bt
 |a::l,0,r',hl,hk,hv,e=>by
  have ha:=hl a bt
  have hk:a=r:=by simpa using hk
  subst hk;subst e;rw [ki,List.set_cons_zero,ki,Nat.zero_mul,eB,dn v (a++l.flatten) off (by rw [dc];omega),dn v a off aa,List.take_append_of_le_length aa,List.drop_append_of_le_length aa,gO,gO,gO]
 |a::l,k+1,r',hl,hk,hv,e=>by have ha:=hl a bt;rw [ki,List.set_cons_succ,ki,show (k+1)*K+off=a.length+(k*K+off) from by rw [ha,Nat.add_mul,Nat.one_mul];omega,kj,Db (λr hr=>hl r (by simp [hr])) (by simpa using hk) hv e]
theorem acP {rows:List jd} (hn:rows.length=16) {b:Nat} {w:World} (hr:Row w b (rows.map jr).flatten AS) {k:Nat} (hk:k<16) (x:ep):(ae (ae (some ⟨b,0,none⟩) ((k:Int).toNat*13)) 1).isSome=true/\Wr w (ae (ae (some ⟨b,0,none⟩) ((k:Int).toNat*13)) 1) 9/\bC (ae (ae (some ⟨b,0,none⟩) ((k:Int).toNat*13)) 1)=some b/\
  ∀w',w'=Vc.aG w (ae (ae (some ⟨b,0,none⟩) ((k:Int).toNat*13)) 1) (jo x)->Row w' b ((B2 rows k x).map jr).flatten AS/\Mod (λi=>i=b) w w':=by
 obtain ⟨r,J1⟩:=bH (l:=rows) (i:=k) aa;have ET:(rows.map jr).flatten.length=16*13:=by
  have:=bM (k:=13) (rows:=rows.map jr) λr hr=>by obtain ⟨x,-,rfl⟩:=bg.1 hr;rfl
  rw [this,aM,hn]
 rw [de,eJ];obtain ⟨p1,p2⟩:=lI hr (off:=k*13+1) (vs:=jo x) (by rw [ET];show _+9<=_;omega) (vF x);refine ⟨rfl,p1,by rw [bh];rfl,λw' e=> ?_⟩;obtain ⟨q1,q2⟩:=p2 w' e;refine ⟨?_,q2⟩;have oA:B2 rows k x=rows.set k (r.1,(x,r.2.2)):=by unfold B2;rw [J1]
 have cN:(rows.map jr)[k]? =some (jr r):=by rw [aS,J1];rfl
 have:aR (rows.map jr).flatten (k*13+1) (jo x)=((B2 rows k x).map jr).flatten:=by rw [oA,List.map_set];exact Db (λr hr=>by obtain ⟨y,-,rfl⟩:=bg.1 hr;rfl) cN (by show 1+9<=13;decide) rfl
 rw [<-this];exact q1
section
variable {F F':Nat->Prop} {w w':World} {m s o t:Nat} {M M':Sm} {occ:Value} {rows:List jd}
abbrev agd (g:Nat):Value:=.func (.func 120) #[] #[g]
theorem mOc {g:Nat} {τ:TypeId} (h:MF F w m s o t M occ rows) {n:Int} (hL:rL n (rows.map ai)) (hg:Row w g [m] τ) (hgF:¬F g):∃Fs,SF Fs w s o t M occ/\Oc (agd g) (pQ (rows.map ai)) Fs w/\Vc.ld w (ae (some ⟨m,0,none⟩) 1)=some (.pointer (some ⟨s,0,none⟩))/\∀{w':World} {M':Sm} {occ':Value},lL Fs w s o t M' occ' w'->kB F w m s o t M' occ' rows w':=by
 obtain ⟨Fs,h1,h2,-,h3,h4⟩:=h.sV;obtain ⟨b,hm,hr,hn,-⟩:=h.CL;have nm:¬Fs m:=h1.jF hm mB.1.1 mB.1.2.1 mB.1.2.2.1 mB.1.2.2.2.1 mB.1.2.2.2.2.1 mB.1.2.2.2.2.2.1 mB.1.2.2.2.2.2.2;have nb:¬Fs b:=h1.jF hr mB.2.1.1 mB.2.1.2.1 mB.2.1.2.2.1 mB.2.1.2.2.2.1 mB.2.1.2.2.2.2.1 mB.2.1.2.2.2.2.2.1 mB.2.1.2.2.2.2.2.2;refine ⟨Fs,h1,⟨λi=>i=m\/i=b\/i=g,λi hi=> ?_,λw' hk c _=>cU (by kernel_rfl) rfl ?_⟩,h2,h4⟩
 ·rcases hi with rfl|rfl|rfl
  ·exact ⟨hm.lt,nm⟩
  ·exact ⟨hr.lt,nb⟩
  ·exact ⟨hg.lt,λq=>hgF (h3 _ q)⟩
 ·have hm':=hm.same (hk _ (.inl rfl));have hr':=hr.same (hk _ (.inr (.inl rfl)));have hg':=hg.same (hk _ (.inr (.inr rfl)));apply (vz.vc (c0:=⟨g,0,none⟩));intro w0 e0;have x0:=aL e0;have z0:=zA e0;have hl0:Vc.ld w0 (some ⟨g,0,none⟩)=some (.pointer (some ⟨m,0,none⟩)):=by rw [(hg'.ext x0).ld];rfl
  refine ⟨some ⟨m,0,none⟩,hl0,(Ec (hm'.ext x0) (hr'.ext x0) hn hL c).mono ?_⟩;rintro e w2 ⟨rfl,x2⟩;exact ⟨_,rfl,x2.heap aa,rfl,x0.tr x2⟩
end
section
variable {F F':Nat->Prop} {w w':World} {m s o t:Nat} {M M':Sm} {occ:Value} {rows:List jd}
set_option maxHeartbeats 6000000 in
theorem Od (h:MF F w m s o t M occ rows) {n:Int} (hL:rL n (rows.map ai)) (JQ:0<=n) (hn:n<=99900000000000) (hd:GU (sX M)) (hk:qu M 600000) (ahn:1<=M.da/\M.da<=64):
  ah 65 #[m] w λe w'=>e=Value.int .i64 (sX M).length/\kB F w m s o t (sW M (rows.map ai)).1 (agd w) (oI M rows) w':=by
 apply zw.vc;intro w0 e0;have x0:=aL e0;have z0:=zA e0;have r0:∃τ,Row w0 w [m] τ:=⟨_,by rw [e0];exact Row.new w [_] _⟩;obtain ⟨τ,r0⟩:=r0;have h0:=h.ext x0;have hwF:¬F w:=λq=>by have:=h.lt q;omega
 obtain ⟨b,hm,hr,vk,-,hFb,hmb,bo⟩:=h0.CL;have hbw:=h.lt hFb;have hwl:=IN M (rows.map ai);have ldm:∀{u:World},Ext w0 u->Vc.ld u (ae (some ⟨m,0,none⟩) 2)=some (.slice (some ⟨b,0,none⟩) 16 16):=λxu=>(hm.ext xu).at 2 rfl
 have rk:∀{u:World},Ext w0 u->RdK u ⟨some ⟨b,0,none⟩,16,16⟩ 13 (rows.map jr):=λxu=>qv (hr.ext xu) vk
 have inb:∀k:Nat,k<16->ee (some ⟨b,0,none⟩) (k:Int) 16:=λk hk=>(rk (Ext.cQ _)).gR (i:=(k:Int)) aE aa (by show (k:Int)<((16:Nat):Int);omega)
 have parL:∀{u:World},Ext w0 u->ag u (some ⟨w.heap.size,0,none⟩) 0 [m]:=λxu=>Lo.wv (r0.ext xu)
 have atk:∀i:Nat,i ∈ eU M (rows.map ai)->∃r,rows[i]? =some r/\i<16/\bV (rows.map ai) ((i:Nat):Int)=some r.2:=λi hi=>by
  obtain ⟨h1,y,hy⟩:=tu hi;obtain ⟨r,sO⟩:=bH (l:=rows) (i:=i) aa;refine ⟨r,sO,h1,?_⟩;rw [j8 (rows:=rows) (n:=(i:Nat)) rfl sO] at hy ⊢;unfold ai at hy ⊢;split at hy
  ·rename_i hb;rw [if_pos hb]
  ·cases hy
 let num:Nat->LV:=λi=> [.int .i64 (i:Int)]
 refine ⟨λn x sl wr=>∃k:Nat,x=k/\k+n=16/\aC w0 3 1 wr sl (((List.range k).filter (lM M (rows.map ai))).map num)/\Ext w0 wr,⟨16,rfl,0,rfl,rfl,aC.nil,Ext.cQ _⟩,?_⟩;rintro n1 us x sl wr ⟨k,rfl,hk',ho,xr⟩;have zr:=xr.size;apply Br.mk<;>intro hb
 ·have hb:(k:Int)<16:=by simpa using hb
  obtain ⟨r,J1⟩:=bH (l:=rows) (i:=k) aa;have hi:(rows.map jr)[k]? =some (jr r):=by rw [aS,J1];rfl
  have uP:=j8 (rows:=rows) (n:=k) rfl J1;have wk:=mh (j:=k);have dG:sl.n<=16:=by have h1:=(ho.rd (show 0<1 by decide)).n;have h2:=List.length_filter_le (lM M (rows.map ai)) (List.range k);rw [aM] at h1;rw [A2] at h2;omega
  have skip:lM M (rows.map ai) k=false->∀{u:World},Ext wr u->∃n7,n7<n1/\aO [m]/\∃k':Nat,aj ((k:Int)+1)=k'/\k'+n7=16/\aC w0 3 1 u ⟨sl.a,sl.n,sl.c⟩ (((List.range k').filter (lM M (rows.map ai))).map num)/\Ext w0 u:=λhq {u} xu=>by refine ⟨n1-1,by omega,rfl,k+1,wk,by omega,?_,xr.tr xu⟩;rw [List.range_succ,mA,bZ,List.filter_cons_of_neg (by rw [hq];decide)];simpa using ho.ext xu
  have xd:=Ext.dr wr;have zd:=lv wr;refine ⟨⟨some ⟨b,0,none⟩,16,16⟩,ldm (xr.tr xd),inb k aa,gr rfl ⟨r.1,(rk (xr.tr xd)).at hi (Wv r),Br.mk (λhb=> ?_) (λhb=>skip ?_ xd)⟩⟩
  ·have EP:ai r=some r.2:=by unfold ai;rw [if_pos hb]
   rw [EP] at uP;have hwake:lM M (rows.map ai) k=nI M r.2.1:=by unfold lM;rw [uP]
   refine ⟨⟨some ⟨b,0,none⟩,16,16⟩,ldm (xr.tr xd),inb k aa,gr rfl ⟨_,_,_,_,_,_,_,_,_,iP (rk (xr.tr xd)) hi (mlB r),(AP (h0.ext (xr.tr xd)) r.2.1).mono ?_⟩⟩;rintro e fh ⟨rfl,cZ⟩;have z20:=cZ.size;have Ws:=(xr.tr xd).tr cZ;refine ⟨_,rfl,cZ.heap aa,JZ (ldm Ws),parL Ws,JZ ((rk Ws).at hi (Wv r)),JZ (ldm Ws),parL Ws,Br.mk (λhq=>λcL wN=> ?_) (λhq=>skip (by rw [hwake];exact hq) (xd.tr cZ))⟩;subst wN;obtain ⟨B8,hres8⟩:=(ho.ext (xd.tr cZ)).iN (bytes:=8) (news:=[.int .i64 (k:Int)]) (.cells #[.int .i64 (k:Int)] 3) aa rfl (te _ _) aa aa;refine ⟨B8,λMT fH asn=> ?_⟩;obtain ⟨f8,wQ,hn8,x8,ER,-⟩:=hres8 MT fH asn;have xa:Ext fh (fh.alloc (.cells #[.int .i64 (k:Int)] 3)):=(aL rfl);have hparam:fH.heap[w.heap.size]? =(fh.alloc (.cells #[.int .i64 (k:Int)] 3)).heap[w.heap.size]? :=(x8.block _ aa).trans (xa.heap aa).symm;refine ⟨hparam,f8,n1-1,by omega,rfl,k+1,wk,by omega,?_,Below.trans Ws x8⟩;rw [List.range_succ,mA,bZ,List.filter_cons_of_pos (by rw [hwake];exact hq)];exact wQ
  ·have hb:r.1=false:=by simpa using hb
   have EP:ai r=none:=by unfold ai;rw [if_neg (by rw [hb];decide)]
   rw [EP] at uP;unfold lM;rw [uP]
 have hb:¬(k:Int)<16:=by simpa using hb
 have uQ:k=16:=by omega
 subst uQ;replace ho:aC w0 3 1 wr sl ((eU M (rows.map ai)).map num):=ho;have tU:sl.n=(eU M (rows.map ai)).length:=by rw [(ho.rd (show 0<1 by decide)).n,aM]
 have slk:∀b,sl.aY=some b->w0.heap.size<=b/\b<wr.heap.size:=λb hb=>ho.own.lt hb
 have viewS:∀{u:World},Ext w0 u->Vc.ld u (ae (some ⟨m,0,none⟩) 0)=some (.pointer (some ⟨o,0,none⟩))/\ah 27 #[o] u λe w'=>e=Value.func (.func 83) #[t] #[]/\w'=u:=λxu=>by obtain ⟨Fs,hs,-,jq,-⟩:=(h0.ext xu).sV;obtain ⟨Fw,hW,-,-⟩:=hs.world;exact ⟨jq,fo hW⟩
 refine ⟨λn x s2 eY=>∃j:Nat,x=j/\j+n=(eU M (rows.map ai)).length/\aC wr yQ 9 eY s2 ((((eU M (rows.map ai)).take j).map (ml M (rows.map ai))).map jo)/\Ext wr eY,⟨(eU M (rows.map ai)).length,rfl,0,rfl,by omega,aC.nil,Ext.cQ _⟩,?_⟩;rintro n2 wM x s2 eY ⟨j,rfl,hj,vm,iK⟩;have z30:=iK.size;apply Br.mk<;>intro hb
 ·have hb:(j:Int)<sl.n:=by simpa using hb
  obtain ⟨i,hi⟩:=bH (l:=eU M (rows.map ai)) (i:=j) aa;obtain ⟨r,sO,Fk,uP⟩:=atk i (aZ hi);have xd:=Ext.dr eY;have zd:=lv eY;have Nn:=xr.tr (iK.tr xd);have Fj:=(ho.ext (iK.tr xd)).rd (show 0<1 by decide);have hri2:((eU M (rows.map ai)).map num)[j]? =some [.int .i64 (i:Int)]:=by rw [aS,hi];rfl
  have JS:=Fj.at hri2 (j:=0) (v:=.int .i64 (i:Int)) rfl;rw [de] at JS;have hii:(rows.map jr)[i]? =some (jr r):=by rw [aS,sO];rfl
  refine ⟨⟨some ⟨b,0,none⟩,16,16⟩,ldm Nn,Fj.gR aE aa aa,_,JS,inb i Fk,_,_,_,_,_,_,_,_,_,_,_,_,_,(rk Nn).bY hii,λjQ e47 fG e48=> ?_⟩;have uS:Ext eY.drew fG.drew:=((aL e47).af e48 (aB _)).drew;have z48:fG.drew.heap.size=eY.drew.heap.size+1:=by show fG.heap.size=_;rw [zR e48,zA e47]
  have r48:∃τ,Row fG.drew eY.drew.heap.size (jr r) τ:=⟨_,by rw [e48,e47];exact (Row.set (Row.new eY.drew [_,_,_,_,_,_,_,_,_,_,_,_,_] _) (jr r)).ext (Ext.dr _)⟩;obtain ⟨τ',r48⟩:=r48;have Gv:=Nn.tr uS;refine ⟨_,(viewS Gv).1,(viewS Gv).2.mono ?_⟩;rintro e kM ⟨rfl,asp⟩;subst asp;have oky:=hL r.2 (pC uP);have lin:ag fG.drew (some ⟨eY.drew.heap.size,10,none⟩) 0 [.int .i64 r.2.2.1,.int .i64 r.2.2.2.1,.bool r.2.2.2.2]:=qL r48 rfl rfl rfl;have lbd:ag fG.drew (some ⟨eY.drew.heap.size,1,none⟩) 0 (jo r.2.1):=r48.bY (o:=1) λj hj=>by have:=mlB r j hj;rw [<-this]
  refine ⟨_,rfl,rfl,rfl,lin,parL Gv,lbd,(DG (h0.ext Gv).tl rfl r.2.1 oky.wdi oky.2.2.2 (oky.zE aa) aa r.2.2).mono ?_⟩;rintro e Ny ⟨rfl,kE⟩;have z52:=kE.size;have asq:=Gv.tr kE;refine ⟨_,_,_,_,_,_,_,_,_,rfl,kE.heap aa,kE.heap aa,parL asq,λgL e62=> ?_⟩;have mZ:=aL e62;subst e62;have dG:s2.n<=16:=by have h1:=(vm.rd (show 0<9 by decide)).n;rw [aM,aM,dC] at h1;omega
  have yY:∀g,s2.aY=some g->wr.heap.size<=g/\g<eY.heap.size:=λg hg=>vm.own.lt hg
  obtain ⟨B8,hres8⟩:=(vm.ext (xd.tr (uS.tr kE))).iN (bytes:=72) (news:=jo (tw (ig M.T.2) r.2.1 r.2.2)) (.cells (jo (tw (ig M.T.2) r.2.1 r.2.2)).toArray yQ) aa rfl (vF _) aa aa;refine ⟨B8,λs63 oX asr=> ?_⟩;obtain ⟨f8,wQ,hn8,x8,ER,-⟩:=hres8 s63 oX asr;have wk:=mh (j:=j);have ass:Ext w0 oX:=xr.tr (Below.trans (iK.tr (xd.tr (uS.tr kE))) x8);have k1:=(x8.block w aa).trans (mZ.heap aa).symm;have k2:=(ER eY.drew.heap.size (λq=>by have:=yY _ q;omega) aa).trans (mZ.heap aa).symm;refine ⟨k1,k2,f8,parL ass,n2-1,by omega,rfl,j+1,wk,by omega,?_,Below.trans (iK.tr (xd.tr (uS.tr kE))) x8⟩;rw [dE,hi,bZ,bZ];have e1:ml M (rows.map ai) i=tw (ig M.T.2) r.2.1 r.2.2:=by unfold ml;rw [uP]
  show aC _ _ _ _ _ (_++ [jo (ml M (rows.map ai) i)]);rw [e1];exact wQ
 have hb:¬(j:Int)<sl.n:=by simpa using hb
 have hjw:j=(eU M (rows.map ai)).length:=by omega
 subst hjw;rw [iB] at vm;have Nn:=xr.tr iK;refine ⟨_,(viewS Nn).1,(viewS Nn).2.mono ?_⟩;rintro e my ⟨rfl,ast⟩;subst ast;refine ⟨_,rfl,rfl,(DH (h0.ext Nn).tl rfl vm (by rw [aM];exact hwl) (DI hL aa) aa aa).mono ?_⟩;rintro e qo ⟨s69,rfl,aa3,nt,bk,SS⟩;rw [aM] at SS;replace aa3:aC my yQ 9 qo s69 ((pS M (rows.map ai)).map jo):=aa3;replace SS:(pS M (rows.map ai)).length=(eU M (rows.map ai)).length:=SS;replace bk:∀b ∈ pS M (rows.map ai),okB (n+16777216+16*16*12582912) b:=bk;have z68:=nt.size;have s69k:∀b,s69.aY=some b->my.heap.size<=b/\b<qo.heap.size:=λb hb=>aa3.own.lt hb
 have asu:s69.n=(eU M (rows.map ai)).length:=by rw [(aa3.rd (show 0<9 by decide)).n,aM,SS]
 have aa4:=Nn.tr nt;have hmw:=hm.lt;refine ⟨s69,rfl,nt.heap aa,λn x jK=>∃j:Nat,x=j/\j+n=(eU M (rows.map ai)).length/\Row jK b ((Eu M rows j).map jr).flatten AS/\Mod (λi=>i=b) qo jK,⟨(eU M (rows.map ai)).length,rfl,0,rfl,by omega,hr.ext aa4,Mod.refl _ _⟩,?_⟩;rintro n3 us3 x jK ⟨j,rfl,hj,ahZ,m74⟩;have z74:=m74.size;have zz:=aa4.size;have hlu:(Eu M rows j).length=16:=(HR _ _).trans vk;have wbox:jK.heap[w.heap.size]? =qo.heap[w.heap.size]? :=m74.same _ aa aa;have last:j=(eU M (rows.map ai)).length->∃p88:Option Addr,Vc.ld jK (ae (some ⟨m,0,none⟩) 1)=some (.pointer p88)/\
   ah 118 #[p88,.func (.func 120) #[] #[w]] jK λe kN=>e=sY/\
    ∃p90:Option Addr,Vc.ld kN (some ⟨w.heap.size,0,none⟩)=some (.pointer p90)/\aP (dB p90) (aP (dB p90) (∃p91:Option Addr,Vc.ld kN (ae p90 1)=some (.pointer p91)/\
     ah 119 #[p91] kN λe WJ=>∃sJ:Int,e=sJ/\Ending.returned sJ=Value.int .i64 (sX M).length/\kB F w m s o t (sW M (rows.map ai)).1 (agd w) (oI M rows) WJ)):=by
  intro hjw;subst hjw;have hup:Eu M rows (eU M (rows.map ai)).length=oI M rows:=by unfold Eu oI;rw [fB (by rw [List.length_zip,SS];omega)]
  rw [hup] at ahZ hlu;obtain ⟨F74,h74,t74⟩:=bo ((Mod.aD aa4).trans m74) ahZ hlu;have al9:¬F74 w:=λq=>by
   rcases t74.sub _ q with q|q
   ·exact hwF q
   ·omega
  have hr74b:Row jK w [m] τ:=(r0.ext aa4).same wbox;obtain ⟨Fs,hs,jq,-,-,hresS⟩:=h74.sV;refine ⟨_,jq,(xJ hs (.func 120) #[] #[w]).mono ?_⟩;rintro e kN ⟨rfl,asw,-⟩;refine ⟨rfl,?_⟩;obtain ⟨F89,h89,t89⟩:=hresS asw;have asx:¬F89 w:=λq=>by
   rcases t89.sub _ q with q|q
   ·exact al9 q
   ·omega
  have hr89b:=t89.mod.row hr74b al9;have asy:rL (n+3300000000) ((oI M rows).map ai):=by rw [mI];exact Cs _ (hL.up aa) λx hx=>(bk x.2 (List.of_mem_zip hx).2).up aa
  obtain ⟨Fs2,yY,hO,hld2,hres2⟩:=mOc h89 asy hr89b asx;rw [mI] at hO;refine ⟨_,by rw [hr89b.ld];rfl,gr rfl (gr rfl ⟨_,hld2,(Hm yY hO hd hk ahn).mono ?_⟩)⟩;rintro e WJ ⟨rfl,asz⟩;obtain ⟨F92,h92,t92⟩:=hres2 asz;exact ⟨_,rfl,rfl,F92,h92,(aN.aD x0).trans (t74.trans (t89.trans t92))⟩
 apply Br.mk<;>intro hb
 ·have hb:(j:Int)<sl.n:=by simpa using hb
  refine yes (by rw [asu,<-tU];simpa using hb) ?_;obtain ⟨i,hi⟩:=bH (l:=eU M (rows.map ai)) (i:=j) aa;obtain ⟨x,hx⟩:=bH (l:=pS M (rows.map ai)) (i:=j) aa;obtain ⟨r,sO,Fk,uP⟩:=atk i (aZ hi);have xd:=Ext.dr jK;have zd:=lv jK;have hrd69:=((m74.fm aa3 λg hg q=>by have:=s69k g hg;omega).ext xd).rd (show 0<9 by decide);have hrx:((pS M (rows.map ai)).map jo)[j]? =some (jo x):=by rw [aS,hx];rfl
  have Fj:=((m74.fm ((ho.ext iK).ext nt) λg hg q=>by have:=slk g hg;omega).ext xd).rd (show 0<1 by decide);have hri2:((eU M (rows.map ai)).map num)[j]? =some [.int .i64 (i:Int)]:=by rw [aS,hi];rfl
  have JS:=Fj.at hri2 (j:=0) (v:=.int .i64 (i:Int)) rfl;rw [de] at JS;have asA:=(((hm.ext aa4).same (m74.same _ aa hmb)).ext xd);obtain ⟨p0,p1,pb,p2⟩:=acP hlu (ahZ.ext xd) Fk x;refine ⟨⟨some ⟨b,0,none⟩,16,16⟩,asA.at 2 rfl,Fj.gR aE aa aa,_,JS,hrd69.gR aE aa aa,_,_,_,_,_,_,_,_,_,hrd69.bY hrx,inb i Fk,gr rfl ⟨⟨p0,p1⟩,by rw [pb];intro q;injection q with q;omega,λsI e87=> ?_⟩⟩;obtain ⟨q1,q2⟩:=p2 sI e87;have wk:=mh (j:=j);refine ⟨n3-1,by omega,rfl,j+1,wk,by omega,?_,m74.trans ((Mod.aD xd).trans q2)⟩;rw [Qo hi hx];exact q1
 ·have hb:¬(j:Int)<sl.n:=by simpa using hb
  exact last aa
end
abbrev tXr:TypeId:=164
abbrev tWt:TypeId:=166
def xAt (L:List (Option ez)) (i:Nat):Xr:=((i:Int),match bV L i with|some y=>y.1|none=>uW)
def qt (L:List (Option ez)) (k:Nat):List Xr:=((List.range k).filter λi=>(bV L (i:Nat)).isSome).map (xAt L)
theorem H7 (L:List (Option ez)):(qt L 16).length=(cn L).length:=by unfold qt cn;rw [aM,aM]
theorem GS (M:Sm) (L:List (Option ez)):DB M.now (qt L 16) M.q.l=me M L:=by
 unfold DB me;rw [H7];have:((qt L 16).map λx=>gj x.1 x.2).flatten=ft L (cn L):=by
  unfold ft qt cn;rw [List.map_map,List.map_map];congr 1;refine List.map_congr_left λi hi=> ?_
  have h2:=(List.mem_filter.1 hi).2;obtain ⟨y,hy⟩:=nv.1 h2;show gj (xAt L i).1 (xAt L i).2=A1 L (i:Int);unfold xAt A1;rw [hy]
 rw [this]
theorem afC (x:Xr):One (XK x):=by
 intro u hu;rcases cH.1 hu with rfl|hu
 ·rfl
 ·exact vF x.2 u hu
section
variable {F F':Nat->Prop} {w w':World} {m s o t:Nat} {M M':Sm} {occ:Value} {rows:List jd}
set_option maxHeartbeats 4000000 in
theorem wW (h:MF F w m s o t M occ rows):ah 62 #[m] w λe w'=>∃sx sw:Sl,e=Value.agg #[M.now,sx,sw]/\RdK w' sx 10 ((qt (rows.map ai) 16).map XK)/\RdK w' sw 4 (M.q.l.map fE)/\Ext w w':=by
 apply vA.vc;intro w0 e0;have x0:=aL e0;have z0:=zA e0;have h0:=h.ext x0;obtain ⟨Fs,hs,jq,-⟩:=h0.sV;obtain ⟨b,hm,hr,vk,-⟩:=h0.CL;have ldm:∀{u:World},Ext w0 u->Vc.ld u (ae (some ⟨m,0,none⟩) 2)=some (.slice (some ⟨b,0,none⟩) 16 16):=λxu=>(hm.ext xu).at 2 rfl
 have rk:∀{u:World},Ext w0 u->RdK u ⟨some ⟨b,0,none⟩,16,16⟩ 13 (rows.map jr):=λxu=>qv (hr.ext xu) vk
 have inb:∀k:Nat,k<16->ee (some ⟨b,0,none⟩) (k:Int) 16:=λk hk=>(rk (Ext.cQ _)).gR (i:=(k:Int)) aE aa (by show (k:Int)<((16:Nat):Int);omega)
 refine ⟨_,jq,(uk hs).mono ?_⟩;rintro e w2 ⟨rfl,AA⟩;subst AA;refine ⟨_,rfl,rfl,λw4 e4 w5 e5=> ?_⟩;have x5:Ext w2 w5:=(aL e4).af e5 (aB _);have z5:w5.heap.size=w2.heap.size+1:=by rw [zR e5,zA e4]
 refine ⟨λn x now s1 s2 wr=>∃k:Nat,x=k/\k+n=16/\now=M.now/\s2=⟨none,0,0⟩/\aC w5 tXr 10 wr s1 ((qt (rows.map ai) k).map XK)/\Ext w2 wr/\w5.heap.size<=wr,⟨16,rfl,0,rfl,rfl,rfl,rfl,aC.nil,x5,aB _⟩,?_⟩;rintro n us x now s1 s2 bF ⟨k,rfl,hk,rfl,rfl,ho,cc,z13⟩;apply Br.mk<;>intro hq
 ·have hq:(k:Int)<16:=by simpa using hq
  obtain ⟨r,J1⟩:=bH (l:=rows) (i:=k) aa;have hi:(rows.map jr)[k]? =some (jr r):=by rw [aS,J1];rfl
  have uP:=j8 (rows:=rows) (n:=k) rfl J1;have wk:=mh (j:=k);have xd:=Ext.dr bF;have zd:=lv bF;refine ⟨⟨some ⟨b,0,none⟩,16,16⟩,ldm cc,inb k aa,gr rfl ⟨r.1,(rk cc).at hi (Wv r),Br.mk (λhb=> ?_) (λhb=> ?_)⟩⟩
  ·have EP:ai r=some r.2:=by unfold ai;rw [if_pos hb]
   rw [EP] at uP;have xx:=cc.tr xd;refine ⟨⟨some ⟨b,0,none⟩,16,16⟩,ldm xx,inb k aa,gr rfl ⟨_,_,_,_,_,_,_,_,_,iP (rk xx) hi (mlB r),λeo e27=> ?_⟩⟩;have fw:=aL e27;have dG:s1.n<=16:=by have h1:=(ho.rd (show 0<10 by decide)).n;rw [aM] at h1;unfold qt at h1;rw [aM] at h1;have h2:=List.length_filter_le (λi:Nat=>(bV (rows.map ai) (i:Nat)).isSome) (List.range k);rw [A2] at h2;omega
   have eN:∀g,s1.aY=some g->w5.heap.size<=g/\g<bF.heap.size:=λg hg=>ho.own.lt hg
   have z27:=zA e27;subst e27;obtain ⟨B8,hres8⟩:=(ho.ext xd).iN (bytes:=80) (news:=XK ((k:Int),r.2.1)) (.cells (XK ((k:Int),r.2.1)).toArray tXr) aa rfl (afC _) aa aa;refine ⟨B8,λNI dH apQ=> ?_⟩;obtain ⟨f8,wQ,hn8,x8,ER,-⟩:=hres8 NI dH apQ;have x8':Ext w2 dH:=Below.trans (cc.tr xd) (Below.mono x8 aa);have z29:=x8.size;have c9:∀j,j<w5.heap.size->dH.heap[j]? =(bF.drew.alloc (.cells (XK ((k:Int),r.2.1)).toArray tXr)).heap[j]? :=λj hj=>(ER j (λq=>by have:=eN _ q;omega) aa).trans (fw.heap aa).symm
   refine ⟨c9 _ aa,c9 _ aa,f8,JZ (ldm x8'),λeY J0=> ?_⟩;have z30:=zR J0;have k30:∀j,j≠w2.heap.size->eY.heap[j]? =dH.heap[j]? :=λj hj=>by rw [J0];exact setRow_other _ _ _ _ hj
   refine ⟨n-1,by omega,rfl,k+1,wk,by omega,rfl,rfl,?_,x8'.af J0 (aB _),by omega⟩;have e1:qt (rows.map ai) (k+1)=qt (rows.map ai) k++ [((k:Int),r.2.1)]:=by unfold qt;rw [List.range_succ,mA,bZ,List.filter_cons_of_pos (by rw [uP];rfl)];show _++ [xAt _ k]=_;unfold xAt;rw [uP]
   rw [e1,bZ];refine aC.c9 wQ λg hg=>k30 g λq=> ?_
   have:=(wQ.own.lt hg).1;omega
  ·have hb:r.1=false:=by simpa using hb
   have EP:ai r=none:=by unfold ai;rw [if_neg (by rw [hb];decide)]
   rw [EP] at uP;refine ⟨n-1,by omega,rfl,k+1,wk,by omega,rfl,rfl,?_,cc,z13⟩;have e1:qt (rows.map ai) (k+1)=qt (rows.map ai) k:=by unfold qt;rw [List.range_succ,mA,List.filter_cons_of_neg (by rw [uP];decide)];simp
   rw [e1];exact ho
 have hq:¬(k:Int)<16:=by simpa using hq
 have:k=16:=by omega
 subst this;obtain ⟨aw3,akL,hld13,-⟩:=(h0.ext cc).sV;refine ⟨_,hld13,(u9 akL).mono ?_⟩;rintro e j6 ⟨J5,rfl,akM,gQ⟩;have z32:=gQ.size;have hrd33:=akM.rd (show 0<4 by decide);have aw4:J5.n=M.q.l.length:=by rw [hrd33.n,aM]
 have akN:∀g,J5.aY=some g->bF.heap.size<=g/\g<j6.heap.size:=λg hg=>akM.own.lt hg
 obtain ⟨gq,mq,qs,-,qe,-⟩:=akL.queue;have hql:M.q.l.length<=4096:=by have:=qe.len;have:=qe.room;omega
 have GO:=ho.ext gQ;have eN:∀g,s1.aY=some g->w5.heap.size<=g/\g<bF.heap.size:=λg hg=>ho.own.lt hg
 have hxs:((qt (rows.map ai) 16).map XK).length<=16:=by rw [aM,H7];exact sU _
 refine ⟨J5,rfl,gQ.heap aa,gQ.heap aa,λn x now s1' s2 wr=>∃k:Nat,x=k/\k+n=M.q.l.length/\now=M.now/\s1=s1'/\aC j6 tWt 4 wr s2 ((M.q.l.take k).map fE)/\Mod (λi=>i=w2.heap.size\/j6.heap.size<=i) j6 wr,⟨M.q.l.length,rfl,0,rfl,by omega,rfl,rfl,aC.nil,Mod.refl _ _⟩,?_⟩;rintro n2 wM x now s1' s2 jm ⟨k,rfl,EO,rfl,rfl,vm,m41⟩;have z41:=m41.size;have kq:Ext w2 jm:=m41.ext (cc.tr gQ) λi hi=>by omega
 apply Br.mk<;>intro hq
 ·have hq:(k:Int)<J5.n:=by simpa using hq
  obtain ⟨it,WM⟩:=bH (l:=M.q.l) (i:=k) aa;have cN:(M.q.l.map fE)[k]? =some (fE it):=by rw [aS,WM];rfl
  have xd:=Ext.dr jm;have zd:=lv jm;have ic:RdK jm.drew J5 4 (M.q.l.map fE):=(hrd33.same λg hg=>m41.same g (akN g hg).2 λq=>by have:=akN g hg;omega).ext xd;have mW:ee J5.a (k:Int) J5.n:=ic.gR aE aa hq;refine ⟨mW,bA.2 ⟨g9.2 (by rw [fL];exact mW.1),_,ic.at cN (j:=0) (v:=.int .i64 it.1) rfl,mW,bA.2 ⟨g9.2 (by rw [fL];exact mW.1),_,_,_,iP ic cN (off:=1) (vs:=[.int .i64 it.2.1,.int .i64 it.2.2.1,.int .i64 it.2.2.2]) (λj _=>by rw [Nat.add_comm,A3]),λjQ e47=> ?_⟩⟩⟩;have rV:=aL e47;have z47:=zA e47;have yY:∀g,s2.aY=some g->j6.heap.size<=g/\g<jm.heap.size:=λg hg=>vm.own.lt hg
  have dG:s2.n<=4096:=by have h1:=(vm.rd (show 0<4 by decide)).n;rw [aM,dC] at h1;omega
  subst e47;obtain ⟨B8,hres8⟩:=(vm.ext xd).iN (bytes:=32) (news:=fE it) (.cells (fE it).toArray tWt) aa rfl (Q.qE it) aa aa;refine ⟨B8,λQM kv apS=> ?_⟩;obtain ⟨f8,wQ,hn8,x8,ER,-⟩:=hres8 QM kv apS;have z49:=x8.size;have c9:∀j,j<j6.heap.size->kv.heap[j]? =(jm.drew.alloc (.cells (fE it).toArray tWt)).heap[j]? :=λj hj=>(ER j (λq=>by have:=yY _ q;omega) aa).trans (rV.heap aa).symm
  refine ⟨c9 _ aa,c9 _ aa,f8,λkM e50=> ?_⟩;have k50:∀j,j≠w2.heap.size->kM.heap[j]? =kv.heap[j]? :=λj hj=>by rw [e50];exact setRow_other _ _ _ _ hj
  have mr:=oR e50;refine ⟨n2-1,by omega,rfl,k+1,by rw [wI];omega,by omega,rfl,rfl,?_,m41.trans ((Mod.aD xd).trans (Mod.trans ⟨x8.os,x8.tape,x8.output,z49,λi hi hn=>x8.block i aa⟩ (mr.mono λi _ hi=> .inl hi)))⟩;rw [dE,WM,bZ];refine aC.c9 wQ λg hg=>k50 g λq=> ?_
  have:=(wQ.own.lt hg).1;omega
 ·have hq:¬(k:Int)<J5.n:=by simpa using hq
  have hk':k=M.q.l.length:=by omega
  subst hk';rw [iB] at vm;intro wR e51;have z51:=zR e51;have k51:∀j,j≠w.heap.size->wR.heap[j]? =jm.heap[j]? :=λj hj=>by rw [e51];exact setRow_other _ _ _ _ hj
  refine ⟨s1,s2,rfl,?_,?_,(x0.tr kq).af e51 (aB _)⟩
  ·refine ((GO.rd aE).same λg hg=>m41.same g ?_ λq=> ?_).same λg hg=>k51 g λq=> ?_
   ·have:=eN g hg;omega
   ·have:=eN g hg;omega
   ·have:=eN g hg;omega
  ·refine (vm.rd aE).same λg hg=>k51 g λq=> ?_
   have:=(vm.own.lt hg).1;omega
end
set_option maxHeartbeats 8000000
set_option linter.unusedVariables false
variable {R:Ending->World->Prop} {w:World} {a0 a1 a2 a3 a4 a5 a6 a7 a8 a9 aA aq au aT aU aX bN bI bJ EU ak ao aw bw bR bP eZ fa eL EV br bG bq yC yD wC wD yE yF yG EW EX EY EZ E0 E1 E2 E3 E4 E5:Int}
theorem N9.vc {a0:Addr} {a1:Addr} {aa5:Int} {se:Int} {sh:Int} {si:Int} {S0:Int} {S1:Int} {S2:Bool} (h:
 ∀w0,w0=w.alloc (.cells #[br,bG,bq,yC,yD,wC,wD,yE,yF,yG,aa5,se,sh,si,S0,S1,S2] 45)->
 ah 10 #[bG,(4:Int)] w0 (Ri λx2 w1=>Kp w w0 w1/\
 ah 51 #[.agg #[yC,yD]] w1 (Ra2 λx4 x5 w3=>Kp w w1 w3/\
 ∀w6,w6=w3.alloc (.cells #[ab,ab] 40)->
 ∀w7,w7=w6.setRow w3 #[x4,x5]->
 ∃(p8:Option Addr),ld w7 (ae (some a0) 0)=some (.pointer p8)/\
 ah 18 #[p8] w7 (λe w9=>∃(H4:Option Addr),e=H4/\K2 w w3 w7 w9 (
 ah 19 #[H4] w9 (λe aW=>∃(ow:Option Addr),e=ow/\K2 w w3 w9 aW (
 ∃(Ng:Option Addr),ld aW (ae (some a1) 0)=some (.pointer Ng)/\
 ah 19 #[Ng] aW (λe bK=>∃(Rf:Option Addr),e=Rf/\K2 w w3 aW bK (
 Br (ow).isNone
 (R false bK)
 (Br (Rf).isNone
 (R false bK)
 (Br (br==0)
 (ah 20 #[ow,.agg #[x4,x5]] bK.drew (Ri λcT cB=>K2 w w3 bK.drew cB (
 ag cB (some ⟨w3,0,none⟩) 0 [x4,x5]/\ah 20 #[Rf,.agg #[x4,x5]] cB (Ri λcr dA=>K2 w w3 cB dA (
 R (Value.bool (cT==cr)) dA)))))
 (Br (br==1)
 (ah 21 #[ow,.agg #[x4,x5]] bK.drew (Ri λdm fh=>K2 w w3 bK.drew fh (
 ag fh (some ⟨w3,0,none⟩) 0 [x4,x5]/\ah 21 #[Rf,.agg #[x4,x5]] fh (Ri λdz cL=>K2 w w3 fh cL (
 R (Value.bool (dm==dz)) cL)))))
 (Br (br==2)
 (ah 22 #[ow] bK (λe fH=>∃(dQ fk:Int),e=Value.tuple #[dQ,fk]/\K2 w w3 bK fH (
 ah 22 #[Rf] fH (λe eo=>∃(gy fI:Int),e=Value.tuple #[gy,fI]/\K2 w w3 fH eo (
 Br (dQ==gy)
 (R (Value.bool (fk==fI)) eo)
 (R false eo))))))
 (Br (br==3)
 (ah 52 #[.agg #[yF,yG,aa5]] bK (iM λgI gQ ey eY=>K2 w w3 bK eY (
 ∀iL,iL=eY.alloc (.cells #[ab,ab,ab] 28)->
 ∀ie,ie=iL.setRow eY #[gI,gQ,ey]->
 ah 10 #[wC,(60000:Int)] ie (Ri λgu jl=>K3 w w3 eY ie jl (
 ah 10 #[wD,(120000:Int)] jl (Ri λmG mX=>K3 w w3 eY jl mX (
 ah 11 #[a0,.agg #[gI,gQ,ey],gu,mG] mX (λe ik=>∃(kq lZ:Int),e=Value.tuple #[kq,lZ]/\K3 w w3 eY mX ik (
 ah 53 #[a1,.agg #[gI,gQ,ey],gu,mG] ik (λe il=>∃(kD pk:Int),e=Value.tuple #[kD,pk]/\K3 w w3 eY ik il (
 Br (kq==kD)
 (R (Value.bool (lZ==pk)) il)
 (R false il))))))))))))
 (Br (br==4)
 (ah 54 #[a0,x2,.agg #[S0,S1,S2]] bK (Ri λrV m7=>K2 w w3 bK m7 (
 ∃(QM:Sl),ld m7 (ae (some a1) 2)=some (.slice QM.a QM.n QM.c)/\
 ee QM.a x2 QM.n/\aP (dB (ae QM.a ((x2:Int).toNat*13))) (∃(b49:Bool),ld m7 (ae (ae QM.a ((x2:Int).toNat*13)) 0)=some (.bool b49)/\
 Br b49
 (∃(s50:Sl),ld m7.drew (ae (some a1) 2)=some (.slice s50.a s50.n s50.c)/\
 ee s50.a x2 s50.n/\aP (dB (ae s50.a ((x2:Int).toNat*13))) ((((ae (ae s50.a ((x2:Int).toNat*13)) 10)).isSome=true/\Wr m7.drew (ae (ae s50.a ((x2:Int).toNat*13)) 10) 3)/\bC (ae (ae s50.a ((x2:Int).toNat*13)) 10)≠some w.heap.size/\bC (ae (ae s50.a ((x2:Int).toNat*13)) 10)≠some w3.heap.size/\(∀wR,wR=aG m7.drew (ae (ae s50.a ((x2:Int).toNat*13)) 10) [S0,S1,S2]->
 ∃(s52:Sl),ld wR (ae (some a1) 2)=some (.slice s52.a s52.n s52.c)/\
 ee s52.a x2 s52.n/\aP (dB (ae s52.a ((x2:Int).toNat*13))) (∃(b53:Bool),ld wR (ae (ae s52.a ((x2:Int).toNat*13)) 0)=some (.bool b53)/\
 Br ((rV==0)==b53)
 (Br (rV==0)
 (R true wR)
 (R (Value.bool (rV==6)) wR))
 (R false wR)))))
 (∃(CD:Sl),ld m7 (ae (some a1) 2)=some (.slice CD.a CD.n CD.c)/\
 ee CD.a x2 CD.n/\aP (dB (ae CD.a ((x2:Int).toNat*13))) (∃(b55:Bool),ld m7 (ae (ae CD.a ((x2:Int).toNat*13)) 0)=some (.bool b55)/\
 Br ((rV==0)==b55)
 (Br (rV==0)
 (R true m7)
 (R (Value.bool (rV==6)) m7))
 (R false m7)))))))
 (Br (br==5)
 (ah 56 #[bq] bK.drew (Ri λl6 ov=>K2 w w3 bK.drew ov (
 ag ov (some ⟨w,2,none⟩) 0 [bq]/\ag ov (some ⟨w,11,none⟩) 0 [se,sh,si]/\ag ov (some ⟨w,11,none⟩) 0 [se,sh,si]/\ah 55 #[a0,x2,.agg #[se,sh,si],l6] ov (Ri λlf jZ=>K2 w w3 ov jZ (
 ag jZ (some ⟨w,2,none⟩) 0 [bq]/\ag jZ (some ⟨w,11,none⟩) 0 [se,sh,si]/\ah 56 #[bq] jZ (Ri λoq kC=>K2 w w3 jZ kC (
 ag kC (some ⟨w,11,none⟩) 0 [se,sh,si]/\ah 57 #[a1,x2,.agg #[se,sh,si],oq] kC (Ri λsb gL=>K2 w w3 kC gL (
 R (Value.bool (lf==sb)) gL)))))))))
 (Br (br==6)
 (ah 33 #[a0,x2,.agg #[se,sh,si]] bK (λe oX=>∃(qp lh:Int),e=Value.tuple #[qp,lh]/\K2 w w3 bK oX (
 ah 58 #[a1,x2,.agg #[se,sh,si]] oX (λe jY=>∃(nt pz:Int),e=Value.tuple #[nt,pz]/\K2 w w3 oX jY (
 Br (qp==nt)
 (R (Value.bool (lh==pz)) jY)
 (R false jY))))))
 (Br (br==7)
 (ah 28 #[.agg #[wC,wD,yE]] bK (iM λm8 nc mH kx=>K2 w w3 bK kx (
 ∀jK,jK=kx.alloc (.cells #[ab,ab,ab] 41)->
 ∀pn,pn=jK.setRow kx #[m8,nc,mH]->
 ah 56 #[bq] pn.drew (Ri λFC iq=>K3 w w3 kx pn.drew iq (
 ag iq (some ⟨w,2,none⟩) 0 [bq]/\ag iq (some ⟨kx,0,none⟩) 0 [m8,nc,mH]/\ag iq (some ⟨kx,0,none⟩) 0 [m8,nc,mH]/\ah 59 #[a0,.agg #[m8,nc,mH],FC] iq (Ri λwF lX=>K3 w w3 kx iq lX (
 ag lX (some ⟨w,2,none⟩) 0 [bq]/\ag lX (some ⟨kx,0,none⟩) 0 [m8,nc,mH]/\ah 56 #[bq] lX (Ri λuA r6=>K3 w w3 kx lX r6 (
 ag r6 (some ⟨kx,0,none⟩) 0 [m8,nc,mH]/\ah 60 #[a1,.agg #[m8,nc,mH],uA] r6 (Ri λuT w82=>K3 w w3 kx r6 w82 (
 R (Value.bool (wF==uT)) w82)))))))))))
 (Br (br==8)
 (ah 13 #[a0,x2] bK (Ri λAy Gw=>K2 w w3 bK Gw (
 ∃(s86:Sl),ld Gw (ae (some a1) 2)=some (.slice s86.a s86.n s86.c)/\
 ee s86.a x2 s86.n/\aP (dB (ae s86.a ((x2:Int).toNat*13))) (∃(b87:Bool),ld Gw (ae (ae s86.a ((x2:Int).toNat*13)) 0)=some (.bool b87)/\
 ∃(WW:Sl),ld Gw (ae (some a1) 2)=some (.slice WW.a WW.n WW.c)/\
 ee WW.a x2 WW.n/\(((ae WW.a ((x2:Int).toNat*13))).isSome=true/\Wr Gw (ae WW.a ((x2:Int).toNat*13)) 13)/\bC (ae WW.a ((x2:Int).toNat*13))≠some w.heap.size/\bC (ae WW.a ((x2:Int).toNat*13))≠some w3.heap.size/\(∀kN,kN=aG Gw (ae WW.a ((x2:Int).toNat*13)) [.bool false,ab,ab,ab,ab,ab,ab,ab,ab,false,ab,ab,false]->
 Br ((Ay==0)==b87)
 (Br (Ay==0)
 (R true kN)
 (R (Value.bool (Ay==6)) kN))
 (R false kN))))))
 (Br (br==9)
 (ah 35 #[a0] bK (Ri λFf nu=>K2 w w3 bK nu (
 ah 62 #[a1] nu (λe WJ=>∃(sJ:Int) (s94 s95:Sl),e=Value.agg #[sJ,s94,s95]/\K2 w w3 nu WJ (
 ah 34 #[.agg #[sJ,s94,s95]] WJ (Rs λs97 w96=>K2 w w3 WJ w96 (
 ah 61 #[Rf,s97] w96 (Ri λH0 VW=>K2 w w3 w96 VW (
 R (Value.bool (Ff==H0)) VW)))))))))
 (Br (br==10)
 (ah 32 #[a0,x2,.agg #[se,sh,si]] bK (λe po=>∃(pq tY yK tZ sL qk ql:Int),e=Value.tuple #[.agg #[pq,tY,yK,tZ,sL,qk],ql]/\K2 w w3 bK po (
 ∀Gy,Gy=po.alloc (.cells #[ab,ab,ab,ab,ab,ab] 77)->
 ∀AB,AB=Gy.setRow po #[pq,tY,yK,tZ,sL,qk]->
 ah 63 #[a1,x2,.agg #[se,sh,si]] AB (λe Fe=>∃(qm jn yL Cf Wc V8 aas:Int),e=Value.tuple #[.agg #[qm,jn,yL,Cf,Wc,V8],aas]/\K3 w w3 po AB Fe (
 ∀yM,yM=Fe.alloc (.cells #[ab,ab,ab,ab,ab,ab] 77)->
 ∀rA,rA=yM.setRow Fe #[qm,jn,yL,Cf,Wc,V8]->
 Br (ql==aas)
 (Br ((pq==qm) &&((tY==jn) &&(yK==yL)))
 (Br (tZ==Cf)
 (Br (sL==Wc)
 (R (Value.bool (qk==V8)) rA)
 (R false rA))
 (R false rA))
 (R false rA))
 (R false rA))))))
 (ah 64 #[a0] bK (Ri λQ5 AF=>K2 w w3 bK AF (
 ah 65 #[a1] AF (Ri λGz M7=>K2 w w3 AF M7 (
 R (Value.bool (Q5==Gz)) M7)))))))))))))))))))))))))):ah 15 #[a0,a1,.agg #[br,bG,bq,yC,yD,wC,wD,yE,yF,yG,aa5,se,sh,si,S0,S1,S2]] w R:=
 cq bT Tryz.func15 h
theorem Qx.vc {a0:Addr} {a1:Addr} (h:
 ∀w0,w0=w.alloc (.cells #[br,bG,bq] 41)->
 ah 12 #[a0] w0 (Rs λs2 w1=>Kp w w0 w1/\
 ∃I3:Nat->Int->Int->World->Prop,
 (∃n4,aO [br,bG,bq]/\I3 n4 ((-1)) (0) w1)/\
 ∀(n4:Nat) (us5:Nat->Value) (x6 x7:Int) (w8:World),I3 n4 x6 x7 w8->
 Br (x6<17)
 (ah 29 #[a0,x6] w8 (λe bD=>∃(bz bU cc bW cm cp cT cg:Int) (Nx QO:Bool),e=Value.tuple #[.agg #[bz,bU,cc,bW,cm,cp,cT,cg,Nx],QO]/\Kp w w8 bD/\
 ∀ed,ed=bD.alloc (.cells #[ab,ab,ab,ab,ab,ab,ab,ab,false] 70)->
 ∀cL,cL=ed.setRow bD #[bz,bU,cc,bW,cm,cp,cT,cg,Nx]->
 Br (x6>=0)
 (Br (x6<16)
 (∃(MT:Sl),ld cL (ae (some a1) 2)=some (.slice MT.a MT.n MT.c)/\
 ee MT.a x6 MT.n/\aP (dB (ae MT.a ((x6:Int).toNat*13))) (∃(Sw:Bool),ld cL (ae (ae MT.a ((x6:Int).toNat*13)) 0)=some (.bool Sw)/\
 Br (!(QO==Sw))
 (R false cL)
 (Br (!QO)
 (∃n9,n9<n4/\aO [br,bG,bq]/\I3 n9 ((aj (x6+1))) x7 cL)
 (∃(WV:Sl),ld cL.drew (ae (some a1) 2)=some (.slice WV.a WV.n WV.c)/\
 ee WV.a x6 WV.n/\aP (dB (ae WV.a ((x6:Int).toNat*13))) (∃(fk fw gy fI iK gI gQ ey:Int) (JC:Bool),ag cL.drew (ae (ae WV.a ((x6:Int).toNat*13)) 1) 0 [fk,fw,gy,fI,iK,gI,gQ,ey,JC]/\
 Br (!(((bz==fk) &&((bU==fw) &&(cc==gy))) &&(((bW==fI) &&((cm==iK) &&(cp==gI))) &&((cT==gQ) &&((cg==ey) &&(Nx==JC))))))
 (R false cL.drew)
 (Br (decide (x7>=((s2.n:Nat):Int)))
 (R false cL.drew)
 (ee s2.a x7 s2.n/\∃(jX:Int),ld cL.drew (ae s2.a ((x7:Int).toNat*1))=some (.int .i64 jX)/\
 Br (jX !=x6)
 (R false cL.drew)
 (∃n9,n9<n4/\aO [br,bG,bq]/\I3 n9 ((aj (x6+1))) ((aj (x7+1))) cL.drew))))))))
 (Br (!(QO==(decide (x6<16))))
 (R false cL)
 (Br (!QO)
 (∃n9,n9<n4/\aO [br,bG,bq]/\I3 n9 ((aj (x6+1))) x7 cL)
 (∃(Kd:Sl),ld cL.drew (ae (some a1) 2)=some (.slice Kd.a Kd.n Kd.c)/\
 ee Kd.a x6 Kd.n/\aP (dB (ae Kd.a ((x6:Int).toNat*13))) (∃(gu fX mG lW kq lZ pj kD:Int) (HZ:Bool),ag cL.drew (ae (ae Kd.a ((x6:Int).toNat*13)) 1) 0 [gu,fX,mG,lW,kq,lZ,pj,kD,HZ]/\
 Br (!(((bz==gu) &&((bU==fX) &&(cc==mG))) &&(((bW==lW) &&((cm==kq) &&(cp==lZ))) &&((cT==pj) &&((cg==kD) &&(Nx==HZ))))))
 (R false cL.drew)
 (Br (decide (x7>=((s2.n:Nat):Int)))
 (R false cL.drew)
 (ee s2.a x7 s2.n/\∃(gM:Int),ld cL.drew (ae s2.a ((x7:Int).toNat*1))=some (.int .i64 gM)/\
 Br (gM !=x6)
 (R false cL.drew)
 (∃n9,n9<n4/\aO [br,bG,bq]/\I3 n9 ((aj (x6+1))) ((aj (x7+1))) cL.drew))))))))
 (Br (!(QO==false))
 (R false cL)
 (Br (!QO)
 (∃n9,n9<n4/\aO [br,bG,bq]/\I3 n9 ((aj (x6+1))) x7 cL)
 (∃(vl:Sl),ld cL.drew (ae (some a1) 2)=some (.slice vl.a vl.n vl.c)/\
 ee vl.a x6 vl.n/\aP (dB (ae vl.a ((x6:Int).toNat*13))) (∃(uS Cc sa lr kE im ou ky:Int) (b56:Bool),ag cL.drew (ae (ae vl.a ((x6:Int).toNat*13)) 1) 0 [uS,Cc,sa,lr,kE,im,ou,ky,b56]/\
 Br (!(((bz==uS) &&((bU==Cc) &&(cc==sa))) &&(((bW==lr) &&((cm==kE) &&(cp==im))) &&((cT==ou) &&((cg==ky) &&(Nx==b56))))))
 (R false cL.drew)
 (Br (decide (x7>=((s2.n:Nat):Int)))
 (R false cL.drew)
 (ee s2.a x7 s2.n/\∃(l6:Int),ld cL.drew (ae s2.a ((x7:Int).toNat*1))=some (.int .i64 l6)/\
 Br (l6 !=x6)
 (R false cL.drew)
 (∃n9,n9<n4/\aO [br,bG,bq]/\I3 n9 ((aj (x6+1))) ((aj (x7+1))) cL.drew)))))))))
 (ah 28 #[.agg #[br,bG,bq]] w8 (iM λlf jc oq jZ=>Kp w w8 jZ/\
 ∀gL,gL=jZ.alloc (.cells #[ab,ab,ab] 41)->
 ∀uz,uz=gL.setRow jZ #[lf,jc,oq]->
 Br (x7==((s2.n:Nat):Int))
 (ah 66 #[a0,.agg #[lf,jc,oq]] uz.drew (Rb λb65 oX=>K2 w jZ uz.drew oX (
 ag oX (some ⟨jZ,0,none⟩) 0 [lf,jc,oq]/\ah 67 #[a1,.agg #[lf,jc,oq]] oX (Rb λb67 my=>K2 w jZ oX my (
 Br (b65==b67)
 (∃(p68:Option Addr),ld my (ae (some a0) 0)=some (.pointer p68)/\
 ∃(p69:Option Addr),ld my (ae (some a1) 0)=some (.pointer p69)/\
 ah 18 #[p68] my (λe kx=>∃(p71:Option Addr),e=p71/\K2 w jZ my kx (
 ag kx (some ⟨jZ,0,none⟩) 0 [lf,jc,oq]/\ag kx (ae (some a1) 0) 0 [.pointer p69]/\ag kx (some ⟨jZ,0,none⟩) 0 [lf,jc,oq]/\ah 27 #[p71] kx (Rv λv73 Ke=>K2 w jZ kx Ke (
 ag Ke (some ⟨jZ,0,none⟩) 0 [lf,jc,oq]/\ag Ke (ae (some a1) 0) 0 [.pointer p69]/\ag Ke (some ⟨jZ,0,none⟩) 0 [lf,jc,oq]/\cw Tryz.prog v73 [.agg #[lf,jc,oq]] Ke (Ri λtX jK=>K2 w jZ Ke jK (
 ag jK (some ⟨jZ,0,none⟩) 0 [lf,jc,oq]/\ag jK (ae (some a1) 0) 0 [.pointer p69]/\ah 27 #[p69] jK (Rv λv77 iq=>K2 w jZ jK iq (
 ag iq (some ⟨jZ,0,none⟩) 0 [lf,jc,oq]/\cw Tryz.prog v77 [.agg #[lf,jc,oq]] iq (Ri λwF lX=>K2 w jZ iq lX (
 Br (tX==wF)
 (∃(p80:Option Addr),ld lX (ae (some a1) 1)=some (.pointer p80)/\
 ah 41 #[a0] lX (λe qq=>∃(p82:Option Addr),e=p82/\K2 w jZ lX qq (
 ag qq (ae (some a1) 1) 0 [.pointer p80]/\ah 68 #[p82] qq (Ri λyI Nw=>K2 w jZ qq Nw (
 ag Nw (ae (some a1) 1) 0 [.pointer p80]/\ah 68 #[p80] Nw (Ri λJ8 JD=>K2 w jZ Nw JD (
 Br (yI==J8)
 (ah 26 #[a0] JD (Rs λWW sI=>K2 w jZ JD sI (
 ah 62 #[a1] sI (λe kN=>∃(Sx:Int) (s91 s92:Sl),e=Value.agg #[Sx,s91,s92]/\K2 w jZ sI kN (
 ah 34 #[.agg #[Sx,s91,s92]] kN (Rs λs94 yT=>K2 w jZ kN yT (
 ah 25 #[WW,s94] yT (Rb λb96 Nz=>K2 w jZ yT Nz (
 R b96 Nz)))))))))
 (R false JD))))))))
 (R false lX))))))))))))
 (R false my))))))
 (R false uz.drew))))):ah 16 #[a0,a1,.agg #[br,bG,bq]] w R:=
 cq ⟨[(4,⟨[(9,.int .i64),(8,.int .i64)],[],[]⟩)],[],[]⟩ Tryz.func16 h
theorem Cx {a b:List Int} (ha:mz a) (hb:mz b):mz (a++b):=λx hx=>(dR.1 hx).elim (ha x) (hb x)
theorem Si (n:Int):mz (BS n):=λx hx=>by
 obtain ⟨q,-,rfl⟩:=bg.1 hx
 exact Yq n q
theorem Ez {α:Type} {f:α->List Int} {l:List α} (h:∀x ∈ l,mz (f x)):mz (l.map f).flatten:=λx hx=>by
 obtain ⟨r,hr,hx⟩:=List.mem_flatten.1 hx
 obtain ⟨y,hy,rfl⟩:=bg.1 hr
 exact h y hy x hx
theorem Mx (l:List Int):mz (lQ l):=Ez λx _=>Si x
theorem acV (n m:Int):mz [n % 256,m % 256]:=λx hx=>by
 simp at hx
 rcases hx with rfl|rfl<;>omega
theorem Ck (M:Sm) (L:List (Option ez)):mz (me M L):=by
 unfold me dD ft uv;refine Cx (Cx (Cx (Si _) λx hx=> ?_) (Ez λx hx=> ?_)) (Cx (acV _ _) (Ez λx _=>Mx _))
 ·simp at hx;omega
 ·obtain ⟨i,rfl,hi,y,hy⟩:=Ms hx;unfold A1 gj;rw [hy];intro z hz;rcases cH.1 hz with rfl|hz
  ·omega
  ·rcases dR.1 hz with hz|hz
   ·exact Mx _ z hz
   ·have:z=stB y.1.gZ:=by simpa using hz
    rw [this];unfold stB;split<;>decide
theorem Rq (M:Sm) (L:List (Option ez)):(me M L).length<=50000:=by have h1:=wg L (cn L);have h2:=sU L;have h3:=Jr (M.q.l.take 2000);rw [dC] at h3;unfold me dD uv;rw [dc,dc,dc,dc,h3,tD];simp only [dv,List.length_nil];omega
section
variable {F F':Nat->Prop} {w w':World} {g s o t m:Nat} {M M':Sm} {occ:Value} {L:List (Option ez)} {rows:List jd}
theorem rG {ch:List Cg} {T:Tb} {ar limit:Int} (h:WF F w o t ar limit T ch) (hW:T.1.l.length<=900000):
  ah 22 #[t] w λe w'=>e=Value.tuple #[.int .i64 (mu T.1 T.2).2.1,.int .i64 (mu T.1 T.2).2.2]/\FL F w o t ar limit (mu T.1 T.2).1 ch w':=by
 obtain ⟨F1,hT,-,bo⟩:=h.table;refine (B4 hT hW).mono ?_;rintro e w' ⟨rfl,hr⟩;exact ⟨rfl,bo hr⟩
theorem AJ {ch:List Cg} {T:Tb} {ar limit:Int} (h:WF F w o t ar limit T ch) (hW:T.1.l.length<=1000000) (sl:Sl) (b:List Int) (hs:gS w sl b) (hb:mz b) (hn:b.length<=1099511627776):
  ah 61 #[t,sl] w λe w'=>e=Value.int .i64 (xh T.1 0 b).2/\FL F w o t ar limit ((xh T.1 0 b).1,T.2) ch w':=by
 obtain ⟨F1,hT,-,bo⟩:=h.table;refine (My hT hW sl b hs hb hn).mono ?_;rintro e w' ⟨rfl,hr⟩;exact ⟨rfl,bo hr⟩
theorem EF.world (h:EF F w g s o t M occ L):∃Fw,WF Fw w o t M.ar M.cap M.T M.ch/\∀{w':World} {T':Tb} {ch':List Go.fV.Cg},FL Fw w o t M.ar M.cap T' ch' w'->jg F w g s o t {M with T:=T',ch:=ch'} occ L w':=by obtain ⟨Fs,hs,-,-,bo⟩:=h.sV;obtain ⟨Fw,hW,-,hresW⟩:=hs.world;exact ⟨Fw,hW,λhr=>bo (hresW hr)⟩
theorem MF.world (h:MF F w m s o t M occ rows):∃Fw,WF Fw w o t M.ar M.cap M.T M.ch/\∀{w':World} {T':Tb} {ch':List Go.fV.Cg},FL Fw w o t M.ar M.cap T' ch' w'->kB F w m s o t {M with T:=T',ch:=ch'} occ rows w':=by obtain ⟨Fs,hs,-,-,-,bo⟩:=h.sV;obtain ⟨Fw,hW,-,hresW⟩:=hs.world;exact ⟨Fw,hW,λhr=>bo (hresW hr)⟩
abbrev W2 (M:Sm) (L:List (Option ez)):Sm:={M with T:=((xh M.T.1 0 (me M L)).1,M.T.2)}
theorem S9 (h:EF F w g s o t M occ L) (hW:M.T.1.l.length<=1000000):ah 35 #[g] w λe w'=>e=Value.int .i64 (xh M.T.1 0 (me M L)).2/\jg F w g s o t (W2 M L) occ L w':=by apply wo.vc;have xd:=Ext.cQ w;have hd:=h;obtain ⟨Fs,hs,jq,-,-⟩:=hd.sV;obtain ⟨Fw,hW0,-,-⟩:=hs.world;refine ⟨_,jq,(gA hs).mono ?_⟩;rintro e w1 ⟨rfl,Rg⟩;subst Rg;refine ⟨_,rfl,(oL hW0).mono ?_⟩;rintro e w2 ⟨rfl,AA⟩;subst AA;refine ⟨_,rfl,(Bj hd).mono ?_⟩;rintro e w3 ⟨sl,rfl,ho,x3⟩;obtain ⟨Fw3,hW3,bo⟩:=(hd.ext x3).world;have hl:=Rq M L;refine ⟨sl,rfl,(AJ hW3 hW sl (me M L) (ho.rd aE) (Ck M L) aa).mono ?_⟩;rintro e w4 ⟨rfl,hr⟩;exact ⟨_,rfl,rfl,jg.aD (xd.tr x3) (bo hr)⟩
end
structure S4 where
 kind:Int
 n:Int
 b:Int
 p:Po
 c:Ce
 aH:Ce
 dS:Ce
 uC:FR
abbrev dL (d:S4):LV:=[.int .i64 d.kind,.int .i64 d.n,.int .i64 d.b,.int .i64 d.p.1,.int .i64 d.p.2,.int .i64 d.c.1,.int .i64 d.c.2.1,.int .i64 d.c.2.2,.int .i64 d.aH.1,.int .i64 d.aH.2.1,.int .i64 d.aH.2.2,.int .i64 d.dS.1,.int .i64 d.dS.2.1,.int .i64 d.dS.2.2,.int .i64 d.uC.1,.int .i64 d.uC.2.1,.bool d.uC.2.2]
abbrev dV (d:S4):Value:=.agg (dL d).toArray
def dIn (d:S4):Prop:=bS d.kind/\bS d.n/\bS d.b/\(bS d.p.1/\bS d.p.2)/\oM d.c/\oM d.aH
def GR (rows:List jd) (i:Int) (uC:FR):List jd:=match rows[i.toNat]? with|some r=>if r.1=true then rows.set i.toNat (r.1,(r.2.1,uC)) else rows|none=>rows
def CN (rows:List jd) (i:Int):List jd:=rows.set i.toNat (false,(uW,(0,0,false)))
abbrev ix (d:S4):Int:=cG d.n 4
abbrev RS (d:S4):ep:=fe (Kg d.aH) (cG d.c.1 60000) (cG d.c.2.1 120000)
def yP (M:Sm) (rows:List jd) (d:S4):Sm × List jd:=
 if d.kind=0 then ({M with T:=(IU M.ar M.cap M.T.1 M.T.2 (yW d.p)).1},rows)
 else if d.kind=1 then ({M with T:=(nT M.T.1 M.T.2 (yW d.p)).1},rows)
 else if d.kind=2 then ({M with T:=(mu M.T.1 M.T.2).1},rows)
 else if d.kind=3 then (M,tf M rows (RS d))
 else if d.kind=4 then (M,GR rows (ix d) d.uC)
 else if d.kind=5 then ((qw M (rows.map ai) (ix d) d.dS (FJ d.b)).2,rows)
 else if d.kind=6 then ((nA M (rows.map ai) (ix d) d.dS).2,rows)
 else if d.kind=7 then ((fP M (rows.map ai) (oH d.c) (FJ d.b)).2,rows)
 else if d.kind=8 then (M,CN rows (ix d))
 else if d.kind=9 then (W2 M (rows.map ai),rows)
 else if d.kind=10 then (M,rows)
 else ((sW M (rows.map ai)).1,oI M rows)
def Lw (b:ep):Prop:=(-1000000<=b.speed.1/\b.speed.1<=1000000)/\-1000000<=b.speed.2.2/\b.speed.2.2<=1000000
def okT (x:gw.It):Prop:=yV x.2/\0<=x.1/\x.1<=2000000000000
structure Jv (k:Nat) (M:Sm) (L:List (Option ez)):Prop where
 b:rL (1200000+3300000000*(k:Int)) L
 s:qu M (3000*k)
 d:M.T.1.l.length<=20*k
 t:∀e ∈ M.T.2,sN e.1
 q:∀x ∈ M.q.l,okT x
 x:∀y,some y ∈ L->Lw y.1
 u:1<=M.da/\M.da<=64
theorem Jv.mono {k n:Nat} {M:Sm} {L:List (Option ez)} (h:Jv k M L) (hk:k<=n):Jv n M L:=⟨h.b.up aa,h.s.mono aa,by have:=h.d;omega,h.t,h.q,h.x,h.u⟩
theorem Se {D:Dk} {l:List En} {i:Nat}:(∀e ∈ l,sN e.1)->∀e ∈(Wz D l i).1.2,sN e.1:=by
 intro h;unfold Wz;split
 ·exact h
 ·rename_i e he;split
  ·exact λx hx=>h x ((List.eraseIdx_sublist ..).subset hx)
  ·intro x hx;rcases kJ hx with hx|rfl
   ·exact h x hx
   ·have h1:(dw D e).2.1.1=e.1:=by unfold dw;split<;>rfl
    rw [h1];exact h e (aZ he)
theorem ajn {D:Dk} {l:List En} {i:Nat}:(Wz D l i).1.2.length<=l.length:=by
 unfold Wz;split
 ·exact aB _
 ·split
  ·exact List.length_eraseIdx_le ..
  ·rw [ir];exact aB _
theorem HO {limit:Int} {D:Dk} {l:List En} (h:∀e ∈ l,sN e.1):∀e ∈(fU limit D l).1.2,sN e.1:=by
 unfold fU;split
 ·exact h
 ·split
  ·exact h
  ·exact Se h
theorem ajb {ar limit:Int} {D:Dk} {l:List En} {p:Po} (h:∀e ∈ l,sN e.1):(∀e ∈(IU ar limit D l p).1.2,sN e.1)/\(IU ar limit D l p).1.1.l.length<=D.l.length+1:=by
 unfold IU;split
 ·exact ⟨h,by simp only;omega⟩
 split
 ·refine ⟨λe he=> ?_,by simp only;omega⟩;rcases dR.1 he with he|he
  ·exact h e ((List.eraseIdx_sublist ..).subset he)
  ·exact h e (aZ (Option.mem_toList.1 he))
 split
 ·exact ⟨HO h,IT _ _ _⟩
 ·refine ⟨λe he=> ?_,IT _ _ _⟩;rename_i hp _ _;rcases dR.1 he with he|he
  ·exact HO h e he
  ·rw [List.mem_singleton.1 he];simpa using hp
theorem aco {D:Dk} {l:List En} {p:Po} (h:∀e ∈ l,sN e.1):(∀e ∈(nT D l p).1.2,sN e.1)/\(nT D l p).1.1.l.length<=D.l.length+1/\(nT D l p).1.2.length<=l.length:=by
 unfold nT;split
 ·split
  ·exact ⟨h,by simp only;omega,aB _⟩
  ·exact ⟨Se h,aed _ _ _,ajn⟩
 ·exact ⟨h,by simp only;omega,aB _⟩
theorem Ya:∀(l:List En) {D:Dk} {pre:List En} {n:Int},(∀e ∈ pre,sN e.1)->(∀e ∈ l,sN e.1)->(∀e ∈(Yi D pre l n).1.2,sN e.1)/\(Yi D pre l n).1.1.l.length<=D.l.length+l.length/\(Yi D pre l n).1.2.length=pre.length+l.length
 | [],D,pre,n,hp,_=>⟨hp,by simp [Yi],by simp [Yi]⟩
 |e::l,D,pre,n,hp,hl=>by
  have h1:(dw D e).2.1.1=e.1:=by unfold dw;split<;>rfl
  have hl1:=IS D e;have he:=hl e bt;unfold Yi;split
  ·obtain ⟨q1,q2,q3⟩:=Ya l (D:=(dw D e).1) (pre:=pre++ [(dw D e).2.1]) (n:=if e.2.2.1=true then n+1 else n) (λx hx=>by
    rcases dR.1 hx with hx|hx
    ·exact hp x hx
    ·rw [List.mem_singleton.1 hx,h1];exact he) λx hx=>hl x (by simp [hx])
   rw [dc,List.length_singleton] at q3;exact ⟨q1,by rw [dv];omega,by rw [dv];omega⟩
  ·refine ⟨λx hx=> ?_,by rw [dv];simp only;omega,by simp⟩;simp only at hx;rcases dR.1 hx with hx|hx
   ·exact hp x hx
   ·rcases cH.1 hx with rfl|hx
    ·rw [h1];exact he
    ·exact hl x (by simp [hx])
theorem Vg {l:List En} {c:Ce} {b:Int} (h:(kA l c b).2=0):KC c/\∃e ∈ l,e.1=pos c:=by
 unfold kA at h;split at h
 ·simp only at h;omega
 rename_i h1;split at h
 ·simp only at h;omega
 rename_i h2;refine ⟨by simpa using h2,?_⟩;rcases fg (λe:En=>e.1==pos c) l with ⟨e,-⟩|⟨k,x,hx,hq,-,-⟩
 ·rw [e] at h1;omega
 ·exact ⟨x,aZ hx,by simpa using hq⟩
theorem acO {l:List En} {c:Ce} {b:Int} (h:∀e ∈ l,sN e.1):∀e ∈(kA l c b).1,sN e.1:=by
 unfold kA;split
 ·exact h
 split
 ·exact h
 split
 ·exact h
 ·intro e he;rcases dR.1 he with he|he
  ·exact h e ((List.eraseIdx_sublist ..).subset he)
  ·obtain ⟨x,hx,rfl⟩:=Option.map_eq_some_iff.1 (Option.mem_toList.1 he);exact h x (aZ hx)
theorem Zc {c:Ce} (h:sN (pos c)) (hy:KC c):(-9000000<=c.1/\c.1<=9000000)/\(0<=c.2.1/\c.2.1<32)/\-9000000<=c.2.2/\c.2.2<=9000000:=by unfold sN pos at h;unfold KC at hy;simp only at h;omega
theorem Sf {q:QS} {c:Ce} {t:Int} {x:gw.It} (h:x ∈(oy q c t).1.l):x ∈ q.l\/x=(t,c):=by
 unfold oy at h;split at h
 ·split at h
  ·exact .inl h
  ·rcases (D5 _ _ _).1 h with h|h
   ·exact .inr h
   ·exact .inl ((Ag q.l c).subset h)
 ·split at h
  ·exact .inl h
  ·rcases (D5 _ _ _).1 h with h|h
   ·exact .inr h
   ·exact .inl h
theorem Sg {V:Ce->Int} {now:Int} {c:Ce}:∀(l:List Ce) {q:QS} {x:gw.It},x ∈(l.foldl (λq n=>(oy q n (now+jj (V n))).1) q).l->x ∈ q.l\/(x.2 ∈ l/\now<=x.1/\x.1<=now+5)
 | [],q,x,h=> .inl h
 |n::l,q,x,h=>by
  rcases Sg (c:=c) l h with h|h
  ·rcases Sf h with h|h
   ·exact .inl h
   ·have:=LB (V n)
    exact .inr (by rw [h];exact ⟨by simp,by simp only;omega,by simp only;omega⟩)
  ·exact .inr ⟨List.mem_cons_of_mem _ h.1,h.2⟩
theorem Vh {V:Ce->Int} {c:Ce} (h:(-9000000<=c.1/\c.1<=9000000)/\(0<=c.2.1/\c.2.1<32)/\-9000000<=c.2.2/\c.2.2<=9000000):∀n ∈ qV V c,yV n:=by intro n hn;have hn:=(List.mem_filter.1 hn).1;obtain ⟨x,y,z⟩:=c;simp only at h;unfold yV;simp only [pw,cH,jR,or_false] at hn;rcases hn with rfl|rfl|rfl|rfl|rfl|rfl|rfl<;>(try simp only [eX,Bh])<;>omega
def Nr (M:Sm):Prop:=(∀e ∈ M.T.2,sN e.1)/\(∀x ∈ M.q.l,okT x)/\0<=M.now/\M.now<=1099511627776
theorem Nr.edit {M:Sm} (h:Nr M) (c:Ce) (b:Int):Nr (xR M c b):=by
 refine ⟨acO h.1,λx hx=> ?_,h.2.2⟩;have hx:x ∈(if (kA M.T.2 c b).2=0 then DU (ig (kA M.T.2 c b).1) M.now M.q c else M.q).l:=hx;split at hx
 ·rename_i h0;obtain ⟨hy,e,he,hp⟩:=Vg h0;have hc:=Zc (by rw [<-hp];exact h.1 e he) hy;rcases Sg (c:=c) _ hx with hx|⟨hx,h1,h2⟩
  ·exact h.2.1 x hx
  ·have:=h.2.2;exact ⟨Vh hc _ hx,by omega,by omega⟩
 ·exact h.2.1 x hx
theorem Nr.change {M:Sm} (h:Nr M) (x:Go.fV.Cg):Nr (dX M x):=by
 unfold dX;split
 ·exact h
 ·exact h.edit _ _
theorem Nr.changes:∀(l:List Go.fV.Cg) {M:Sm},Nr M->Nr (l.foldl dX M)
 | [],M,h=>h
 |x::l,M,h=>Nr.changes l (h.change x)
theorem Nr.upd {M:Sm} (h:Nr M) (O:Ce->Bool) {c:Ce} (hc:yV c):Nr (qS O M c):=by
 unfold qS;split
 ·refine ⟨h.1,λx hx=> ?_,h.2.2⟩;rcases Sf hx with hx|hx
  ·exact h.2.1 x hx
  ·have:=h.2.2;rw [hx];exact ⟨hc,by simp only;omega,by simp only;omega⟩
 split
 ·exact Nr.change (M:={M with lP:=M.lP++ [eX c]}) h (c,0)
 ·exact Nr.changes _ h
theorem Nr.Ul (O:Ce->Bool):∀(l:List Ce) {M:Sm},GU l->Nr M->Nr (l.foldl (qS O) M)
 | [],M,_,h=>h
 |c::l,M,hl,h=>Nr.Ul O l (λy hy=>hl y (by simp [hy])) (h.upd O (hl c bt))
theorem Nr.due {M:Sm} (h:Nr M):GU (sX M):=λy hy=>by
 have hy:y ∈(M.q.l.take (iG M.q.l (qU M) M.da)).map (·.2):=hy
 obtain ⟨x,hx,rfl⟩:=bg.1 hy
 exact (h.2.1 x (List.mem_of_mem_take hx)).1
theorem Nr.tick {M:Sm} (h:Nr M) (O:Ce->Bool):Nr (Lv O M):=Nr.Ul O _ h.due ⟨h.1,λx hx=>h.2.1 x (List.mem_of_mem_drop (show x ∈ M.q.l.drop _ from hx)),by have:=h.2.2;show 0<=qU M/\qU M<=_;unfold qU;omega⟩
theorem tN:∀(l:List Go.fV.Cg) (M:Sm),(l.foldl dX M).da=M.da
 | [],M=>rfl
 |x::l,M=>(tN l (dX M x)).trans (by unfold dX;split<;>rfl)
theorem Ql (O:Ce->Bool) (M:Sm) (c:Ce):(qS O M c).da=M.da:=by
 unfold qS;split
 ·rfl
 split
 ·unfold dX;split<;>rfl
 ·exact tN _ _
theorem A8 (O:Ce->Bool):∀(l:List Ce) (M:Sm),(l.foldl (qS O) M).da=M.da
 | [],M=>rfl
 |c::l,M=>(A8 O l (qS O M c)).trans (Ql O M c)
theorem IW (O:Ce->Bool) (M:Sm):(Lv O M).da=M.da:=A8 O _ _
theorem Ho (O:Ce->Bool):∀(l:List Ce) (M:Sm),(l.foldl (qS O) M).T.1=M.T.1
 | [],M=>rfl
 |c::l,M=>(Ho O l (qS O M c)).trans (by
  have ch:∀(M:Sm) (x:Go.fV.Cg),(dX M x).T.1=M.T.1:=λM x=>by unfold dX;split<;>rfl
  have chs:∀(l:List Go.fV.Cg) (M:Sm),(l.foldl dX M).T.1=M.T.1:=λl=>by
   induction l with
   |nil=>exact λM=>rfl
   |cons x l ih=>exact λM=>(ih _).trans (ch M x)
  unfold qS
  split
  ·rfl
  split
  ·exact ch _ _
  ·exact chs _ _)
theorem ach {V:Ce->Int} {i k:Nat} {l:List ep} {m:Int} (h:∀b ∈ l,okB m b) (hm:m<=99970000000000):(∀b ∈ xP V i k l,okB (m+12582912) b)/\(xP V i k l).length=l.length:=by
 unfold xP;split
 ·rename_i a b ha hb;refine ⟨λx hx=> ?_,by rw [ir,ir]⟩;rcases kJ hx with hx|rfl
  ·rcases kJ hx with hx|rfl
   ·exact (h x hx).up aa
   ·exact xQ (h a (aZ ha)) hm
  ·exact xQ (h b (aZ hb)) hm
 ·exact ⟨λx hx=>(h x hx).up aa,rfl⟩
theorem X4 {V:Ce->Int} {i:Nat}:∀(n k:Nat) {l:List ep} {m:Int},(∀b ∈ l,okB m b)->m+n*12582912<=99970000000000->(∀b ∈ Gc V i k n l,okB (m+n*12582912) b)/\(Gc V i k n l).length=l.length
 |0,k,l,m,h,hm=>⟨λx hx=>(h x hx).up aa,rfl⟩
 |n+1,k,l,m,h,hm=>by
  obtain ⟨q1,q2⟩:=ach (V:=V) (i:=i) (k:=k) h aa
  obtain ⟨p1,p2⟩:=X4 (V:=V) (i:=i) n (k+1) q1 aa
  exact ⟨λx hx=>(p1 x hx).up aa,p2.trans q2⟩
theorem aee {V:Ce->Int}:∀(n i:Nat) {l:List ep} {m:Int},l.length<=16->(∀b ∈ l,okB m b)->m+n*(16*12582912)<=99970000000000->(∀b ∈ crB V i n l,okB (m+n*(16*12582912)) b)
 |0,i,l,m,hl,h,hm=>λx hx=>(h x hx).up aa
 |n+1,i,l,m,hl,h,hm=>by
  obtain ⟨q1,q2⟩:=X4 (V:=V) (i:=i) (l.length-(i+1)) (i+1) h aa
  have p:=aee (V:=V) n (i+1) (l:=Gc V i (i+1) (l.length-(i+1)) l) (m:=m+16*12582912) (by rw [q2];exact hl) (λx hx=>(q1 x hx).up aa) aa
  exact λx hx=>(p x hx).up aa
theorem X5 {V:Ce->Int} {l:List ep} {m:Int} (h:∀b ∈ l,okB m b) (hl:l.length<=16) (hm:m<=99960000000000):∀b ∈ qT V l,okB (m+16*16*12582912) b:=λx hx=>(aee l.length 0 hl h aa x hx).up aa
theorem X6 {M:Sm} {L:List (Option ez)} {m:Int} (h:rL m L) (hm0:0<=m) (hm:m<=99900000000000):rL (m+3300000000) (oS M L):=by
 refine Cs _ (h.up aa) λx hx=> ?_
 have hx:=(List.of_mem_zip hx).2;have hb:=DI (M:=M) h aa;exact (X5 hb (by rw [aM];exact IN M L) aa x.2 hx).up aa
theorem CK {rows:List jd} (i:Int) (hi:0<=i) (uC:FR):(GR rows i uC).map ai=(pD (rows.map ai) i uC).2:=by
 obtain ⟨k,rfl⟩:∃k:Nat,i=k:=⟨i.toNat,by omega⟩;unfold GR pD;rw [eJ]
 cases hq:rows[k]? with
 |none=>
  have:bV (rows.map ai) ((k:Nat):Int)=none:=by unfold bV;rw [if_pos aa,eJ,aS,hq];rfl
  rw [this]
 |some r=>
  rw [j8 (rows:=rows) (n:=(k:Nat)) rfl hq];obtain ⟨th,bd,inq⟩:=r
  cases th with
  |false=>rfl
  |true=>
   show ((rows.set k (true,(bd,uC))).map ai)=(rows.map ai).set k (some (bd,uC));rw [List.map_set];rfl
theorem CO {rows:List jd} (i:Int) (hi:0<=i):(CN rows i).map ai=(pE (rows.map ai) i).2:=by
 obtain ⟨k,rfl⟩:∃k:Nat,i=k:=⟨i.toNat,by omega⟩;unfold CN pE;rw [eJ,List.map_set];have h0:ai (false,(uW,(0,0,false)))=none:=rfl;rw [h0];split
 ·rename_i h;unfold bV at h;rw [if_pos aa,eJ] at h;show (rows.map ai).set k none=rows.map ai;refine iX λj=> ?_
  by_cases e:k=j
  ·subst e;by_cases hk:k<(rows.map ai).length
   ·rw [oF hk,c8 hk];rw [c8 hk] at h;simp only [Option.join_some] at h;rw [Option.isNone_iff_eq_none.1 h]
   ·rw [jt (by rw [ir];omega),jt aa]
  ·rw [List.getElem?_set_ne e]
 ·rfl
theorem acj {L:List (Option ez)} {m:Int} (h:rL m L) (i:Int):rL m (pE L i).2:=by
 unfold pE;split
 ·exact h
 ·intro y hy;rcases kJ hy with hy|hy
  ·exact h y hy
  ·cases hy
theorem ack {L:List (Option ez)} {m:Int} (h:rL m L) (i:Int) (uC:FR):rL m (pD L i uC).2:=by
 unfold pD
 cases hq:bV L i with
 |none=>exact h
 |some y=>
  intro z hz;rcases kJ hz with hz|hz
  ·exact h z hz
  ·cases hz
   unfold bV at hq;split at hq
   ·exact h y (aZ (Option.join_eq_some_iff.1 hq))
   ·cases hq
theorem X7 {M:Sm} {L:List (Option ez)} {m:Int} (h:rL m L) {b:ep} (hb:okB m b):rL m (dp M L b).2.2:=by
 unfold dp;split
 ·exact h
 split
 ·exact h
 split
 ·exact h
 split
 ·exact h
 ·intro z hz;rcases kJ hz with hz|hz
  ·exact h z hz
  ·cases hz
   exact hb
theorem acm (d:S4):okB 1200000 (RS d):=by have h1:=cJ d.aH.1 589825 aE;have h2:=cJ d.aH.2.1 589825 aE;have h3:=cJ d.aH.2.2 589825 aE;have h4:=cJ d.c.1 60000 aE;have h5:=cJ d.c.2.1 120000 aE;unfold okB RS fe Kg jv;simp only;omega
abbrev BQ (L:List (Option ez)):Prop:=∀y,some y ∈ L->Lw y.1
theorem afG (h:Ht) {b:ep} (hb:Lw b):(-1000000<=(lO h b.speed).1/\(lO h b.speed).1<=1000000)/\-1000000<=(lO h b.speed).2.2/\(lO h b.speed).2.2<=1000000:=by
 have c0:dP 0=0:=by decide
 have e1:(lO h b.speed).1=if h.1=true then dP 0 else b.speed.1:=by
  unfold lO
  cases h.1<;>cases h.2.1<;>cases h.2.2<;>rfl
 have e2:(lO h b.speed).2.2=if h.2.2=true then dP 0 else b.speed.2.2:=by
  unfold lO
  cases h.1<;>cases h.2.1<;>cases h.2.2<;>rfl
 unfold Lw at hb;rw [e1,e2,c0];constructor<;>split<;>omega
theorem afH (V:Ce->Int) (b:ep) (i:FR):Lw (tw V b i):=by
 have h1:Lw (rO b i):=by
  have h0:∀n,-1000000<=Hj n/\Hj n<=1000000:=λn=>by unfold Hj;omega
  exact ⟨h0 _,h0 _⟩
 have h2:Lw (pT V (rO b i) i):=by
  unfold pT;split
  ·exact h1
  ·split<;>exact h1
 exact afG _ h2
theorem afI {V:Ce->Int} {i k:Nat} {l:List ep} (h:∀b ∈ l,Lw b):∀b ∈ xP V i k l,Lw b:=by
 unfold xP;split
 ·rename_i a b ha hb;intro x hx;rcases kJ hx with hx|rfl
  ·rcases kJ hx with hx|rfl
   ·exact h x hx
   ·exact h a (aZ ha)
  ·exact h b (aZ hb)
 ·exact h
theorem aef {V:Ce->Int} {i:Nat}:∀(n k:Nat) {l:List ep},(∀b ∈ l,Lw b)->∀b ∈ Gc V i k n l,Lw b
 |0,k,l,h=>h
 |n+1,k,l,h=>aef n (k+1) (afI h)
theorem ai9 {V:Ce->Int}:∀(n i:Nat) {l:List ep},(∀b ∈ l,Lw b)->∀b ∈ crB V i n l,Lw b
 |0,i,l,h=>h
 |n+1,i,l,h=>ai9 n (i+1) (aef _ _ h)
theorem aja {L:List (Option ez)} {i:Nat} {b:ep} (h:BQ L) (hb:Lw b):BQ (vL L i b):=by
 unfold vL
 cases hq:bV L i with
 |none=>exact h
 |some y=>
  intro z hz;rcases kJ hz with hz|hz
  ·exact h z hz
  ·cases hz
   exact hb
theorem X9:∀(l:List (Nat × ep)) {L:List (Option ez)},BQ L->(∀x ∈ l,Lw x.2)->BQ (A7 L l)
 | [],L,h,_=>h
 |x::l,L,h,hl=>X9 l (aja h (hl x bt)) λy hy=>hl y (by simp [hy])
theorem afJ {M:Sm} {L:List (Option ez)} (h:BQ L):BQ (oS M L):=by
 refine X9 _ h λx hx=>ai9 _ _ (λb hb=> ?_) x.2 (List.of_mem_zip hx).2
 obtain ⟨i,hi,rfl⟩:=bg.1 hb;obtain ⟨-,y,hy⟩:=tu hi;unfold ml;rw [hy];exact afH _ _ _
theorem afK {L:List (Option ez)} (h:BQ L) (i:Int):BQ (pE L i).2:=by
 unfold pE;split
 ·exact h
 ·intro y hy;rcases kJ hy with hy|hy
  ·exact h y hy
  ·cases hy
theorem afL {L:List (Option ez)} (h:BQ L) (i:Int) (uC:FR):BQ (pD L i uC).2:=by
 unfold pD
 cases hq:bV L i with
 |none=>exact h
 |some y=>
  intro z hz;rcases kJ hz with hz|hz
  ·exact h z hz
  ·cases hz
   unfold bV at hq;split at hq
   ·exact h y (aZ (Option.join_eq_some_iff.1 hq))
   ·cases hq
theorem acn {M:Sm} {L:List (Option ez)} (h:BQ L) {b:ep} (hb:Lw b):BQ (dp M L b).2.2:=by
 unfold dp;split
 ·exact h
 split
 ·exact h
 split
 ·exact h
 split
 ·exact h
 ·intro z hz;rcases kJ hz with hz|hz
  ·exact h z hz
  ·cases hz
   exact hb
theorem Jv.edits {k:Nat} {M:Sm} {L:List (Option ez)} (h:Jv k M L) (c:Ce) (b:Int):Jv (k+1) (xR M c b) L:=by have hN:Nr (xR M c b):=Nr.edit ⟨h.t,h.q,h.s.now⟩ c b;exact ⟨h.b.up aa,(h.s.edit c b).mono aa,by have:=h.d;show M.T.1.l.length<=_;omega,hN.1,hN.2.1,h.x,h.u⟩
theorem Jv.RT {k:Nat} {M:Sm} {L L':List (Option ez)} (h:Jv k M L) (c:Ce) (b:Int):Jv (k+1) (fP M L' c b).2 L:=by
 unfold fP;split
 ·exact h.mono (Nat.le_succ _)
 ·exact h.edits c b
set_option maxHeartbeats 4000000 in
theorem Jv.step {k:Nat} {M:Sm} {rows:List jd} (h:Jv k M (rows.map ai)) (d:S4) (hn:M.T.2.length<=16) (hk:k<=100):Jv (k+1) (yP M rows d).1 ((yP M rows d).2.map ai):=by
 have hd:=h.d;have eN:=h.s.mono (show 3000*k<=3000*(k+1) by omega);have GP:=h.b.up (show 1200000+3300000000*(k:Int)<=1200000+3300000000*((k+1:Nat):Int) by omega);have hi:=cJ d.n 4 aE;unfold yP;split
 ·obtain ⟨q1,q2⟩:=ajb (ar:=M.ar) (limit:=M.cap) (D:=M.T.1) (p:=yW d.p) h.t;exact ⟨GP,⟨eN.l,eN.c,eN.now,eN.d⟩,by simp only;omega,q1,h.q,h.x,h.u⟩
 split
 ·obtain ⟨q1,q2,-⟩:=aco (D:=M.T.1) (p:=yW d.p) h.t;exact ⟨GP,⟨eN.l,eN.c,eN.now,eN.d⟩,by simp only;omega,q1,h.q,h.x,h.u⟩
 split
 ·obtain ⟨q1,q2,-⟩:=Ya M.T.2 (D:=M.T.1) (pre:=[]) (n:=0) (λe he=>by cases he) h.t;exact ⟨GP,⟨eN.l,eN.c,eN.now,eN.d⟩,by simp only [mu];omega,q1,h.q,h.x,h.u⟩
 split
 ·simp only;rw [AI];exact ⟨X7 GP ((acm d).up aa),eN,by omega,h.t,h.q,acn h.x (by unfold Lw RS fe;simp only;omega),h.u⟩
 split
 ·simp only;rw [CK _ hi.1];exact ⟨ack GP _ _,eN,by omega,h.t,h.q,afL h.x _ _,h.u⟩
 split
 ·simp only;unfold qw;split
  ·exact h.mono (Nat.le_succ _)
  split
  ·exact h.mono (Nat.le_succ _)
  split
  ·exact h.mono (Nat.le_succ _)
  split
  ·exact h.mono (Nat.le_succ _)
  split
  ·exact h.mono (Nat.le_succ _)
  ·exact h.RT _ _
 split
 ·simp only;unfold nA;split
  ·exact h.mono (Nat.le_succ _)
  split
  ·exact h.RT _ _
  ·exact h.RT _ _
 split
 ·exact h.RT _ _
 split
 ·simp only;rw [CO _ hi.1];exact ⟨acj GP _,eN,by omega,h.t,h.q,afK h.x _,h.u⟩
 split
 ·have h9:=Xk M.T.1 0 (me M (rows.map ai));exact ⟨GP,⟨eN.l,eN.c,eN.now,eN.d⟩,by simp only;omega,h.t,h.q,h.x,h.u⟩
 split
 ·exact h.mono (Nat.le_succ _)
 ·simp only;rw [mI];have hN:Nr (sW M (rows.map ai)).1:=Nr.tick (M:=M) ⟨h.t,h.q,h.s.now⟩ _;have hl:=RU (q:=M.q) (now:=qU M) h.u;have gC:qu (DN M) (3000*k):=⟨h.s.l,h.s.c,by have:=h.s.now;show 0<=qU M/\qU M<=_;unfold qU;omega,h.s.d⟩;have hS:qu (sW M (rows.map ai)).1 (3000*k+40*(sX M).length):=qu.Ul _ (sX M) gC;have VN:(sX M).length<=64:=hl;refine ⟨(X6 h.b aa aa).up aa,hS.mono aa,?_,hN.1,hN.2.1,afJ h.x,?_⟩
  ·have:(sW M (rows.map ai)).1.T.1=M.T.1:=Ho _ _ _;rw [this];omega
  ·have:(sW M (rows.map ai)).1.da=M.da:=IW _ _;rw [this];exact h.u
structure Ad where
 g:Nat
 s:Nat
 o:Nat
 t:Nat
 m:Nat
 s':Nat
 o':Nat
 t':Nat
def ub (K:Nat->Prop) (w0 w:World) (a:Ad) (Me:Sm) (Le:List (Option ez)) (Mm:Sm) (rows:List jd):Prop:=
 ∃(F F':Nat->Prop) (occ occ':Value),EF F w a.g a.s a.o a.t Me occ Le/\MF F' w a.m a.s' a.o' a.t' Mm occ' rows/\(∀i,F i->¬F' i)/\(∀i,F i->w0.heap.size<=i)/\(∀i,F' i->w0.heap.size<=i)/\(∀j,K j->¬F j/\¬F' j/\j<w.heap.size)/\Ext w0 w
section
variable {K:Nat->Prop} {w0 w u w':World} {a:Ad} {Me Mm M:Sm} {Le:List (Option ez)} {rows:List jd}
theorem ub.e (h:ub K w0 w a Me Le Mm rows):∃F occ,EF F w a.g a.s a.o a.t Me occ Le/\∀{w':World} {M':Sm} {occ':Value} {L':List (Option ez)},jg F w a.g a.s a.o a.t M' occ' L' w'->ub K w0 w' a M' L' Mm rows/\∀j,K j->w'.heap[j]? =w.heap[j]? :=by
 obtain ⟨F,F',occ,occ',h1,h2,h3,h4,h5,h6,h7⟩:=h;refine ⟨F,occ,h1,?_⟩;rintro w' M' oc L' ⟨G,g1,g2⟩;have hz:=g2.mod.size;obtain ⟨x,f⟩:=g2.fresh h7 h4;refine ⟨⟨G,F',oc,occ',g1,h2.same λi hi=>g2.mod.same i (h2.lt hi) λq=>h3 i q hi,g2.apart h3 λi hi=>h2.lt hi,f,h5,λj hj=> ?_,x⟩,λj hj=>g2.mod.same j (h6 j hj).2.2 (h6 j hj).1⟩;obtain ⟨k1,k2,k3⟩:=h6 j hj;refine ⟨λq=> ?_,k2,by omega⟩;rcases g2.sub j q with q|q
 ·exact k1 q
 ·omega
theorem ub.m (h:ub K w0 w a Me Le Mm rows):∃F occ,MF F w a.m a.s' a.o' a.t' Mm occ rows/\∀{w':World} {M':Sm} {occ':Value} {rows':List jd},kB F w a.m a.s' a.o' a.t' M' occ' rows' w'->ub K w0 w' a Me Le M' rows'/\∀j,K j->w'.heap[j]? =w.heap[j]? :=by
 obtain ⟨F,F',occ,occ',h1,h2,h3,h4,h5,h6,h7⟩:=h;refine ⟨F',occ',h2,?_⟩;rintro w' M' oc rows' ⟨G,g1,g2⟩;have hz:=g2.mod.size;obtain ⟨x,f⟩:=g2.fresh h7 h5;refine ⟨⟨F,G,occ,oc,h1.same λi hi=>g2.mod.same i (h1.lt hi) λq=>h3 i hi q,g1,λi hi hg=>g2.apart (G:=F) (λi hi hf=>h3 i hf hi) (λi hi=>h1.lt hi) i hg hi,h4,f,λj hj=> ?_,x⟩,λj hj=>g2.mod.same j (h6 j hj).2.2 (h6 j hj).2.1⟩;obtain ⟨k1,k2,k3⟩:=h6 j hj;refine ⟨k1,λq=> ?_,by omega⟩;rcases g2.sub j q with q|q
 ·exact k2 q
 ·omega
theorem ub.mK (h:ub K w0 w a Me Le Mm rows):∃F occ,MF F w a.m a.s' a.o' a.t' Mm occ rows/\(∀j,K j->¬F j)/\∀{w':World} {M':Sm} {occ':Value} {rows':List jd},kB F w a.m a.s' a.o' a.t' M' occ' rows' w'->ub K w0 w' a Me Le M' rows'/\∀j,K j->w'.heap[j]? =w.heap[j]? :=by
 obtain ⟨F,F',occ,occ',h1,h2,h3,h4,h5,h6,h7⟩:=h;refine ⟨F',occ',h2,λj hj=>(h6 j hj).2.1,?_⟩;rintro w' M' oc rows' ⟨G,g1,g2⟩;have hz:=g2.mod.size;obtain ⟨x,f⟩:=g2.fresh h7 h5;refine ⟨⟨F,G,occ,oc,h1.same λi hi=>g2.mod.same i (h1.lt hi) λq=>h3 i hi q,g1,λi hi hg=>g2.apart (G:=F) (λi hi hf=>h3 i hf hi) (λi hi=>h1.lt hi) i hg hi,h4,f,λj hj=> ?_,x⟩,λj hj=>g2.mod.same j (h6 j hj).2.2 (h6 j hj).2.1⟩;obtain ⟨k1,k2,k3⟩:=h6 j hj;refine ⟨k1,λq=> ?_,by omega⟩;rcases g2.sub j q with q|q
 ·exact k2 q
 ·omega
theorem ub.ext (h:ub K w0 w a Me Le Mm rows) (x:Ext w u):ub (λj=>K j\/w.heap.size<=j/\j<u.heap.size) w0 u a Me Le Mm rows:=by
 obtain ⟨F,F',occ,occ',h1,h2,h3,h4,h5,h6,h7⟩:=h;have hz:=x.size;refine ⟨F,F',occ,occ',h1.ext x,h2.ext x,h3,h4,h5,λj hj=> ?_,h7.tr x⟩;rcases hj with hj|⟨j1,j2⟩
 ·obtain ⟨k1,k2,k3⟩:=h6 j hj;exact ⟨k1,k2,by omega⟩
 ·exact ⟨λq=>by have:=h1.lt q;omega,λq=>by have:=h2.lt q;omega,j2⟩
theorem ub.mono {K':Nat->Prop} (h:ub K w0 w a Me Le Mm rows) (hs:∀j,K' j->K j):ub K' w0 w a Me Le Mm rows:=by obtain ⟨F,F',occ,occ',h1,h2,h3,h4,h5,h6,h7⟩:=h;exact ⟨F,F',occ,occ',h1,h2,h3,h4,h5,λj hj=>h6 j (hs j hj),h7⟩
theorem ub.same (h:ub K w0 w a Me Le Mm rows) (x:Ext w u):ub K w0 u a Me Le Mm rows/\∀j,K j->u.heap[j]? =w.heap[j]? :=⟨(h.ext x).mono λj hj=> .inl hj,λj hj=>by
 obtain ⟨F,F',occ,occ',h1,h2,h3,h4,h5,h6,h7⟩:=h
 exact x.heap (h6 j hj).2.2⟩
theorem ub.e0 (h:ub K w0 w a Me Le Mm rows):Vc.ld w (ae (some ⟨a.g,0,none⟩) 0)=some (.pointer (some ⟨a.s,0,none⟩))/\(ah 18 #[.pointer (some ⟨a.s,0,none⟩)] w λe w'=>e=Value.pointer (some ⟨a.o,0,none⟩)/\w'=w)/\
  (ah 19 #[.pointer (some ⟨a.o,0,none⟩)] w λe w'=>e=Value.pointer (some ⟨a.t,0,none⟩)/\w'=w):=by
 obtain ⟨F,occ,h1,-⟩:=h.e;obtain ⟨Fs,hs,jq,-⟩:=h1.sV;obtain ⟨Fw,hW,-⟩:=hs.world;exact ⟨jq,gA hs,oL hW⟩
theorem ub.m0 (h:ub K w0 w a Me Le Mm rows):Vc.ld w (ae (some ⟨a.m,0,none⟩) 0)=some (.pointer (some ⟨a.o',0,none⟩))/\
  (ah 19 #[.pointer (some ⟨a.o',0,none⟩)] w λe w'=>e=Value.pointer (some ⟨a.t',0,none⟩)/\w'=w):=by
 obtain ⟨F,occ,h1,-⟩:=h.m;obtain ⟨Fs,hs,-,jq,-⟩:=h1.sV;obtain ⟨Fw,hW,-⟩:=hs.world;exact ⟨jq,oL hW⟩
theorem ub.few (h:ub K w0 w a Me Le Mm rows):Me.T.2.length<=16:=by obtain ⟨F,occ,h1,-⟩:=h.e;obtain ⟨Fs,hs,-⟩:=h1.sV;obtain ⟨Fw,hW,-⟩:=hs.world;have:=hW.len;omega
theorem ub.WY (h:ub K w0 w a Me Le Mm rows):rows.length=16:=by obtain ⟨F,occ,h1,-⟩:=h.m;obtain ⟨b,-,-,h2,-⟩:=h1.CL;exact h2
end
theorem aiL {rows:List jd} (hn:rows.length=16) {b:Nat} {w:World} (hr:Row w b (rows.map jr).flatten AS) {k:Nat} (hk:k<16) {r:jd} (J1:rows[k]? =some r) (i:FR):(ae (ae (some ⟨b,0,none⟩) ((k:Int).toNat*13)) 10).isSome=true/\Wr w (ae (ae (some ⟨b,0,none⟩) ((k:Int).toNat*13)) 10) 3/\bC (ae (ae (some ⟨b,0,none⟩) ((k:Int).toNat*13)) 10)=some b/\
  ∀w',w'=Vc.aG w (ae (ae (some ⟨b,0,none⟩) ((k:Int).toNat*13)) 10) [.int .i64 i.1,.int .i64 i.2.1,.bool i.2.2]->Row w' b ((rows.set k (r.1,(r.2.1,i))).map jr).flatten AS/\Mod (λi=>i=b) w w':=by
 have ET:(rows.map jr).flatten.length=16*13:=by
  have:=bM (k:=13) (rows:=rows.map jr) λr hr=>by obtain ⟨x,-,rfl⟩:=bg.1 hr;rfl
  rw [this,aM,hn]
 rw [de,eJ];have wA:One [.int .i64 i.1,.int .i64 i.2.1,.bool i.2.2]:=by intro u hu;simp at hu;rcases hu with rfl|rfl|rfl<;>rfl
 obtain ⟨p1,p2⟩:=lI hr (off:=k*13+10) (vs:=[.int .i64 i.1,.int .i64 i.2.1,.bool i.2.2]) (by rw [ET];show _+3<=_;omega) wA;refine ⟨rfl,p1,by rw [bh];rfl,λw' e=> ?_⟩;obtain ⟨q1,q2⟩:=p2 w' e;refine ⟨?_,q2⟩;have cN:(rows.map jr)[k]? =some (jr r):=by rw [aS,J1];rfl
 have:aR (rows.map jr).flatten (k*13+10) [.int .i64 i.1,.int .i64 i.2.1,.bool i.2.2]=((rows.set k (r.1,(r.2.1,i))).map jr).flatten:=by rw [List.map_set];exact Db (λr hr=>by obtain ⟨y,-,rfl⟩:=bg.1 hr;rfl) cN (by show 10+3<=13;decide) rfl
 rw [<-this];exact q1
section
variable {K:Nat->Prop} {w0 w u w':World} {a:Ad} {Me Mm M:Sm} {Le:List (Option ez)} {rows:List jd}
abbrev aiK (K:Nat->Prop) (w0 w:World) (a:Ad) (M:Sm) (rows:List jd) (d:S4) (e:Ending) (w':World):Prop:=e=true/\ub K w0 w' a (yP M rows d).1 ((yP M rows d).2.map ai) (yP M rows d).1 (yP M rows d).2/\∀j,K j->w'.heap[j]? =w.heap[j]?
theorem WX {k:Nat} (h:Jv k M (rows.map ai)) (hk:k<=100):(∀x ∈ qt (rows.map ai) 16,(0<=x.1/\x.1<16)/\∀n ∈ j7 x.2,CI n)/\(∀x ∈ M.q.l,∀n ∈ [x.1,x.2.1,x.2.2.1,x.2.2.2],CI n)/\CI M.now:=by
 refine ⟨λx hx=> ?_,λx hx n hn=> ?_,?_⟩
 ·unfold qt at hx;obtain ⟨i,hi,rfl⟩:=bg.1 hx;obtain ⟨h1,h2⟩:=List.mem_filter.1 hi;have h1:=List.mem_range.1 h1;obtain ⟨y,hy⟩:=nv.1 h2;have hb:=h.b y (pC hy);have hx:=h.x y (pC hy);unfold xAt;rw [hy];refine ⟨by simp only;omega,λn hn=> ?_⟩;obtain ⟨⟨b1,b2,b3⟩,b4,b5,b6⟩:=hb;obtain ⟨c1,c2⟩:=hx;simp only [cH,jR,or_false] at hn;unfold CI;rcases hn with rfl|rfl|rfl|rfl|rfl|rfl|rfl|rfl<;>omega
 ·obtain ⟨h1,h2,h3⟩:=h.q x hx;unfold yV at h1;simp only [cH,jR,or_false] at hn;unfold CI;rcases hn with rfl|rfl|rfl|rfl<;>omega
 ·have:=h.s.now;unfold CI;omega
set_option maxHeartbeats 8000000 in
theorem S5 (h:ub K w0 w a M (rows.map ai) M rows) {k:Nat} (hj:Jv k M (rows.map ai)) (hk:k<=100) (d:S4) (hd:dIn d):
  ah 15 #[.pointer (some ⟨a.g,0,none⟩),.pointer (some ⟨a.m,0,none⟩),dV d] w (aiK K w0 w a M rows d):=by
 obtain ⟨hd1,hd2,hd3,⟨hd4,hd5⟩,hd6,hd7⟩:=hd;have hjd:=hj.d;have hjs:qu M 600000:=hj.s.mono aa;have hbm:1200000+3300000000*(k:Int)<=99900000000000:=by omega
 have hbm0:0<=1200000+3300000000*(k:Int):=by omega
 apply N9.vc;intro v0 e0;have x0:=aL e0;have z0:=zA e0;have r0:∃τ,Row v0 w (dL d) τ:=⟨_,by rw [e0];exact Row.new w [_,_,_,_,_,_,_,_,_,_,_,_,_,_,_,_,_] _⟩;obtain ⟨τ,r0⟩:=r0;refine (gz d.n 4 v0 hd2 aE (by unfold bS;omega)).mono ?_;rintro e v1 ⟨rfl,hv1⟩;subst hv1;refine ⟨_,rfl,rfl,(S6 d.p ⟨hd4,hd5⟩ v1).mono ?_⟩;rintro e v3 ⟨rfl,x3⟩;have z3:=x3.size;refine ⟨_,_,rfl,x3.heap aa,λv6 e6 v7 e7=> ?_⟩;have x7:Ext v3 v7:=(aL e6).af e7 (aB _);have z7:v7.heap.size=v3.heap.size+1:=by rw [zR e7,zA e6]
 have r7:∃τ,Row v7 v3 [.int .i64 (yW d.p).1,.int .i64 (yW d.p).2] τ:=⟨_,by rw [e7,e6];exact Row.set (Row.new v3 [_,_] _) [_,_]⟩;obtain ⟨τ7,r7⟩:=r7;have x07:=x0.tr (x3.tr x7);have kK:∀j,K j->v7.heap[j]? =w.heap[j]? :=(h.same x07).2;have r07:=r0.ext (x3.tr x7);obtain ⟨K2,kw,k3,hKK,hB⟩:∃K2:Nat->Prop,K2 w/\K2 v3/\(∀j,K j->K2 j)/\ub K2 w0 v7 a M (rows.map ai) M rows:=⟨_,.inr ⟨aB _,by omega⟩,.inr ⟨by omega,by omega⟩,λj hj=> .inl hj,h.ext x07⟩;have fin:∀{b:Bool} {w':World} {M':Sm} {rows':List jd},b=true->yP M rows d=(M',rows')->ub K2 w0 w' a M' (rows'.map ai) M' rows'->(∀j,K2 j->w'.heap[j]? =v7.heap[j]?)->aiK K w0 w a M rows d (.returned (.bool b)) w':=by intro b w' M' rows' hb Gr hBt Nt;subst hb;refine ⟨rfl,?_,λj hj=>(Nt j (hKK j hj)).trans (kK j hj)⟩;rw [Gr];exact hBt.mono hKK
 have parL:∀{u:World} {o:Nat} {vs:LV},(∀j,K2 j->u.heap[j]? =v7.heap[j]?)->(∀j,j<vs.length->(dL d)[o+j]? =vs[j]?)->ag u (some ⟨w.heap.size,o,none⟩) 0 vs:=λhu hv=>(r07.same (hu _ kw)).bY hv
 have wayL:∀{u:World},(∀j,K2 j->u.heap[j]? =v7.heap[j]?)->ag u (some ⟨w.heap.size,11,none⟩) 0 (du d.dS):=λhu=>parL hu λj hj=>by
  have hj:j<3:=hj;have:j=0\/j=1\/j=2:=by omega
  rcases this with rfl|rfl|rfl<;>rfl
 have bL:∀{u:World},(∀j,K2 j->u.heap[j]? =v7.heap[j]?)->ag u (some ⟨w.heap.size,2,none⟩) 0 [d.b]:=λhu=>parL hu λj hj=>by
  have:j=0:=by simpa using hj
  subst this;rfl
 have posL:∀{u:World},(∀j,K2 j->u.heap[j]? =v7.heap[j]?)->ag u (some ⟨v3.heap.size,0,none⟩) 0 [.int .i64 (yW d.p).1,.int .i64 (yW d.p).2]:=λhu=>Lo.wv (r7.same (hu _ k3))
 obtain ⟨l1,l2,l3⟩:=hB.e0;obtain ⟨l4,l5⟩:=hB.m0;refine ⟨_,l1,l2.mono ?_⟩;rintro e v9 ⟨rfl,hv⟩;subst hv;refine ⟨_,rfl,rfl,rfl,l3.mono ?_⟩;rintro e v11 ⟨rfl,hv⟩;subst hv;refine ⟨_,rfl,rfl,rfl,_,l4,l5.mono ?_⟩;rintro e VM ⟨rfl,hv⟩;subst hv;refine ⟨_,rfl,rfl,rfl,eI rfl (eI rfl ?_)⟩;have r0:∀j,K2 j->VM.heap[j]? =VM.heap[j]? :=λj _=>rfl
 obtain ⟨hBd,kd⟩:=hB.same (Ext.dr VM);have hi4:=cJ d.n 4 aE;apply Br.mk<;>intro hk0
 ·have hk0:d.kind=0:=by simpa using hk0
  obtain ⟨F,occ,hE,he⟩:=hBd.e;obtain ⟨Fw,hW,bo⟩:=hE.world;refine (sT hW aa (yW d.p)).mono ?_;rintro e u1 ⟨rfl,hr⟩;obtain ⟨CC,k1⟩:=he (bo hr);have kk1:∀j,K2 j->u1.heap[j]? =VM.heap[j]? :=λj hj=>(k1 j hj).trans (kd j hj)
  obtain ⟨F',occ',hM,hm⟩:=CC.m;obtain ⟨Fw',hW',MN⟩:=hM.world;refine ⟨_,rfl,k1 _ kw,k1 _ k3,posL kk1,(sT hW' aa (yW d.p)).mono ?_⟩;rintro e u2 ⟨rfl,hr⟩;obtain ⟨Gs,k2⟩:=hm (MN hr);exact ⟨_,rfl,k2 _ kw,k2 _ k3,fin bt (by unfold yP;rw [if_pos hk0]) Gs λj hj=>(k2 j hj).trans (kk1 j hj)⟩
 have n0:¬d.kind=0:=by simpa using hk0
 apply Br.mk<;>intro MO
 ·have MO:d.kind=1:=by simpa using MO
  obtain ⟨F,occ,hE,he⟩:=hBd.e;obtain ⟨Fw,hW,bo⟩:=hE.world;refine (uV hW aa (yW d.p)).mono ?_;rintro e u1 ⟨rfl,hr⟩;obtain ⟨CC,k1⟩:=he (bo hr);have kk1:∀j,K2 j->u1.heap[j]? =VM.heap[j]? :=λj hj=>(k1 j hj).trans (kd j hj)
  obtain ⟨F',occ',hM,hm⟩:=CC.m;obtain ⟨Fw',hW',MN⟩:=hM.world;refine ⟨_,rfl,k1 _ kw,k1 _ k3,posL kk1,(uV hW' aa (yW d.p)).mono ?_⟩;rintro e u2 ⟨rfl,hr⟩;obtain ⟨Gs,k2⟩:=hm (MN hr);exact ⟨_,rfl,k2 _ kw,k2 _ k3,fin bt (by unfold yP;rw [if_neg n0,if_pos MO]) Gs λj hj=>(k2 j hj).trans (kk1 j hj)⟩
 have n1:¬d.kind=1:=by simpa using MO
 apply Br.mk<;>intro EO
 ·have EO:d.kind=2:=by simpa using EO
  obtain ⟨F,occ,hE,he⟩:=hB.e;obtain ⟨Fw,hW,bo⟩:=hE.world;refine (rG hW aa).mono ?_;rintro e u1 ⟨rfl,hr⟩;obtain ⟨CC,k1⟩:=he (bo hr);obtain ⟨F',occ',hM,hm⟩:=CC.m;obtain ⟨Fw',hW',MN⟩:=hM.world;refine ⟨_,_,rfl,k1 _ kw,k1 _ k3,(rG hW' aa).mono ?_⟩;rintro e u2 ⟨rfl,hr⟩;obtain ⟨Gs,k2⟩:=hm (MN hr);exact ⟨_,_,rfl,k2 _ kw,k2 _ k3,yes bt (fin bt (by unfold yP;rw [if_neg n0,if_neg n1,if_pos EO]) Gs λj hj=>(k2 j hj).trans (k1 j hj))⟩
 have n2:¬d.kind=2:=by simpa using EO
 apply Br.mk<;>intro yR
 ·have yR:d.kind=3:=by simpa using yR
  refine (Oa d.aH hd7 VM).mono ?_;rintro e u1 ⟨rfl,x1⟩;obtain ⟨CC,k1⟩:=hB.same x1;refine ⟨_,_,_,rfl,k1 _ kw,k1 _ k3,λu2 e2 u3 e3=> ?_⟩;have xx:Ext u1 u3:=(aL e2).af e3 (aB _);have zx:u3.heap.size=u1.heap.size+1:=by rw [zR e3,zA e2]
  have hB3:=CC.ext xx;have k13:=(CC.same xx).2;have kb:K2 u1.heap.size\/u1.heap.size<=u1.heap.size/\u1.heap.size<u3.heap.size:=.inr ⟨aB _,by omega⟩;have a1:=cJ d.c.1 60000 aE;refine (gz d.c.1 60000 u3 hd6.1 aE (by unfold bS;omega)).mono ?_;rintro e u4 ⟨rfl,hu⟩;subst hu;refine ⟨_,rfl,rfl,rfl,rfl,(gz d.c.2.1 120000 u4 hd6.2.1 aE (by unfold bS;omega)).mono ?_⟩;rintro e u5 ⟨rfl,hu⟩;subst hu;obtain ⟨F,occ,hE,he⟩:=hB3.e;refine ⟨_,rfl,rfl,rfl,rfl,(CJ hE (Kg d.aH) (cG d.c.1 60000) (cG d.c.2.1 120000) (by unfold bS;omega)).mono ?_⟩;rintro e u6 ⟨rfl,hr⟩;obtain ⟨hB6,k6⟩:=he hr;obtain ⟨F',occ',hM,hm⟩:=hB6.m;refine ⟨_,_,rfl,k6 _ (.inl kw),k6 _ (.inl k3),k6 _ kb,(Kh hM (Kg d.aH) (cG d.c.1 60000) (cG d.c.2.1 120000) (by unfold bS;omega)).mono ?_⟩;rintro e u7 ⟨rfl,hr⟩;obtain ⟨hB7,k7⟩:=hm hr;refine ⟨_,_,rfl,k7 _ (.inl kw),k7 _ (.inl k3),k7 _ kb,yes bt (fin bt (by unfold yP;rw [if_neg n0,if_neg n1,if_neg n2,if_pos yR]) ?_ λj hj=>(k7 j (.inl hj)).trans ((k6 j (.inl hj)).trans ((k13 j hj).trans (k1 j hj))))⟩;rw [AI];exact hB7.mono λj hj=> .inl hj
 have n3:¬d.kind=3:=by simpa using yR
 apply Br.mk<;>intro hk4
 ·have hk4:d.kind=4:=by simpa using hk4
  have Gr:yP M rows d=(M,GR rows (ix d) d.uC):=by unfold yP;rw [if_neg n0,if_neg n1,if_neg n2,if_neg n3,if_pos hk4]
  have htl:=CK (rows:=rows) (ix d) hi4.1 d.uC;obtain ⟨i,hi⟩:∃i:Nat,ix d=i:=⟨(cG d.n 4).toNat,by show cG d.n 4=_;omega⟩;have aoF:i<4:=by have:cG d.n 4=i:=hi;omega
  have agr:=hB.WY;obtain ⟨r,sO⟩:=bH (l:=rows) (i:=i) aa;have hii:(rows.map jr)[i]? =some (jr r):=by rw [aS,sO];rfl
  have uP:=j8 (rows:=rows) (n:=i) rfl sO;have htR:GR rows i d.uC=if r.1=true then rows.set i (r.1,(r.2.1,d.uC)) else rows:=by unfold GR;rw [eJ,sO]
  show ah 54 #[.pointer (some ⟨a.g,0,none⟩),(ix d),.agg #[d.uC.1,d.uC.2.1,.bool d.uC.2.2]] VM _;have hix:cG d.n 4=(i:Int):=hi;rw [hix];rw [hi] at Gr htl ⊢;obtain ⟨F,occ,hE,he⟩:=hB.e;refine (S7 hE i d.uC).mono ?_;rintro e u1 ⟨rfl,hr⟩;obtain ⟨CC,k1⟩:=he hr;obtain ⟨F',occ',hM,hnK,hm⟩:=CC.mK;obtain ⟨b,hmr,ZE,vk,-,hFb,hmb,bo⟩:=hM.CL;have rk:=qv ZE vk;have inb:ee (some ⟨b,0,none⟩) (i:Int) 16:=rk.gR (i:=(i:Int)) aE aa (by show (i:Int)<((16:Nat):Int);omega);refine ⟨_,rfl,k1 _ kw,k1 _ k3,⟨some ⟨b,0,none⟩,16,16⟩,hmr.at 2 rfl,inb,gr rfl ⟨r.1,rk.at hii (Wv r),Br.mk (λhb=> ?_) (λhb=> ?_)⟩⟩
  ·have EP:ai r=some r.2:=by unfold ai;rw [if_pos hb]
   have ht0:(pD (rows.map ai) i d.uC).1=0:=by unfold pD;rw [uP,EP]
   rw [if_pos hb] at htR;have xd:=Ext.dr u1;obtain ⟨p0,p1,pb,p2⟩:=aiL vk (ZE.ext xd) (k:=i) aa sO d.uC;have nK:∀j,K2 j->some b≠some j:=λj hj q=>by injection q with q;exact hnK j hj (q▸hFb)
   refine ⟨⟨some ⟨b,0,none⟩,16,16⟩,(hmr.ext xd).at 2 rfl,inb,gr rfl ⟨⟨p0,p1⟩,by rw [pb];exact nK _ kw,by rw [pb];exact nK _ k3,λu2 e2=> ?_⟩⟩;obtain ⟨q1,q2⟩:=p2 u2 e2;have jk:Mod (λi=>i=b) u1 u2:=(Mod.aD xd).trans q2;have hmr2:=jk.row hmr hmb;have VN:(rows.set i (r.1,(r.2.1,d.uC))).length=16:=by rw [ir];exact vk
   obtain ⟨Gs,k2⟩:=hm (bo jk q1 VN);have rk2:=qv q1 VN;have hii2:((rows.set i (r.1,(r.2.1,d.uC))).map jr)[i]? =some (jr (r.1,(r.2.1,d.uC))):=by rw [aS,oF aa];rfl
   refine ⟨⟨some ⟨b,0,none⟩,16,16⟩,hmr2.at 2 rfl,inb,gr rfl ⟨r.1,rk2.at hii2 (Wv _),?_⟩⟩;rw [ht0,hb];refine yes rfl (yes rfl (fin rfl Gr ?_ λj hj=>(k2 j hj).trans (k1 j hj)));rw [htl,htR];exact Gs
  ·have EP:ai r=none:=by unfold ai;rw [if_neg (by rw [hb];decide)]
   have ht0:(pD (rows.map ai) i d.uC).1=6:=by unfold pD;rw [uP,EP]
   rw [if_neg (by rw [hb];decide)] at htR;refine ⟨⟨some ⟨b,0,none⟩,16,16⟩,hmr.at 2 rfl,inb,gr rfl ⟨r.1,rk.at hii (Wv r),?_⟩⟩;rw [ht0,hb];refine yes rfl (eI rfl (fin rfl Gr ?_ k1));rw [htl,htR];exact CC
 have n4:¬d.kind=4:=by simpa using hk4
 apply Br.mk<;>intro hk5
 ·have hk5:d.kind=5:=by simpa using hk5
  have Gr:yP M rows d=((qw M (rows.map ai) (ix d) d.dS (FJ d.b)).2,rows):=by unfold yP;rw [if_neg n0,if_neg n1,if_neg n2,if_neg n3,if_neg n4,if_pos hk5]
  refine (oG d.b hd3 VM.drew).mono ?_;rintro e u1 ⟨rfl,hu⟩;subst hu;obtain ⟨F,occ,hE,he⟩:=hBd.e;refine ⟨_,rfl,rfl,rfl,bL kd,wayL kd,wayL kd,(Ki hE hj.b aa (ix d) d.dS (FJ d.b) (hjs.mono aa)).mono ?_⟩;rintro e u2 ⟨rfl,hr⟩;obtain ⟨Gs,k2⟩:=he hr;have kk2:∀j,K2 j->u2.heap[j]? =VM.heap[j]? :=λj hj=>(k2 j hj).trans (kd j hj)
  refine ⟨_,rfl,k2 _ kw,k2 _ k3,bL kk2,wayL kk2,(oG d.b hd3 u2).mono ?_⟩;rintro e u3 ⟨rfl,hu⟩;subst hu;obtain ⟨F',occ',hM,hm⟩:=Gs.m;refine ⟨_,rfl,rfl,rfl,wayL kk2,(Kj hM hj.b aa (ix d) d.dS (FJ d.b) (hjs.mono aa)).mono ?_⟩;rintro e u4 ⟨rfl,hr⟩;obtain ⟨hB4,k4⟩:=hm hr;exact ⟨_,rfl,k4 _ kw,k4 _ k3,fin bt Gr hB4 λj hj=>(k4 j hj).trans (kk2 j hj)⟩
 have n5:¬d.kind=5:=by simpa using hk5
 apply Br.mk<;>intro hk6
 ·have hk6:d.kind=6:=by simpa using hk6
  have Gr:yP M rows d=((nA M (rows.map ai) (ix d) d.dS).2,rows):=by unfold yP;rw [if_neg n0,if_neg n1,if_neg n2,if_neg n3,if_neg n4,if_neg n5,if_pos hk6]
  obtain ⟨F,occ,hE,he⟩:=hB.e;refine (Kk hE hj.b aa (ix d) d.dS (hjs.mono aa)).mono ?_;rintro e u2 ⟨rfl,hr⟩;obtain ⟨Gs,k2⟩:=he hr;obtain ⟨F',occ',hM,hm⟩:=Gs.m;refine ⟨_,_,rfl,k2 _ kw,k2 _ k3,(Ob hM hj.b aa (ix d) d.dS (hjs.mono aa)).mono ?_⟩;rintro e u4 ⟨rfl,hr⟩;obtain ⟨hB4,k4⟩:=hm hr;exact ⟨_,_,rfl,k4 _ kw,k4 _ k3,yes bt (fin bt Gr hB4 λj hj=>(k4 j hj).trans (k2 j hj))⟩
 have n6:¬d.kind=6:=by simpa using hk6
 apply Br.mk<;>intro hk7
 ·have hk7:d.kind=7:=by simpa using hk7
  have Gr:yP M rows d=((fP M (rows.map ai) (oH d.c) (FJ d.b)).2,rows):=by unfold yP;rw [if_neg n0,if_neg n1,if_neg n2,if_neg n3,if_neg n4,if_neg n5,if_neg n6,if_pos hk7]
  have hcw:eQ (oH d.c):=by have b1:=cJ d.c.1 10 aE;have b2:=cJ d.c.2.1 14 aE;have b3:=cJ d.c.2.2 10 aE;unfold eQ oH;simp only;omega
  refine (CM d.c hd6 VM).mono ?_;rintro e u1 ⟨rfl,x1⟩;obtain ⟨CC,k1⟩:=hB.same x1;refine ⟨_,_,_,rfl,k1 _ kw,k1 _ k3,λu2 e2 u3 e3=> ?_⟩;have xx:Ext u1 u3:=(aL e2).af e3 (aB _);have zx:u3.heap.size=u1.heap.size+1:=by rw [zR e3,zA e2]
  have ru:∃τ,Row u3 u1.heap.size (du (oH d.c)) τ:=⟨_,by rw [e3,e2];exact Row.set (Row.new u1 [_,_,_] _) [_,_,_]⟩;obtain ⟨τu,ru⟩:=ru;have hB3:=CC.ext (xx.tr (Ext.dr u3));have k13:=(CC.same (xx.tr (Ext.dr u3))).2;have zd:u3.drew.heap.size=u3.heap.size:=rfl;have kb:K2 u1.heap.size\/u1.heap.size<=u1.heap.size/\u1.heap.size<u3.drew.heap.size:=.inr ⟨aB _,by omega⟩;have kk3:∀j,K2 j->u3.drew.heap[j]? =VM.heap[j]? :=λj hj=>(k13 j hj).trans (k1 j hj)
  have rud:=ru.ext (Ext.dr u3);refine (oG d.b hd3 u3.drew).mono ?_;rintro e u4 ⟨rfl,hu⟩;subst hu;obtain ⟨F,occ,hE,he⟩:=hB3.e;refine ⟨_,rfl,rfl,rfl,rfl,bL kk3,Lo.wv rud,Lo.wv rud,(vo hE hj.b (oH d.c) hcw (FJ d.b) (hjs.mono aa)).mono ?_⟩;rintro e u5 ⟨rfl,hr⟩;obtain ⟨hB5,k5⟩:=he hr;have kk5:∀j,K2 j->u5.heap[j]? =VM.heap[j]? :=λj hj=>(k5 j (.inl hj)).trans (kk3 j hj)
  refine ⟨_,rfl,k5 _ (.inl kw),k5 _ (.inl k3),k5 _ kb,bL kk5,Lo.wv (rud.same (k5 _ kb)),(oG d.b hd3 u5).mono ?_⟩;rintro e u6 ⟨rfl,hu⟩;subst hu;obtain ⟨F',occ',hM,hm⟩:=hB5.m;refine ⟨_,rfl,rfl,rfl,rfl,Lo.wv (rud.same (k5 _ kb)),(vp hM hj.b (oH d.c) hcw (FJ d.b) (hjs.mono aa)).mono ?_⟩;rintro e u7 ⟨rfl,hr⟩;obtain ⟨hB7,k7⟩:=hm hr;exact ⟨_,rfl,k7 _ (.inl kw),k7 _ (.inl k3),k7 _ kb,fin bt Gr (hB7.mono λj hj=> .inl hj) λj hj=>(k7 j (.inl hj)).trans (kk5 j hj)⟩
 have n7:¬d.kind=7:=by simpa using hk7
 apply Br.mk<;>intro ER
 ·have ER:d.kind=8:=by simpa using ER
  have Gr:yP M rows d=(M,CN rows (ix d)):=by unfold yP;rw [if_neg n0,if_neg n1,if_neg n2,if_neg n3,if_neg n4,if_neg n5,if_neg n6,if_neg n7,if_pos ER]
  have htl:=CO (rows:=rows) (ix d) hi4.1;obtain ⟨i,hi⟩:∃i:Nat,ix d=i:=⟨(cG d.n 4).toNat,by show cG d.n 4=_;omega⟩;have hix:cG d.n 4=(i:Int):=hi;have aoF:i<4:=by omega
  have agr:=hB.WY;obtain ⟨r,sO⟩:=bH (l:=rows) (i:=i) aa;have hii:(rows.map jr)[i]? =some (jr r):=by rw [aS,sO];rfl
  have uP:=j8 (rows:=rows) (n:=i) rfl sO;rw [hix];rw [hi] at Gr htl;obtain ⟨F,occ,hE,he⟩:=hB.e;refine (S8 hE i).mono ?_;rintro e u1 ⟨rfl,hr⟩;obtain ⟨CC,k1⟩:=he hr;obtain ⟨F',occ',hM,hnK,hm⟩:=CC.mK;obtain ⟨b,hmr,ZE,vk,-,hFb,hmb,bo⟩:=hM.CL;have rk:=qv ZE vk;have inb:ee (some ⟨b,0,none⟩) (i:Int) 16:=rk.gR (i:=(i:Int)) aE aa (by show (i:Int)<((16:Nat):Int);omega);obtain ⟨p0,p1,p2⟩:=WZ vk ZE (k:=i) aa (false,(uW,(0,0,false)));have pb:bC (ae (some ⟨b,0,none⟩) ((i:Int).toNat*13))=some b:=by rw [bh];rfl
  have nK:∀j,K2 j->some b≠some j:=λj hj q=>by injection q with q;exact hnK j hj (q▸hFb)
  refine ⟨_,rfl,k1 _ kw,k1 _ k3,⟨some ⟨b,0,none⟩,16,16⟩,hmr.at 2 rfl,inb,gr rfl ⟨r.1,rk.at hii (Wv r),⟨some ⟨b,0,none⟩,16,16⟩,hmr.at 2 rfl,inb,⟨p0,p1⟩,by rw [pb];exact nK _ kw,by rw [pb];exact nK _ k3,λu2 e2=> ?_⟩⟩;obtain ⟨q1,q2⟩:=p2 u2 e2;obtain ⟨Gs,k2⟩:=hm (bo q2 q1 (by rw [ir];exact vk));have yz:ub K2 w0 u2 a M ((CN rows (i:Int)).map ai) M (CN rows (i:Int)):=by rw [htl];unfold CN;rw [eJ];exact Gs
  cases hb:r.1 with
  |true=>
   have EP:ai r=some r.2:=by unfold ai;rw [if_pos hb]
   have ht0:(pE (rows.map ai) i).1=0:=by unfold pE;rw [uP,EP];rfl
   rw [ht0];exact yes rfl (yes rfl (fin rfl Gr yz λj hj=>(k2 j hj).trans (k1 j hj)))
  |false=>
   have EP:ai r=none:=by unfold ai;rw [if_neg (by rw [hb];decide)]
   have ht0:(pE (rows.map ai) i).1=6:=by unfold pE;rw [uP,EP];rfl
   rw [ht0];exact yes rfl (eI rfl (fin rfl Gr yz λj hj=>(k2 j hj).trans (k1 j hj)))
 have n8:¬d.kind=8:=by simpa using ER
 apply Br.mk<;>intro hk9
 ·have hk9:d.kind=9:=by simpa using hk9
  have Gr:yP M rows d=(W2 M (rows.map ai),rows):=by unfold yP;rw [if_neg n0,if_neg n1,if_neg n2,if_neg n3,if_neg n4,if_neg n5,if_neg n6,if_neg n7,if_neg n8,if_pos hk9]
  obtain ⟨F,occ,hE,he⟩:=hB.e;refine (S9 hE aa).mono ?_;rintro e u1 ⟨rfl,hr⟩;obtain ⟨CC,k1⟩:=he hr;obtain ⟨F',occ',hM,hm⟩:=CC.m;refine ⟨_,rfl,k1 _ kw,k1 _ k3,(wW hM).mono ?_⟩;rintro e u2 ⟨sx,sw,rfl,hsx,hsw,x2⟩;obtain ⟨Gs,k2⟩:=CC.same x2;obtain ⟨c1,c2,c3⟩:=WX hj hk;have hxl:(qt (rows.map ai) 16).length<=16:=by rw [H7];exact sU _
  have hql:M.q.l.length<=4096:=by obtain ⟨Fs,hs,-⟩:=hM.sV;obtain ⟨gq,mq,qs,-,qe,-⟩:=hs.queue;have:=qe.len;have:=qe.room;omega
  refine ⟨_,sx,sw,rfl,k2 _ kw,k2 _ k3,(CP hsx hsw c3 hxl hql c1 c2).mono ?_⟩;rintro e u3 ⟨sl,rfl,ho,x3⟩;obtain ⟨hB3,k33⟩:=Gs.same x3;rw [GS] at ho;obtain ⟨F3,occ3,hM3,hm3⟩:=hB3.m;obtain ⟨Fw,hW,bo⟩:=hM3.world;have hl:=Rq M (rows.map ai);refine ⟨sl,rfl,k33 _ kw,k33 _ k3,(AJ hW aa sl (me M (rows.map ai)) (ho.rd aE) (Ck M _) aa).mono ?_⟩;rintro e u4 ⟨rfl,hr⟩;obtain ⟨hB4,k4⟩:=hm3 (bo hr);exact ⟨_,rfl,k4 _ kw,k4 _ k3,fin bt Gr hB4 λj hj=>(k4 j hj).trans ((k33 j hj).trans ((k2 j hj).trans (k1 j hj)))⟩
 have n9:¬d.kind=9:=by simpa using hk9
 apply Br.mk<;>intro VO
 ·have VO:d.kind=10:=by simpa using VO
  have Gr:yP M rows d=(M,rows):=by unfold yP;rw [if_neg n0,if_neg n1,if_neg n2,if_neg n3,if_neg n4,if_neg n5,if_neg n6,if_neg n7,if_neg n8,if_neg n9,if_pos VO]
  obtain ⟨F,occ,hE,he⟩:=hB.e;refine (yX hE hj.b aa (ix d) d.dS).mono ?_;rintro e u1 ⟨rfl,x1⟩;have CC:=hB.ext x1;have k1:=(hB.same x1).2;refine ⟨_,_,_,_,_,_,_,rfl,k1 _ kw,k1 _ k3,λu2 e2 u3 e3=> ?_⟩;have xx:Ext u1 u3:=(aL e2).af e3 (aB _);have zx:u3.heap.size=u1.heap.size+1:=by rw [zR e3,zA e2]
  have hB3:=CC.ext xx;have k13:=(CC.same xx).2;have kb:(K2 u1.heap.size\/VM.heap.size<=u1.heap.size/\u1.heap.size<u1.heap.size)\/u1.heap.size<=u1.heap.size/\u1.heap.size<u3.heap.size:=.inr ⟨aB _,by omega⟩;obtain ⟨F',occ',hM,hm⟩:=hB3.m;refine (vq hM hj.b aa (ix d) d.dS).mono ?_;rintro e u4 ⟨rfl,x4⟩;obtain ⟨hB4,k4⟩:=hB3.same x4;refine ⟨_,_,_,_,_,_,_,rfl,k4 _ (.inl (.inl kw)),k4 _ (.inl (.inl k3)),k4 _ kb,λu5 e5 u6 e6=> ?_⟩;have x6:Ext u4 u6:=(aL e5).af e6 (aB _);obtain ⟨hB6,k6⟩:=hB4.same x6;exact yes bt (yes bt (yes bt (yes bt (fin bt Gr (hB6.mono λj hj=> .inl (.inl hj)) λj hj=>(k6 j (.inl (.inl hj))).trans ((k4 j (.inl (.inl hj))).trans ((k13 j (.inl hj)).trans (k1 j hj)))))))
 have n10:¬d.kind=10:=by simpa using VO
 have Gr:yP M rows d=((sW M (rows.map ai)).1,oI M rows):=by unfold yP;rw [if_neg n0,if_neg n1,if_neg n2,if_neg n3,if_neg n4,if_neg n5,if_neg n6,if_neg n7,if_neg n8,if_neg n9,if_neg n10]
 have hNr:GU (sX M):=Nr.due ⟨hj.t,hj.q,hj.s.now⟩;obtain ⟨F,occ,hE,he⟩:=hB.e;refine (Ta hE hj.b hbm0 hbm hNr hjs hj.u).mono ?_;rintro e u1 ⟨rfl,hr,-⟩;obtain ⟨CC,k1⟩:=he hr;obtain ⟨F',occ',hM,hm⟩:=CC.m;refine ⟨_,rfl,k1 _ kw,k1 _ k3,(Od hM hj.b hbm0 hbm hNr hjs hj.u).mono ?_⟩;rintro e u2 ⟨rfl,hr⟩;obtain ⟨Gs,k2⟩:=hm hr;refine ⟨_,rfl,k2 _ kw,k2 _ k3,fin bt Gr ?_ λj hj=>(k2 j hj).trans (k1 j hj)⟩;rw [mI];exact Gs
end
def yt (L:List (Option ez)) (i:Nat):Nat:=((List.range (min i 16)).filter λi=>(bV L (i:Nat)).isSome).length
theorem Ju (L:List (Option ez)) {i:Nat} (h:16<=i):yt L i=(cn L).length:=by unfold yt cn;rw [Nat.min_eq_right h,aM]
theorem MA {L:List (Option ez)} {i:Nat} (h:i<16):yt L (i+1)=yt L i+if (bV L (i:Nat)).isSome then 1 else 0:=by
 unfold yt;rw [Nat.min_eq_left (show i+1<=16 from h),Nat.min_eq_left (Nat.le_of_lt h),List.range_succ,mA,dc];split
 ·rename_i hs;rw [List.filter_cons_of_pos (p:=λi:Nat=>(bV L (i:Nat)).isSome) hs];rfl
 ·rename_i hs;rw [List.filter_cons_of_neg (p:=λi:Nat=>(bV L (i:Nat)).isSome) hs];rfl
theorem acW {L:List (Option ez)} {i:Nat} (h:i<16) (hs:(bV L (i:Nat)).isSome=true):(cn L)[yt L i]? =some (i:Int):=by
 unfold cn yt;rw [Nat.min_eq_left (Nat.le_of_lt h),aS];have e:List.range 16=List.range i++i::(List.range (15-i)).map (λx=>i+(x+1)):=by
  have:16=i+((15-i)+1):=by omega
  rw [this,List.range_add,List.range_succ_eq_map,fT,List.map_map];simp only [Nat.add_zero,show i+((15-i)+1)-1=15 from by omega];congr 2
 rw [e,mA,List.filter_cons_of_pos (p:=λi:Nat=>(bV L (i:Nat)).isSome) hs,oK (aB _),Nat.sub_self];rfl
theorem Sj {b:List Int} (h:mz b):Yp b:=h
section
variable {K:Nat->Prop} {w0 w u w':World} {a:Ad} {Me Mm M:Sm} {Le:List (Option ez)} {rows:List jd}
set_option maxHeartbeats 8000000 in
theorem Ts (h:ub K w0 w a M (rows.map ai) M rows) {k:Nat} (hj:Jv k M (rows.map ai)) (hk:k<=100) (c:Ce) (hc:oM c):
  ah 16 #[.pointer (some ⟨a.g,0,none⟩),.pointer (some ⟨a.m,0,none⟩),ea c] w λe w'=>e=true/\Ext w w':=by
 obtain ⟨F,occ,hE,-⟩:=h.e;obtain ⟨F',occ',hM,-⟩:=h.m;have vk:=h.WY;apply Qx.vc;intro v0 e0;have x0:=aL e0;have z0:=zA e0;refine (HB (hE.ext x0)).mono ?_;rintro e v1 ⟨s2,rfl,vm,x1⟩;have z1:=x1.size;have QH:s2.n=(cn (rows.map ai)).length:=by rw [(vm.rd (show 0<1 by decide)).n,aM]
 have jC:=x0.tr x1;have hll:=sU (rows.map ai);refine ⟨s2,rfl,x1.heap aa,λn x k wr=>∃j:Nat,x=(j:Int)-1/\j+n=18/\k=(yt (rows.map ai) (j-1):Nat)/\Ext v1 wr,⟨18,rfl,0,rfl,rfl,rfl,Ext.cQ _⟩,?_⟩;rintro n us x kk w8 ⟨j,rfl,hjn,rfl,x8⟩;have z8:=x8.size;have x08:=jC.tr x8;apply Br.mk<;>intro hq
 ·have hq:(j:Int)-1<17:=by simpa using hq
  refine (Vx (hE.ext x08) ((j:Int)-1)).mono ?_;rintro e bD ⟨rfl,bj⟩;have Sr:=bj.size;refine ⟨_,_,_,_,_,_,_,_,_,_,rfl,bj.heap aa,λed wO cL wN=> ?_⟩;have dI:Ext bD cL:=(aL wO).af wN (aB _);have xa:=x8.tr (bj.tr dI);have wj:aj ((j:Int)-1+1)=((j+1:Nat):Int)-1:=by rw [wI];omega
  rcases Nat.eq_zero_or_pos j with rfl|hj0
  ·have hb:tP (rows.map ai) (((0:Nat):Int)-1)=(uW,false):=by unfold tP;rw [yu vk aa]
   rw [hb];exact eI aE (eI rfl (yes rfl ⟨n-1,by omega,rfl,1,wj,by omega,rfl,xa⟩))
  obtain ⟨i,rfl⟩:∃i,j=i+1:=⟨j-1,by omega⟩;have ei:((i+1:Nat):Int)-1=(i:Int):=by omega
  rw [ei] at wj ⊢;have azg:i<17:=by omega
  refine yes bt ?_;by_cases h16:i<16
  ·refine yes (by simp;omega) ?_;obtain ⟨r,sO⟩:=bH (l:=rows) (i:=i) aa;have hii:(rows.map jr)[i]? =some (jr r):=by rw [aS,sO];rfl
   have uP:=j8 (rows:=rows) (n:=i) rfl sO;obtain ⟨b,hmr,ZE,-,-⟩:=(hM.ext (jC.tr xa)).CL;have rk:=qv ZE vk;have inb:ee (some ⟨b,0,none⟩) (i:Int) 16:=rk.gR (i:=(i:Int)) aE aa (by show (i:Int)<((16:Nat):Int);omega);refine ⟨⟨some ⟨b,0,none⟩,16,16⟩,hmr.at 2 rfl,inb,gr rfl ⟨r.1,rk.at hii (Wv r),?_⟩⟩
   cases hb:r.1 with
   |false=>
    have EP:ai r=none:=by unfold ai;rw [if_neg (by rw [hb];decide)]
    have uR:tP (rows.map ai) (i:Int)=(uW,false):=by unfold tP;rw [uP,EP]
    rw [uR];refine eI rfl (yes rfl ⟨n-1,by omega,rfl,i+1+1,wj,by omega,?_,xa⟩);rw [show i+1+1-1=i+1 from rfl,show i+1-1=i from rfl,MA h16,uP,EP];rfl
   |true=>
    have EP:ai r=some r.2:=by unfold ai;rw [if_pos hb]
    have uR:tP (rows.map ai) (i:Int)=(r.2.1,true):=by unfold tP;rw [uP,EP]
    have H6:(bV (rows.map ai) (i:Nat)).isSome=true:=by rw [uP,EP];rfl
    rw [uR];have xd:=Ext.dr cL;have rkd:=rk.ext xd;have hla:=acW h16 H6;have gW:=(cR.1 hla).1;have ic:=(vm.ext (xa.tr xd)).rd (show 0<1 by decide);have hri2:((cn (rows.map ai)).map λi=> [Value.int .i64 i])[yt (rows.map ai) i]? =some [.int .i64 (i:Int)]:=by rw [aS,hla];rfl
    have aaZ:=ic.at hri2 (j:=0) (v:=.int .i64 i) rfl;rw [de] at aaZ;have wc:aj ((yt (rows.map ai) i:Int)+1)=((yt (rows.map ai) (i+1):Nat):Int):=by rw [MA h16,H6,wI];rfl
    refine eI rfl (eI rfl ⟨⟨some ⟨b,0,none⟩,16,16⟩,(hmr.ext xd).at 2 rfl,inb,gr rfl ⟨_,_,_,_,_,_,_,_,_,iP rkd hii (mlB r),eI bt (eI ?_ ⟨ic.gR aE aa (by show ((yt (rows.map ai) i:Nat):Int)<_;omega),_,aaZ,eI bt ⟨n-1,by omega,rfl,i+1+1,wj,by omega,wc,xa.tr xd⟩⟩)⟩⟩);show decide (((yt (rows.map ai) i:Nat):Int)>=((s2.n:Nat):Int))=false;rw [decide_eq_false aa]
  ·have:i=16:=by omega
   subst this;have hb:tP (rows.map ai) ((16:Nat):Int)=(uW,false):=by unfold tP;rw [yu vk aa]
   rw [hb];refine eI aE (eI rfl (yes rfl ⟨n-1,by omega,rfl,16+1+1,wj,by omega,?_,xa⟩));rw [Ju _ aE,Ju _ aE]
 have hq:¬(j:Int)-1<17:=by simpa using hq
 have asb:j=18:=by omega
 subst asb;have asc:((yt (rows.map ai) (18-1):Nat):Int)=((s2.n:Nat):Int):=by rw [Ju _ aE,QH]
 refine (CM c hc w8).mono ?_;rintro e jZ ⟨rfl,tV⟩;have z58:=tV.size;refine ⟨_,_,_,rfl,tV.heap aa,λgL e62 uz e63=>yes (by rw [asc];simp) ?_⟩;have sb:Ext jZ uz.drew:=((aL e62).af e63 (aB _)).drew;have z63:uz.drew.heap.size=jZ.heap.size+1:=by show uz.heap.size=_;rw [zR e63,zA e62]
 have r63:∃τ,Row uz.drew jZ (du (oH c)) τ:=⟨_,by rw [e63,e62];exact (Row.set (Row.new jZ [_,_,_] _) [_,_,_]).ext (Ext.dr _)⟩;obtain ⟨τ,r63⟩:=r63;have y63:=x08.tr (tV.tr sb);have cl:∀{u:World},Ext uz.drew u->ag u (some ⟨jZ.heap.size,0,none⟩) 0 (du (oH c)):=λxu=>Lo.wv (r63.ext xu)
 have hcw:oM (oH c):=by have b1:=cJ c.1 10 aE;have b2:=cJ c.2.1 14 aE;have b3:=cJ c.2.2 10 aE;unfold oM bS oH;simp only;omega
 obtain ⟨av,cN,iV,-,-,-⟩:=(hE.ext y63).row;refine (zI cN iV hj.b (oH c)).mono ?_;rintro e oX ⟨rfl,sR⟩;have z64:=sR.size;refine ⟨_,rfl,sR.heap aa,sR.heap aa,cl sR,(Qy (hM.ext (y63.tr sR)) hj.b (oH c)).mono ?_⟩;rintro e my ⟨rfl,lh⟩;have z66:=lh.size;have x6:=sR.tr lh;have y66:=y63.tr x6;obtain ⟨Fs,hs,jq,-,-⟩:=(hE.ext y66).sV;obtain ⟨Fw,hW,-,-⟩:=hs.world;obtain ⟨Fs',hs',hld1',ahW,-⟩:=(hM.ext y66).sV;obtain ⟨Fw',hW',-,-⟩:=hs'.world;refine ⟨_,rfl,lh.heap aa,lh.heap aa,yes bt ⟨_,jq,_,ahW,(gA hs).mono ?_⟩⟩;rintro e kx ⟨rfl,hv⟩;subst hv;refine ⟨_,rfl,rfl,rfl,cl x6,JZ ahW,cl x6,(fo hW).mono ?_⟩;rintro e Ke ⟨rfl,hv⟩;subst hv;refine ⟨_,rfl,rfl,rfl,cl x6,JZ ahW,cl x6,((hE.ext y66).tl.at hcw|>λhh=>dq hh ?_)⟩;rintro e jK ⟨rfl,pB⟩;have z74:=pB.size;obtain ⟨Fs2,yY,-,hld2,-⟩:=(hM.ext (y66.tr pB)).sV;obtain ⟨Fw2,hW2,-,-⟩:=yY.world;refine ⟨_,rfl,pB.heap aa,pB.heap aa,cl (x6.tr pB),JZ hld2,(fo hW2).mono ?_⟩;rintro e iq ⟨rfl,hv⟩;subst hv;refine ⟨_,rfl,rfl,rfl,cl (x6.tr pB),((hM.ext (y66.tr pB)).tl.at hcw|>λhh=>dq hh ?_)⟩;rintro e lX ⟨rfl,wS⟩;have z78:=wS.size;have y78:=(y66.tr pB).tr wS;obtain ⟨Fs3,hs3,hld3,-,-⟩:=(hM.ext y78).sV;refine ⟨_,rfl,wS.heap aa,wS.heap aa,yes bt ⟨_,hld3,(Hk (hE.ext y78)).mono ?_⟩⟩;rintro e qq ⟨rfl,hv⟩;subst hv;obtain ⟨Fs4,hs4,-,-,-⟩:=(hE.ext y78).sV;refine ⟨_,rfl,rfl,rfl,JZ hld3,(uk hs4).mono ?_⟩;rintro e Nw ⟨rfl,hv⟩;subst hv;refine ⟨_,rfl,rfl,rfl,JZ hld3,(uk hs3).mono ?_⟩;rintro e JD ⟨rfl,hv⟩;subst hv;refine ⟨_,rfl,rfl,rfl,yes bt ((Bj (hE.ext y78)).mono ?_)⟩;rintro e sI ⟨sr,rfl,hor,qi⟩;have z87:=qi.size;refine ⟨sr,rfl,qi.heap aa,qi.heap aa,(wW (hM.ext (y78.tr qi))).mono ?_⟩;rintro e kN ⟨sx,sw,rfl,hsx,hsw,H3⟩;have z89:=H3.size;obtain ⟨c1,c2,c3⟩:=WX hj hk;have hxl:(qt (rows.map ai) 16).length<=16:=by rw [H7];exact hll
 have hql:M.q.l.length<=4096:=by obtain ⟨gq,mq,qs,-,qe,-⟩:=hs.queue;have:=qe.len;have:=qe.room;omega
 refine ⟨_,sx,sw,rfl,H3.heap aa,H3.heap aa,(CP hsx hsw c3 hxl hql c1 c2).mono ?_⟩;rintro e yT ⟨sl,rfl,ho,sJ⟩;have z93:=sJ.size;rw [GS] at ho;refine ⟨sl,rfl,sJ.heap aa,sJ.heap aa,(BY sr sl (me M (rows.map ai)) (me M (rows.map ai)) yT ((hor.ext (H3.tr sJ)).rd aE) (ho.rd aE) (Sj (Ck M _)) (Sj (Ck M _))).mono ?_⟩;rintro e Nz ⟨rfl,hv⟩;subst hv;exact ⟨_,rfl,rfl,rfl,by simp,y78.tr (qi.tr (H3.tr sJ))⟩
end
variable {R:Ending->World->Prop} {w:World} {a0 a1 a2 a3 a4 a5 a6 a7 a8 a9 aA aq au aT aU aX bN bI bJ EU ak ao aw bw bR bP eZ fa eL EV br bG bq yC yD wC wD yE yF yG EW EX EY EZ E0 E1 E2 E3 E4 E5:Int}
theorem xq.vc {a2:Sl} (h:
 ah 9 #[a0,a1,(9:Int)] w (λe w0=>∃(p1 p2:Option Addr),e=Value.tuple #[p1,p2]/\
 Br (p1).isNone
 (R false w0)
 (∃I3:Nat->Int->World->Prop,
 (∃n4,I3 n4 (0) w0)/\
 ∀(n4:Nat) (us5:Nat->Value) (x6:Int) (w7:World),I3 n4 x6 w7->
 Br (decide (x6<((a2.n:Nat):Int)))
 (Br (x6<25)
 (ee a2.a x6 a2.n/\∃(x9 bj bz bU cc bW cm cp cT cg cr cZ dm dI dz eH:Int) (Ka:Bool),ag w7 (ae a2.a ((x6:Int).toNat*17)) 0 [x9,bj,bz,bU,cc,bW,cm,cp,cT,cg,cr,cZ,dm,dI,dz,eH,Ka]/\
 ah 15 #[p1,p2,.agg #[x9,bj,bz,bU,cc,bW,cm,cp,cT,cg,cr,cZ,dm,dI,dz,eH,Ka]] w7 (λe eG=>∃(Ax:Bool),e=Ax/\
 Br (!Ax)
 (R false eG)
 (ee a2.a x6 a2.n/\aP (dB (ae a2.a ((x6:Int).toNat*17))) (∃(gy fI iK:Int),ag eG (ae (ae a2.a ((x6:Int).toNat*17)) 5) 0 [gy,fI,iK]/\
 ah 16 #[p1,p2,.agg #[gy,fI,iK]] eG (λe fj=>∃(N1:Bool),e=N1/\
 Br (!N1)
 (R false fj)
 (∃n8,n8<n4/\I3 n8 ((aj (x6+1))) fj))))))
 (ah 14 #[] w7 (λe ej=>∃(JC:Bool),e=JC/\
 R JC ej)))
 (ah 14 #[] w7 (λe ie=>∃(ZO:Bool),e=ZO/\
 R ZO ie))))):ah 4 #[a0,a1,a2] w R:=
 cq ⟨[(5,⟨[(9,.int .i64)],[],[]⟩)],[],[]⟩ Tryz.func4 h
section
variable {F F':Nat->Prop} {w w':World} {g s o t:Nat} {M M':Sm} {occ:Value} {L:List (Option ez)}
theorem EF.dN (h:EF F w g s o t M occ L) {j:Nat} {cs:LV} {τ:TypeId} (hr:Row w j cs τ) (h1:C3 τ) (h2:τ≠qB) (h3:τ≠kg) (h4:τ≠zy) (h5:τ≠Q.gE) (h6:τ≠Q.cC) (h7:τ≠pr) (h8:τ≠su) (h9:τ≠kT):¬F j:=by
 obtain ⟨Fs,av,r1,r2,r3,rfl⟩:=h;rintro (hi|hi|hi)
 ·exact hr.ne r1 h8 hi
 ·exact r2.jF hr h1 h2 h3 h4 h5 h6 h7 hi
 ·obtain ⟨i,hi⟩:=oZ hi;obtain ⟨x,-,hx⟩:=r3.s i j hi;exact hr.ne hx h9 rfl
end
abbrev aof:jd:=(false,(uW,(0,0,false)))
abbrev Hc:List jd:=List.replicate 16 aof
theorem Oz:Hc.map ai=noL:=rfl
theorem O0:bn zl 16=(Hc.map jr).flatten:=rfl
theorem abW:(tn≠su/\tn≠kT)/\AS≠su/\AS≠kT:=by decide
theorem jv0 (ar cap bud:Int):Jv 0 (M9e ar cap bud) (Hc.map ai):=by
 have mV:∀y:ez,some y ∈ Hc.map ai->False:=λy hy=>by
  rw [Oz] at hy;have:=List.eq_of_mem_replicate hy
  cases this
 refine ⟨λy hy=>(mV y hy).elim,⟨⟨Int.le_refl _,Int.le_refl _⟩,aB _,⟨Int.le_refl _,by show (0:Int)<=_;decide⟩,aB _⟩,aB _,λe he=> ?_,λx hx=>(by cases hx),λy hy=>(mV y hy).elim,by show 1<=min (max bud 1) 64/\min (max bud 1) 64<=64;omega⟩;have he:e ∈ l9 ar 9:=he;unfold l9 at he;obtain ⟨p,hp,rfl⟩:=bg.1 he;have hp:p ∈ AU:=List.mem_of_mem_take hp;obtain ⟨k,hk⟩:=List.mem_iff_getElem?.1 hp;exact (Iu hk).1
theorem O1 (ar bud cap:Int) (hc:9<=cap) (w:World):ah 9 #[ar,bud,cap] w λe w'=>
  ∃a:Ad,e=Value.tuple #[.pointer (some ⟨a.g,0,none⟩),.pointer (some ⟨a.m,0,none⟩)]/\ub (λ_=>False) w w' a (M9e ar cap bud) (Hc.map ai) (M9e ar cap bud) Hc:=by
 refine (Iv ar bud cap hc w).mono ?_;rintro e w' ⟨g,s,o,t,F,m,b,s',o',t',F',rfl,hE,hS,rm,rb,hdj,fF,fF',zm,zb,x⟩;have nm:=hE.dN rm mB.1.1 mB.1.2.1 mB.1.2.2.1 mB.1.2.2.2.1 mB.1.2.2.2.2.1 mB.1.2.2.2.2.2.1 mB.1.2.2.2.2.2.2 abW.1.1 abW.1.2;have nb:=hE.dN rb mB.2.1.1 mB.2.1.2.1 mB.2.1.2.2.1 mB.2.1.2.2.2.1 mB.2.1.2.2.2.2.1 mB.2.1.2.2.2.2.2.1 mB.2.1.2.2.2.2.2.2 abW.2.1 abW.2.2;refine ⟨⟨g,s,o,t,m,s',o',t'⟩,rfl,F,_,_,_,hE,⟨F',b,rm,hS,by rw [<-O0];exact rb,rfl,rfl⟩,λi hi q=> ?_,fF,λi hi=> ?_,λj hj=>hj.elim,x⟩
 ·rcases q with rfl|rfl|q
  ·exact nm hi
  ·exact nb hi
  ·exact hdj i hi q
 ·rcases hi with rfl|rfl|hi
  ·exact zm
  ·exact zb
  ·exact fF' i hi
theorem Bu (ar bud:Int) {sl:Sl} {ds:List S4} {w:World} (hs:RdK w sl 17 (ds.map dL)) (hd:∀d ∈ ds,dIn d):ah 4 #[ar,bud,sl] w λe w'=>e=true/\Ext w w':=by
 apply (xq.vc (a2:=sl));have hn:sl.n=ds.length:=by rw [hs.n,aM]
 refine (O1 ar bud 9 aE w).mono ?_;rintro e w0 ⟨a,rfl,hB⟩;refine ⟨_,_,rfl,eI rfl ⟨λn x wr=>∃(j:Nat) (M:Sm) (rows:List jd),x=j/\j+n=25/\ub (λ_=>False) w wr a M (rows.map ai) M rows/\Jv j M (rows.map ai),⟨25,0,_,_,rfl,rfl,hB,jv0 _ _ _⟩,?_⟩⟩;rintro n us x w7 ⟨j,M,rows,rfl,hjn,hB7,hJ⟩;have x7:Ext w w7:=by obtain ⟨F,F',oc,oc',h1,h2,h3,h4,h5,h6,h7⟩:=hB7;exact h7
 have stop:ah 14 #[] w7 λe ej=>∃JC:Bool,e=JC/\Ending.returned (.bool JC)=true/\Ext w ej:=by refine (Iw w7).mono ?_;rintro e ej ⟨rfl,ey⟩;exact ⟨_,rfl,rfl,x7.tr ey⟩
 refine Br.mk (λhq=>Br.mk (λWD=> ?_) (λWD=>stop)) (λhq=>stop);have hq:(j:Int)<sl.n:=by simpa using hq
 have WD:(j:Int)<25:=by simpa using WD
 obtain ⟨d,hdj⟩:=bH (l:=ds) (i:=j) aa;have ic:=hs.ext x7;have cN:(ds.map dL)[j]? =some (dL d):=by rw [aS,hdj];rfl
 refine ⟨ic.gR aE aa hq,_,_,_,_,_,_,_,_,_,_,_,_,_,_,_,_,_,ic.bY cN,(S5 hB7 hJ aa d (hd d (aZ hdj))).mono ?_⟩;rintro e eG ⟨rfl,agB,-⟩;have fk:Ext w eG:=by obtain ⟨F,F',oc,oc',h1,h2,h3,h4,h5,h6,h7⟩:=agB;exact h7
 have ajS:=hJ.step d hB7.few aa;have hrd26:=hs.ext fk;have mW:=hrd26.gR (i:=(j:Int)) aE aa hq;refine ⟨_,rfl,eI rfl ⟨mW,bA.2 ⟨g9.2 (by rw [fL];exact mW.1),_,_,_,iP hrd26 cN (off:=5) (vs:=du d.c) (λi hi=> ?_),(Ts agB ajS aa d.c (hd d (aZ hdj)).2.2.2.2.1).mono ?_⟩⟩⟩
 ·have hi:i<3:=hi;have:i=0\/i=1\/i=2:=by omega
  rcases this with rfl|rfl|rfl<;>rfl
 rintro e fj ⟨rfl,gI⟩;refine ⟨_,rfl,eI rfl ⟨n-1,by omega,j+1,_,_,by rw [wI];omega,by omega,(agB.same gI).1,ajS⟩⟩
abbrev dKs:List Bool:=[true,true,true,true,true,true,true,true,true,true,true,true,true,true,true,true,false]
theorem jh {r:LV} (h:MixR dKs r) (i:Nat) (hi:dKs[i]? =some true):∃z,r[i]? =some (.int .i64 z)/\bS z:=by obtain ⟨v,hv,z,rfl,hz⟩:=h.2 i true hi;exact ⟨z,hv,hz⟩
theorem aft {r:LV} (h:r.length=17):∃a0 a1 a2 a3 a4 a5 a6 a7 a8 a9 b0 b1 b2 b3 b4 b5 b6,r=[a0,a1,a2,a3,a4,a5,a6,a7,a8,a9,b0,b1,b2,b3,b4,b5,b6]:=by
 match r,h with
 | [a0,a1,a2,a3,a4,a5,a6,a7,a8,a9,b0,b1,b2,b3,b4,b5,b6],_=>exact ⟨a0,a1,a2,a3,a4,a5,a6,a7,a8,a9,b0,b1,b2,b3,b4,b5,b6,rfl⟩
theorem abU {r:LV} (h:MixR dKs r):∃d:S4,r=dL d/\dIn d:=by
 obtain ⟨a0,a1,a2,a3,a4,a5,a6,a7,a8,a9,b0,b1,b2,b3,b4,b5,b6,rfl⟩:=aft h.1;obtain ⟨z0,h0,i0⟩:=jh h 0 rfl;obtain ⟨z1,h1,i1⟩:=jh h 1 rfl;obtain ⟨z2,h2,i2⟩:=jh h 2 rfl;obtain ⟨z3,h3,i3⟩:=jh h 3 rfl;obtain ⟨z4,h4,i4⟩:=jh h 4 rfl;obtain ⟨z5,h5,i5⟩:=jh h 5 rfl;obtain ⟨z6,h6,i6⟩:=jh h 6 rfl;obtain ⟨z7,h7,i7⟩:=jh h 7 rfl;obtain ⟨z8,h8,i8⟩:=jh h 8 rfl;obtain ⟨z9,h9,i9⟩:=jh h 9 rfl;obtain ⟨y0,g0,j0⟩:=jh h 10 rfl;obtain ⟨y1,g1,j1⟩:=jh h 11 rfl;obtain ⟨y2,g2,j2⟩:=jh h 12 rfl;obtain ⟨y3,g3,j3⟩:=jh h 13 rfl;obtain ⟨y4,g4,j4⟩:=jh h 14 rfl;obtain ⟨y5,g5,j5⟩:=jh h 15 rfl;obtain ⟨v,hv,c,rfl⟩:=h.2 16 false rfl
 cases h0;cases h1;cases h2;cases h3;cases h4;cases h5;cases h6;cases h7;cases h8;cases h9;cases g0;cases g1;cases g2;cases g3;cases g4;cases g5;cases hv
 exact ⟨⟨z0,z1,z2,(z3,z4),(z5,z6,z7),(z8,z9,y0),(y1,y2,y3),(y4,y5,c)⟩,rfl,i0,i1,i2,⟨i3,i4⟩,⟨i5,i6,i7⟩,i8,i9,j0⟩
theorem Kz:∀{z:List (LV)},(∀r ∈ z,MixR dKs r)->∃ds:List S4,z=ds.map dL/\∀d ∈ ds,dIn d
 | [],_=>⟨[],rfl,λd hd=>(by cases hd)⟩
 |r::z,h=>by
  obtain ⟨d,rfl,hd⟩:=abU (h r bt)
  obtain ⟨ds,rfl,hds⟩:=Kz λr hr=>h r (List.mem_cons_of_mem _ hr)
  refine ⟨d::ds,rfl,λx hx=> ?_⟩
  rcases cH.1 hx with rfl|hx
  ·exact hd
  ·exact hds x hx
end Go.Proofs.YtkkkfkopcfdmaaaGreatDoor
