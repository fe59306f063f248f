import Derived.Test.YtjcnjlaelhdjeaaGreatDoorM
import Derived.Test.YtjcnjlaelhdjeaaGreatDoorL
set_option linter.all false
namespace Go.Proofs.YtjcnjlaelhdjeaaGreatDoor
open Go Go.Vc Go.RowKit Go.Proofs Go.nK Go.cC Go.aO Go.Code Go.fi Go.fL Go.iZ
set_option maxRecDepth 100000
set_option maxHeartbeats 8000000
section
variable {k:Nat} {w0 w u u':World} {A:List Nat} {sh:Nat} {M:Sm} {occ:Value} {L:Lv} {ln:ByteArray}
def Nx(k:Nat)(w0:World)(A:List Nat)(sh:Nat)(M:Sm)(L:Lv)(u:World):Prop:=(∃occ,QI w0 A sh M occ L u)/\Inv k M L
def Nx.line(h:Nx k w0 A sh M L u)(hk:k<=1000)(hT:lf w0)(hl:ln.size<=4294967296):
  ae 14 #[sh,.string ln] u λe u'=>e=Value.string (lV M L (cc ln)).1/\(lV M L (cc ln)).1.size<=1000000/\Nx (k+1) w0 A sh (lV M L (cc ln)).2.1 (lV M L (cc ln)).2.2 u'/\KpA A u u':=by
 obtain ⟨⟨occ,h1,h0,g,s,o,t,F,h2,h3,h4,h5,h6⟩,hI⟩:=h;refine (JL k M L hl w0 u F sh g s o t occ hk hT h1 (λi hi=>(h6 i hi).1) h5 h2 h3 h4 hI).mono ?_;rintro _ u' ⟨rfl,hz,g',s',o',t',occ',F',hE,hS,hn,hm,dP,hI'⟩;have hzz:=h1.size;refine ⟨rfl,hz,⟨⟨occ',hm.ext h1 (λi hi=>hi.elim (λq=>(h6 i q).1) (λq=>by omega)),λi hi=>⟨gA (h0 i hi).1 hm.size,(h0 i hi).2⟩,g',s',o',t',F',hE,hS,hn,h5,λi hi=>(dP i hi).elim (h6 i) λq=>⟨aa,λhA=>by have:=(h0 i hA).1;omega⟩⟩,hI'⟩,λi hi=>hm.same i (h0 i hi).1 λq=>q.elim (λq=>(h6 i q).2 hi) (h0 i hi).2⟩
def Nx.ext(h:Nx k w0 A sh M L u)(x:Ext u u'):Nx k w0 A sh M L u':=⟨⟨_,(h.1.choose_spec.ext x).1⟩,h.2⟩
def Nx.add(h:Nx k w0 A sh M L u)(x:Ext u u'){j:Nat}(hj:u.heap.size<=j)(hj':j<u'.heap.size):Nx k w0 (j::A) sh M L u':=⟨⟨_,h.1.choose_spec.add x hj hj'⟩,h.2⟩
def Nx.x(h:Nx k w0 A sh M L u):Ext w0 u:=h.1.choose_spec.1
def amg(w:World)(k:Nat):ae 26 #[] w λe w'=>∃sh,e=Value.pointer (aB sh)/\Nx k w [] sh (yG 1 9 200000 16) xt w':=
 (adP w).mono λe w' ⟨sh,he,h⟩=>⟨sh,he,⟨_,h⟩,Inv.new _ _ _ _⟩
def ZC{s:Sl}{rows:List (LV)}(h:dB u s 1 rows)(hk:KpA s.aX.toList u u'):dB u' s 1 rows:=h.same λb hb=>hk b (by rw [hb];simp)
def Nx.rows(h:Nx k w0 [] sh M L u)(x:Ext u u'){s:Sl}{rows:List (LV)}{B:Nat}(ho:ar B 9 1 u' s rows)(hB:u.heap.size<=B):Nx k w0 s.aX.toList sh M L u':=by
 cases hb:s.aX with
 |none=>exact h.ext x
 |some b=>
  have:=ho.own.lt hb;exact h.add x aa this.2
end
def IQ{w:World}{m:Int}(hm:w.cell? ⟨0,0,none⟩=some (.int .i64 m))(hT:lf w)(a0:ByteArray):eU 5 #[.string a0] w true:=by
 apply Dz.vc;refine (adQ a0 500 w).gK ?_;have nE:=adR a0 500;generalize ZD a0 500=script at*;refine ⟨_,rfl,(amg w 0).mono ?_⟩;rintro _ w2 ⟨sh,rfl,hN⟩;refine ⟨_,rfl,Br.mk (λc=>by cases c) (λ_=>(Qb script w2 aa).mono ?_)⟩;rintro _ w4 ⟨s5,rfl,ho,x4⟩;have ajR:=Gx script;have gl:=ar.rd ho aw;have hn5:s5.n=(bA script).length:=by rw [gl.n,aJ]
 have hN4:=hN.rows x4 ho (ak _);have fin:∀{u:World} {p:Nat},(100<=p\/(bA script).length<=p)->p<=(bA script).length->Ext w u->ae 29 #[.string script] u λe u'=>e=Value.string ⟨(gF (bA script) (jc (bA script)) p).toArray⟩/\Ext w u':=by
  intro u p h1 h2 xu;rw [adJ h1 h2];have hm':u.cell? ⟨0,0,none⟩=some (.int .i64 m):=by have:Vc.ld w (some ⟨0,0,none⟩)=some (.int .i64 m):=hm;exact xu.ld this
  exact (Xq hm' (qn hT xu) script aa).mono λe u' hh=>⟨hh.1,xu.tr hh.2⟩
 have liv:∀{u:World},Ext w u->ae 30 #[] u λe u'=>e=true/\Ext w u':=by
  intro u xu;have hm':u.cell? ⟨0,0,none⟩=some (.int .i64 m):=by have:Vc.ld w (some ⟨0,0,none⟩)=some (.int .i64 m):=hm;exact xu.ld this
  exact (Zz hm' (qn hT xu)).mono λe u' hh=>⟨hh.1,xu.tr hh.2⟩
 refine ⟨_,rfl,λn x out u=>∃p:Nat,x=(p:Int)/\p+n=(bA script).length/\p<=100/\out=⟨(gF (bA script) (jc (bA script)) p).toArray⟩/\(gF (bA script) (jc (bA script)) p).length<=p*1000001/\dB u s5 1 ((bA script).map sv)/\Nx p w s5.aX.toList sh (nS (bA script) p).1 (nS (bA script) p).2 u,
  ⟨(bA script).length,0,rfl,aa,aa,rfl,dU _,gl,hN4⟩,?_⟩
 rintro n7 us x out u ⟨p,rfl,hp,agw,rfl,db,hr,hX⟩;have xu:=hX.x;have tail:(100<=p\/(bA script).length<=p)->ae 29 #[.string script] u (λe eQ=>∃(t20:ByteArray),e=Value.string t20/\Br (ej t20 ⟨(gF (bA script) (jc (bA script)) p).toArray⟩) (ae 29 #[.string script] eQ (λe cX=>∃(t22:ByteArray),e=Value.string t22/\Br (ej t22 ⟨(gF (bA script) (jc (bA script)) p).toArray⟩) (ae 30 #[] cX (λe je=>∃(b24:Bool),e=b24/\(Ending.returned (.bool b24)=true/\Ext w je))) (Ending.returned (.bool false)=true/\Ext w cX))) (Ending.returned (.bool false)=true/\Ext w eQ)):=by
  intro Bg;refine (fin Bg aa xu).bj λeQ dR=> ?_
  refine ⟨_,rfl,yes ((eY _ _).2 rfl) ((fin Bg aa dR).bj λcX fj=> ?_)⟩;refine ⟨_,rfl,yes ((eY _ _).2 rfl) ((liv fj).bj λje im=> ?_)⟩;exact ⟨_,rfl,rfl,im⟩
 refine Br.mk (λc=> ?_) (λc=>tail (.inr ?_))
 ·have c:=of_decide_eq_true c;have Ob:p<(bA script).length:=by omega
  refine Br.mk (λc2=> ?_) (λc2=>tail (.inl (by have:=of_decide_eq_false c2;omega)));have c2:p<100:=by have:=of_decide_eq_true c2;omega
  obtain ⟨line,hline⟩:∃l,(bA script)[p]? =some l:=⟨_,cO Ob⟩;have hls:=uZ (aQ hline);have hgd:(bA script).getD p (ByteArray.mk #[])=line:=by rw [dn,hline];rfl
  have asN:∀{v:World},dB v s5 1 ((bA script).map sv)->Vc.ld v (ab s5.a (((p:Nat):Int).toNat*1))=some (.string line):=λhv=>by have:=hv.rd p (sv line) (by rw [aZ,hline];rfl) 0 _ rfl;simpa using this
  have wk:=nJ (j:=p);refine ⟨hr.j2 aw aa aa,line,asN hr,(Pd line u aa).mono ?_⟩;rintro _ cu ⟨oI,rfl,S4,cY⟩;have asO:oI.n=(cc line).length:=by rw [(ar.rd S4 aw).n,aJ]
  have agx:=hr.ext cY;have aoR:=hX.ext cY;refine ⟨_,rfl,Br.mk (λc3=> ?_) (λc3=> ?_)⟩
  ·have fA:cc line≠ []:=λq=>by rw [q] at asO;simp [asO] at c3
   have ht:ou (bA script) p:=⟨c2,line,hline,fA⟩;refine ⟨hr.j2 aw aa aa,line,asN agx,(aoR.line aa hT (ln:=line) aa).mono ?_⟩;rintro _ cM ⟨rfl,hz,ayY,ayZ⟩;have et:jc (bA script) p=(lV (nS (bA script) p).1 (nS (bA script) p).2 (cc line)).1:=by unfold jc;rw [hgd]
   have eo:gF (bA script) (jc (bA script)) (p+1)=gF (bA script) (jc (bA script)) p++(bl (jc (bA script) p)++ [10]):=Aq ht;have z1:(⟨(gF (bA script) (jc (bA script)) p).toArray⟩:ByteArray).size=(gF (bA script) (jc (bA script)) p).length:=by simp [ByteArray.size]
   have z2:(ByteArray.mk #[10]).size=1:=rfl;have e3:IntKind.i64.max=9223372036854775807:=by decide
   have zt:(bl (jc (bA script) p)).length<=1000000:=by rw [eM,et];exact hz
   refine ⟨_,rfl,by rw [e3,z1];omega,by rw [e3,ByteArray.size_append,z1,z2];omega,n7-1,aa,p+1,wk,aa,aa,?_,?_,ZC agx ayZ,?_⟩
   ·apply uC;rw [Bw,Bw,Xj,Xj,eo,et,fY]
   ·rw [eo,bY,bY];simp only [cD,kX];omega
   ·rw [EX ht,hgd];exact ayY
  ·have lD:¬ou (bA script) p:=λ⟨_,l,hl,fA⟩=>by
    rw [hline] at hl
    cases hl
    refine fA (tj.1 ?_);have:¬(oI.n:Int)>0:=by simpa using c3
    omega
   have eo:gF (bA script) (jc (bA script)) (p+1)=gF (bA script) (jc (bA script)) p:=Mz lD;refine ⟨n7-1,aa,p+1,wk,aa,aa,by rw [eo],by rw [eo];exact c8 db (qW _ (kW _)),agx,?_⟩;rw [adI lD];exact ⟨aoR.1,aoR.2.up⟩
 ·have c:=of_decide_eq_false c;omega
def walk_LinesRuns(a0:ByteArray)(w:World)(_:a0.size<=maxLen)(hs:w.ShapedOpen Tryz.prog)(hT:lf w):eU 5 #[.string a0] w true:=by obtain ⟨m,hm⟩:=ZE hs;exact IQ hm hT a0
end Go.Proofs.YtjcnjlaelhdjeaaGreatDoor
