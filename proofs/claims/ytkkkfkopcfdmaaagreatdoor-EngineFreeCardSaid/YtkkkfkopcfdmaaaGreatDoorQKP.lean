import Derived.Test.YtkkkfkopcfdmaaaGreatDoorL
set_option linter.all false
namespace Go.Proofs.YtkkkfkopcfdmaaaGreatDoor
open Go Go.Vc Go.RowKit Go.Proofs Go.dm Go.aZ Go.Code Go.fZ Go.fh Go.iU
set_option maxRecDepth 100000
def asF(ai:Int):ju (l9 ai 9):=by unfold ju l9;rw [mS];show (wF.map id).Nodup;decide
def ang(ai cap bud:Int)(hg:um (ZR ai cap bud).T.2):eL ai 0 (ZR ai cap bud).T:=by
 refine ⟨Stf.new,asF ai,hg,λe he=> ?_,λe he _=> ?_⟩
 ·have he:e ∈ l9 ai 9:=he;unfold l9 at he;obtain ⟨p,hp,rfl⟩:=aY.1 he;have hp:p ∈ wF:=qR hp;obtain ⟨k,hk⟩:=Jj.1 hp;exact (Ep hk).1
 ·have he:e ∈ l9 ai 9:=he;unfold l9 at he;obtain ⟨p,hp,rfl⟩:=aY.1 he;have hl:Go.dm.tU (ZR ai cap bud).T.1 (pd p)=([],0,false):=UT;simp only;rw [hl];rfl
def ahZ{K:Nat->Prop}{w0 w:World}{a:Ad}{Me Mm:Sm}{Le:List (Option dQ)}{rows:List iV}(h:ua K w0 w a Me Le Mm rows):um Me.T.2:=by obtain ⟨F,occ,hE,-⟩:=h.e;obtain ⟨Fs,IQ,-,-,-⟩:=hE.wu;obtain ⟨Fw,hW,-,-⟩:=IQ.world;exact hW.A6
set_option maxHeartbeats 2000000 in
def GK(ai bud:Int){sl:Sl}{ds:List Re}{w:World}(hs:RdK w sl 17 (ds.map dL))(hd:∀d ∈ ds,dIn d):ah 5 #[ai,bud,sl] w λe w'=>e=true/\Ext w w':=by
 apply (BX.vc (a2:=sl));have hn:sl.n=ds.length:=by rw [hs.n,aN]
 refine (RJ ai bud 9 aG w).mono ?_;rintro e w0 ⟨a,rfl,hB⟩;have xB:∀{K:Nat->Prop} {u:World} {Me Mm:Sm} {Le:List (Option dQ)} {rows:List iV},ua K w u a Me Le Mm rows->Ext w u:=λh=>by obtain ⟨F,F',oc,oc',h1,h2,h3,h4,h5,h6,h7⟩:=h;exact h7
 have lq:nc ai (ZR ai 9 bud).T (Fl.map aj):=λy hy=>by
  rw [Fo] at hy;have:=List.eq_of_mem_replicate hy
  cases this
 refine ⟨_,_,rfl,fB rfl ⟨λn x wr=>∃(j:Nat)(M:Sm)(rows:List iV),x=j/\j+n=40/\ua (λ_=>False) w wr a M (rows.map aj) M rows/\Jv j M (rows.map aj)/\M.ai=ai/\eL ai (17*j) M.T/\nc ai M.T (rows.map aj),⟨40,0,_,_,rfl,rfl,hB,jv0 _ _ _,rfl,ang _ _ _ (ahZ hB),lq⟩,?_⟩⟩;rintro n us x w7 ⟨j,M,rows,rfl,hjn,hB7,hJ,hsd,hT,hF⟩;have x7:=xB hB7;have stop:ah 14 #[] w7 λe eP=>∃Ze:Bool,e=Ze/\Ending.returned (.bool Ze)=true/\Ext w eP:=by refine (LF w7).mono ?_;rintro e eP ⟨rfl,eF⟩;exact ⟨_,rfl,rfl,x7.tr eF⟩
 refine Br.mk (λhq=>Br.mk (λB4=> ?_) (λB4=>stop)) (λhq=>stop);have hq:=dn hq;have B4:=dn B4;obtain ⟨d,hdj⟩:=bB (l:=ds) (i:=j) ab;have jj:=hs.ext x7;have dq:(ds.map dL)[j]? =some (dL d):=by rw [aV,hdj];rfl
 refine ⟨jj.iz aG ab hq,_,_,_,_,_,_,_,_,_,_,_,_,_,_,_,_,_,jj.cg dq,(VT hB7 hJ ab d (hd d (aU hdj))).mono ?_⟩;rintro e fb ⟨rfl,alE,-⟩;have avR:=hB7.few;have apI:=hJ.step d avR ab;obtain ⟨apJ,apK⟩:=XI hsd hT hF hJ.b ab ab ab d (ahZ alE);have avS:=(XH M rows d).trans hsd;generalize ub M rows d=r at*;obtain ⟨M',rows'⟩:=r;obtain ⟨F,occ,hE,-⟩:=alE.e;refine ⟨_,rfl,fB rfl ((free_spec hE apJ apK apI.b ab).mono ?_)⟩;rintro e gQ ⟨rfl,ik⟩;exact ⟨_,rfl,fB rfl ⟨n-1,by omega,j+1,M',rows',by rw [wI];omega,by omega,(alE.same ik).1,apI,avS,apJ.mono ab,apK⟩⟩
def walk_EngineFree(ai dp:Int)(a:Option Addr)(len cap:Nat)(z:List (LV))(w:World)(_:bT ai)(_:bT dp)
  (hs:RdK w ⟨a,len,cap⟩ 17 z)(hz:∀r ∈ z,MixR dKs r)(_:len<=cap):
  ah 5 #[ai,dp,.slice a len cap] w λe w'=>e=true/\Ext w w':=by
 obtain ⟨ds,rfl,hd⟩:=MU hz;exact GK ai dp (sl:=⟨a,len,cap⟩) hs hd
end Go.Proofs.YtkkkfkopcfdmaaaGreatDoor
