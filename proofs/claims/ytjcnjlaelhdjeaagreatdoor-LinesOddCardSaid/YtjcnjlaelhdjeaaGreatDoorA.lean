import Derived.WalkKit
set_option linter.all false
abbrev bP:= @Go.Value.string
abbrev bT:= @Go.Value.tuple
abbrev dr:= @Go.Value.pointer
abbrev eL:= @Go.Value.bool
abbrev tr:= @Go.Value.slice
abbrev vc:= @Go.Value.int
abbrev vI:= @Go.Value.agg
abbrev Aw:= @Go.Sem.run_bind
abbrev Br:= @Go.Result.andThen_ok
abbrev Ok:= @BitVec.ofInt
abbrev Sl:= @Go.Ending.returned
abbrev ka0:= @Go.IntKind.i64
abbrev ka1:= @Option.some.inj
abbrev ka2:= @List.mem_cons_self
abbrev ka3:= @Go.Sem.run_pure
abbrev ka4:= @ByteArray.mk
def U{p:Prop}(h:p:=by omega):p:=h
def X{p:Prop}(h:p:=by decide):p:=h
def bo{p:Prop}(h:p:=by simp):p:=h
abbrev aQ:=@List.mem_of_getElem?
abbrev aK:=@List.length_map
abbrev aW:=@List.getElem?_map
abbrev cG:=@List.getElem?_eq_some_iff
abbrev cK:=@List.getElem?_eq_getElem
abbrev dG:=@List.getD_eq_getElem?_getD
abbrev bc:=@List.mem_map
abbrev cj:=@List.length_append
abbrev cl:=@List.map_append
abbrev dq:=@List.take_add_one
abbrev cL:=@List.length_cons
abbrev dN:=@List.take_of_length_le
abbrev cS:=@List.length_take
abbrev jZ:=@List.getElem?_eq_none
abbrev pY:=@List.mem_or_eq_of_mem_set
abbrev fT:=@List.append_assoc
abbrev cu:=@List.mem_cons
abbrev eH:=@List.map_cons
abbrev oS:=@List.getElem?_append_left
abbrev pO:=@List.getElem?_append_right
abbrev jF:=@List.ext_getElem?
abbrev kX:=@List.flatten_cons
abbrev oQ:=@Array.getElem?_eq_some_iff
abbrev uI:=@Int.tdiv_eq_ediv_of_nonneg
abbrev tj:=@Int.fdiv_eq_ediv_of_nonneg
abbrev dp:=@List.mem_append
abbrev kB:=@List.take_length
abbrev cC:=@decide_eq_true_eq
abbrev fg:=@decide_eq_false_iff_not
abbrev qI:=@Option.isSome_iff_exists
abbrev iI:=@Int.toNat_natCast
abbrev lO:=@List.length_set
abbrev uA:=@List.getElem?_set_self
abbrev iS:=@List.getElem?_set
abbrev ak:=@Nat.le_refl
abbrev gK:=@Nat.lt_of_lt_of_le
abbrev iT:=@List.not_mem_nil
abbrev eF:=@Nat.zero_add
abbrev wG:=@List.filter_append
abbrev fF:=@Bool.and_eq_true
abbrev JO:=@List.take_zero
abbrev cV:=@Nat.le_trans
abbrev Kh:=@List.getElem?_cons_succ
abbrev are:=@List.getElem?_cons_zero
abbrev oV:=@List.append_nil
abbrev Pz:=@List.nil_append
abbrev Hl:=@List.length_replicate
abbrev Ao:=@List.getElem?_replicate
abbrev Pd:=@List.mem_replicate
abbrev Gx:=@List.length_range
abbrev RX:=@BitVec.getLsbD_and
abbrev RY:=@BitVec.getLsbD_shiftLeft
abbrev zL:=@BitVec.toNat_and
abbrev zg:=@BitVec.toNat_ofInt
abbrev C9:=@Bool.false_and
abbrev oU:=@Bool.true_and
abbrev jI:=@Int.le_refl
abbrev wO:=@Int.lt_or_le
abbrev JX:=@Int.mul_nonneg
abbrev FP:=@Int.tmod_eq_emod_of_nonneg
abbrev JK:=@List.all_eq_true
abbrev zV:=@List.drop_eq_getElem_cons
abbrev wH:=@List.drop_of_length_le
abbrev CV:=@List.eq_nil_of_length_eq_zero
abbrev W9:=@List.eraseIdx_eq_take_drop_succ
abbrev GA:=@List.eraseIdx_sublist
abbrev CU:=@List.filter_cons
abbrev W7:=@List.filter_cons_of_neg
abbrev W6:=@List.filter_cons_of_pos
abbrev Ph:=@List.filter_eq_self
abbrev QC:=@List.find?_eq_none
abbrev zm:=@List.flatten_append
abbrev og:=@List.foldl_append
abbrev qY:=@List.foldl_cons
abbrev yZ:=@List.getElem?_drop
abbrev CR:=@List.getElem?_modify
abbrev yY:=@List.getElem?_of_mem
abbrev Fq:=@List.getElem?_range
abbrev GO:=@List.getElem?_set_ne
abbrev qM:=@List.getElem?_take
abbrev wU:=@List.length_drop
abbrev ur:=@List.length_eq_zero_iff
abbrev zy:=@List.length_filter_le
abbrev mV:=@List.length_nil
abbrev CP:=@List.map_congr_left
abbrev pR:=@List.map_map
abbrev pM:=@List.map_set
abbrev Ha:=@List.mem_append_left
abbrev Dc:=@List.mem_append_right
abbrev qQ:=@List.mem_cons_of_mem
abbrev jY:=@List.mem_filter
abbrev JT:=@List.mem_iff_getElem?
abbrev G6:=@List.mem_of_find?_eq_some
abbrev zo:=@List.mem_of_mem_drop
abbrev nZ:=@List.mem_of_mem_take
abbrev qc:=@List.mem_range
abbrev ig:=@List.mem_singleton
abbrev GW:=@List.nodup_append
abbrev uv:=@List.nodup_cons
abbrev Ki:=@List.range_succ
abbrev akR:=@List.set_cons_succ
abbrev Ks:=@List.takeWhile_append_dropWhile
abbrev td:=@List.take_append_drop
abbrev AO:=@List.take_append_of_le_length
abbrev FI:=@List.take_left'
abbrev CO:=@Nat.add_comm
abbrev pP:=@Nat.add_mul
abbrev Fp:=@Nat.eq_zero_or_pos
abbrev lN:=@Nat.le_succ
abbrev CY:=@Nat.lt_irrefl
abbrev RL:=@Nat.lt_of_le_of_lt
abbrev C6:=@Nat.lt_of_not_le
abbrev iR:=@Nat.lt_or_ge
abbrev tf:=@Nat.mul_le_mul_right
abbrev zp:=@Nat.mul_one
abbrev O8:=@Nat.succ_mul
abbrev eG:=@Nat.zero_le
abbrev J6:=@Option.join_eq_some_iff
abbrev wM:=@Option.map_eq_some_iff
abbrev mT:=@Option.map_some
def m_{p:Prop}(h:p:=by simp;omega):p:=h
def ds{p q:Prop}(h:p)(k:p->q:=by intro h;simpa using h):q:=k h
def hX{p:Prop}(h:p:=by simp only;omega):p:=h
def Pl{p:Prop}(h:p:=by have⟨i,hi⟩:=qA ha;obtain⟨x,-,hr⟩:=h3.s i a hi;exact h2.pX hr kM.2.1.1 kM.2.1.2.1 kM.2.1.2.2.1 kM.2.1.2.2.2.1 kM.2.1.2.2.2.2.1 kM.2.1.2.2.2.2.2.1 kM.2.1.2.2.2.2.2.2):p:=h
def XN{p:Prop}(h:p:=by unfold cH;omega):p:=h
def a00{p:Prop}(h:p:=by rename_i e;subst e;rw[if_pos (by rw[aK];exact OW),aW,hi];rfl):p:=h
def a01{p:Prop}(h:p:=by unfold IntKind.wrap;simp only[IntKind.bits,IntKind.signed];simp only[oU];split<;>simp_all<;>omega):p:=h
def a02{p:Prop}(h:p:=by subst q;have⟨i,hi⟩:=qA ha;obtain⟨x,-,hr⟩:=jm.s i a hi;exact de.ne hr kM.2.2 rfl):p:=h
def a03{p:Prop}(h:p:=by apply yy;intro i hi;simp only[BitVec.getLsbD_xor,RY,BitVec.getLsbD_ushiftRight,RX];rcases abz hi with rfl|rfl|rfl|rfl|rfl|rfl|rfl|rfl|rfl|rfl|rfl|rfl|rfl|rfl|rfl|rfl<;>simp):p:=h
def a04{p:Prop}(h:p:=by simp at hj;subst hj;rfl):p:=h
def a05{p:Prop}(h:p:=by rw[setRow_size];exact ak _):p:=h
def a06{p:Prop}(h:p:=by rw[<-hok.D k kb h1 h2];exact Below.heap_alloc _ _ _ (hok.lt k kb h1 h2)):p:=h
def a07{p:Prop}(h:p:=by intro u hu; simp at hu; rcases hu with rfl | rfl | rfl | rfl | rfl | rfl | rfl | rfl | rfl | rfl | rfl | rfl | rfl | rfl | rfl | rfl <;> rfl):p:=h
def a08{p:Prop}(h:p:=by unfold IntKind.wrap;simp only[IntKind.bits,IntKind.signed];simp;omega):p:=h
def a09{p:Prop}(h:p:=by have h1:=rR L (bh L);have h2:=uy L;have h3:=Lz (M.q.l.take 2000);rw[cS]at h3;unfold dy fZ ij;rw[cj,cj,cj,cj,h3,uz];simp only[cL,mV];omega):p:=h
def a0a{p:Prop}(h:p:=by have:=h t (List.mem_cons_self ..);have e:=jQ t;unfold bl at e;omega):p:=h
def a0b{p:Prop}(h:p:=by intro v hv;simp only[tS,cu,iT,or_false]at hv;rcases hv with rfl|rfl|rfl|rfl|rfl|rfl|rfl|rfl|rfl|rfl|rfl|rfl|rfl|rfl|rfl|rfl<;>rfl):p:=h
def a0c{p:Prop}(h:p:=by rw[wI j_];omega):p:=h
def a0d{p:Prop}(h:p:=by simp at h;omega):p:=h
def a0e{p:Prop}(h:p:=by unfold cg;omega):p:=h
def a0f{p:Prop}(h:p:=by first|rfl|trivial):p:=h
def a0g{p:Prop}(h:p:=by simp at hr;rcases hr with rfl|rfl<;>rfl):p:=h
def a0h{p:Prop}(h:p:=by have:=h.lt q;omega):p:=h
def a0i{p:Prop}(h:p:=by rw[e0];exact Ext.al _ _):p:=h
def a0j{p:Prop}(h:p:=by have:=OM g hg;omega):p:=h
def a0k{p:Prop}(h:p:=by rw[Ol,ByteArray.size_append,e1];omega):p:=h
def a0l{p:Prop}(h:p:=by intro v hv;simp at hv;rcases hv with rfl|rfl|rfl<;>rfl):p:=h
def a0m{p:Prop}(h:p:=by have e:=congrArg bl (join_one tx);have e:Lib.join ([tx].map (·.data.toList)) [32]=bl tx:=e;rw[e,jQ];omega):p:=h
def a0n{p:Prop}(h:p:=by split<;>split<;>omega):p:=h
def a0o{p:Prop}(h:p:=by have:=h.lt hf;omega):p:=h
def a0p{p:Prop}(h:p:=by unfold er;simp only;omega):p:=h
def a0q{p:Prop}(h:p:=by intro v hv;simp at hv;subst hv;rfl):p:=h
def a0r{p:Prop}(h:p:=by show(0:Int)<=1099511627776;decide):p:=h
def a0s{p:Prop}(h:p:=by simpa[bM]using e):p:=h
def a0t{p:Prop}(h:p:=by rw[(ho.rd X).n,aK]):p:=h
def a0u{p:Prop}(h:p:=by show w0.heap.size=_;rw[e0];simp):p:=h
def a0v{p:Prop}(h:p:=by have:(cU c).length=4:=rfl;omega):p:=h
def a0w{p:Prop}(h:p:=by have⟨a',e1,e2⟩:=hw j hj;simp only[N,mT,Option.some.injEq]at e1;subst e1;simpa using e2):p:=h
def a0x{p:Prop}(h:p:=by rcases abz hk with rfl|rfl|rfl|rfl|rfl|rfl|rfl|rfl|rfl|rfl|rfl|rfl|rfl|rfl|rfl|rfl<;>rfl):p:=h
def a0y{p:Prop}(h:p:=by rw[hb];exact congrArg some hf):p:=h
def a0z{p:Prop}(h:p:=by obtain⟨rfl,rfl⟩:=dW h;trivial):p:=h
def a0A{p:Prop}(h:p:=by rintro t' u u' ⟨rfl,hz,occ',F',hS,hn,hI'⟩ hm;exact⟨rfl,hz,occ',F',hS.put hn U (ak _) hm,hn,hI'⟩):p:=h
def a0B{p:Prop}(h:p:=by exact⟨ho [45] X,by rw[n2 (of_decide_eq_true a) (of_decide_eq_true b) (of_decide_eq_true d)],x0⟩):p:=h
def a0C{p:Prop}(h:p:=by intro;kernel_rfl):p:=h
def a0D{p:Prop}(h:p:=by rw[A8];exact Row.set (by rw[vv];exact Row.new w3 [_,_,_,_,_,_] _) [_,_,_,_,_,_]):p:=h
def a0E{p:Prop}(h:p:=by have:=h2 j u hj;simpa[ld,N]using this):p:=h
def a0F{p:Prop}(h:p:=by have:=gm.size;omega):p:=h
def a0G{p:Prop}(h:p:=by simp[Region.wanted,hg,hy]):p:=h
def a0H{p:Prop}(h:p:=by rw[e65,e64];rfl):p:=h
def a0I{p:Prop}(h:p:=by rw[aK];exact OW):p:=h
def a0J{p:Prop}(h:p:=by rw[<-n1 (of_decide_eq_true a) (of_decide_eq_true b) (of_decide_eq_false d)]):p:=h
def a0K{p:Prop}(h:p:=by rw[zg];simp only[show((2^64:Nat):Int)=18446744073709551616 from rfl];omega):p:=h
def a0L{p:Prop}(h:p:=by rw[n2 (of_decide_eq_true a) (of_decide_eq_true b) (of_decide_eq_true d)]):p:=h
def a0M{p:Prop}(h:p:=by rw[bQ (fN _)];simp;omega):p:=h
def a0N{p:Prop}(h:p:=by rw[<-Act.put_comm a v u h2];exact he):p:=h
def a0O{p:Prop}(h:p:=by rw[zL];exact RL Nat.and_le_right X):p:=h
def a0P{p:Prop}(h:p:=by cases op<;>rfl):p:=h
def a0Q{p:Prop}(h:p:=by simp at hu;subst hu;rfl):p:=h
def a0R{p:Prop}(h:p:=by simpa[AF]using hv):p:=h
def a0S{p:Prop}(h:p:=by rw[e76,setRow_other _ _ _ _ U,e75,setRow_other _ _ _ _ U];exact WB):p:=h
def a0T{p:Prop}(h:p:=by have:=agI.at Yu (j:=0) (v:=pA (some b)) rfl;rw[gk]at this;exact this):p:=h
def a0U{p:Prop}(h:p:=by exact .inl (.inl hi)):p:=h
def a0V{p:Prop}(h:p:=by exact .inl (.inr (.inr (.inr (.inr (.inl e)))))):p:=h
def a0W{p:Prop}(h:p:=by rw[aF];exact de.y λj hj=>by rw[show 0+1+j=j+1 from by omega,Kh]):p:=h
def a0X{p:Prop}(h:p:=by have:=of_decide_eq_true c1;omega):p:=h
def a0Y{p:Prop}(h:p:=by exact .inl (.inr (.inr (.inl e)))):p:=h
def a0Z{p:Prop}(h:p:=by rw[ov];exact⟨ak _,λ_=>rfl⟩):p:=h
def a10{p:Prop}(h:p:=by rintro e w' ⟨t',rfl,rfl,hz,occ',F',hS,-,hI'⟩;exact⟨rfl,hz,LS.Kt hS hI'⟩):p:=h
def a16{p:Prop}(h:p:=by rw[cL,mV];omega):p:=h
def a18{p:Prop}(h:p:=by rw[Ol,e1];omega):p:=h
def a19{p:Prop}(h:p:=by rw[e65,setRow_other _ _ _ _ h2,e64,setRow_other _ _ _ _ h1]):p:=h
def a1a{p:Prop}(h:p:=by exact h.mono (ak _) (lN _)):p:=h
def a1b{p:Prop}(h:p:=by rw[e2];exact Row.new w1 [_] _):p:=h
def a1c{p:Prop}(h:p:=by intro v hv;simp at hv;rcases hv with rfl|rfl|rfl|rfl<;>rfl):p:=h
def a1d{p:Prop}(h:p:=by have:=Option.some.inj q;omega):p:=h
def a1e{p:Prop}(h:p:=by simp[bl,ByteArray.data_extract,List.extract_eq_take_drop]):p:=h
def a1f{p:Prop}(h:p:=by simp only[cL];omega):p:=h
def a1g{p:Prop}(h:p:=by rw[Ao]at q;split at q<;>cases q):p:=h
def a1h{p:Prop}(h:p:=by have⟨cs',hr'⟩:=aT hy.k.own X hb;exact hr'.ne hy.r X):p:=h
def a1i{p:Prop}(h:p:=by have⟨cs',hr'⟩:=aT Bc.k.own X hb;exact hr'.ne Bc.r X):p:=h
def a1j{p:Prop}(h:p:=by have:=h8 a ha;omega):p:=h
def a1k{p:Prop}(h:p:=by have:=Yt.size;omega):p:=h
def a1l{p:Prop}(h:p:=by simpa using hj):p:=h
def a1m{p:Prop}(h:p:=by have⟨cs',hr'⟩:=aT h.ol X e;exact hr'.ne h.rt X rfl):p:=h
def a1n{p:Prop}(h:p:=by have⟨cs',hr'⟩:=aT h4 X hb;exact h3.dR hr' X X X):p:=h
def a1o{p:Prop}(h:p:=by show q.lost<=q.lost+1;omega):p:=h
def a1p{p:Prop}(h:p:=by rw[hb]at c;cases c):p:=h
def a1q{p:Prop}(h:p:=by intro u hu;simp at hu;rcases hu with rfl|rfl|rfl<;>rfl):p:=h
def a1r{p:Prop}(h:p:=by rcases hi with h|h<;>omega):p:=h
def a1s{p:Prop}(h:p:=by intro q hq;obtain⟨c,_,rfl⟩:=bc.1 hq;exact wE _ _):p:=h
def a1t{p:Prop}(h:p:=by have:=h.n;simpa using this):p:=h
def a1u{p:Prop}(h:p:=by rw[pC];simp;omega):p:=h
def a1v{p:Prop}(h:p:=by have g2:=of_decide_eq_true g2;simp only[iI]at g2;exact bad hv (k4 U)):p:=h
def a1w{p:Prop}(h:p:=by show _<u3.heap.size;omega):p:=h
def a1x{p:Prop}(h:p:=by rw[e];exact Row.new _ _ _):p:=h
def a1y{p:Prop}(h:p:=by intro v hv;simp at hv;rcases hv with rfl|rfl<;>rfl):p:=h
def a1z{p:Prop}(h:p:=by have hz:=eK hb;rw[if_pos hz];exact⟨rfl,r,sl,its,h1,rfl,aJ.P lq⟩):p:=h
def a1A{p:Prop}(h:p:=by rw[BitVec.toNat_shiftLeft,Nat.shiftLeft_eq];omega):p:=h
def a1B{p:Prop}(h:p:=by have⟨cs',hr'⟩:=aT ho X hb;exact hr'.ne hr X):p:=h
def a1C{p:Prop}(h:p:=by have⟨F2,h2,t2⟩:=k;exact⟨F2,h2,h.trans t2⟩):p:=h
def a1D{p:Prop}(h:p:=by have⟨D,h1,h2⟩:=h;exact h2 w (λ_ _=>rfl) c hc):p:=h
def a1E{p:Prop}(h:p:=by unfold St.act;rw[Wa];rfl):p:=h
def a1F{p:Prop}(h:p:=by subst hb;exact h):p:=h
def a1G{p:Prop}(h:p:=by rw[hQ]at h;obtain⟨F,hJ,-⟩:=h;exact⟨F,hJ⟩):p:=h
def a1H{p:Prop}(h:p:=by rw[aF,aF,hr.ld];rcases ha with rfl|rfl|rfl<;>rfl):p:=h
def a1I{p:Prop}(h:p:=by have:=vh hue;cases hq:P.underlying e<;>simp_all):p:=h
def a1J{p:Prop}(h:p:=by unfold H.D;rw[ha];rfl):p:=h
def a1K{p:Prop}(h:p:=by rw[if_neg U]at heq;exact⟨by rw[<-heq],by first|rfl|trivial⟩):p:=h
def a1L{p:Prop}(h:p:=by rw[e3];exact Ext.al _ _):p:=h
def a1M{p:Prop}(h:p:=by have:=hD1 i hi;have:=Yt.size;exact(hM.same i U U).trans (Yt.k)):p:=h
def a1N{p q:Prop}(h:q)(k:q->p:=by intro;omega):p:=k h
abbrev aa:=List ByteArray
abbrev ab:=List Int
abbrev ae:=Array Go.Value
abbrev af:=List Go.Value
abbrev ai:=Option Go.Addr
abbrev aq:=ByteArray
abbrev au:=Go.World
abbrev aB:=Go.TypeId
abbrev aC:=Go.Value
abbrev aX:=Bool
abbrev bf:=List Nat
abbrev bH:=Go.FuncId
