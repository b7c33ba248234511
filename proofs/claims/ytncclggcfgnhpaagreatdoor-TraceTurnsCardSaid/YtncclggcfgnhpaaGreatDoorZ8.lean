import Derived.Shelf.Spec.SlicesInsert
import Derived.Test.YtncclggcfgnhpaaGreatDoorZ7
namespace Go.Proofs.YtncclggcfgnhpaaGreatDoor
set_option maxRecDepth 100000
set_option maxHeartbeats 8000000
set_option linter.all false
open Go.Proofs.Tryz
open _root_.Array renaming replicate_succ->bG,replicate_zero->bH,size_append->lM,getElem?_eq_getElem->nI,getElem?_toList->D4
open _root_.Bool renaming true->ι,false->ν,and_eq_true->aI
open _root_.Go renaming World->η,Value->χ,Calls->aE,Addr->bW,TypeId->cS,heap_setCell_other->dG,below_drewN->dO,results->gP,run_takeDeferred->iD,info_parts->jJ,wpAnyIn_done->mL,ownFrom_below->qO,maxLen->yE,size_zeroCells->Bj,Ending->Fg,cell_of_row->Ij,run_copy_cells->JD,frozen_of_row->Mn
open Go.Act renaming put->oQ,eval->Ye
open Go.Addr renaming add_lit->qP
open Go.AllReadyIn renaming nil->dW
open Go.Builtin renaming copy_->Gg,zeroCells->ee
open Go.Calls renaming mono->uN
open Go.Ending renaming returned->σ
open Go.Extern.SlicesOverlaps renaming overlaps->ow
open Go.Fence renaming wide->eD
open Go.IntKind renaming i64->Ξ
open Go.IntWalk renaming i64_in->aM
open Go.KeepsOthers renaming setCell->dA
open Go.Obj renaming cells->π
open Go.Oper renaming semAt_some->eQ
open Go.OwnFrom renaming and->eJ
open Go.Proofs renaming enters_of->iC
open Go.Proofs.Tryz renaming prog->γ,underlying68->jL,isAgg37->vT,results17->Gf,isAgg28->KY,ntmps156->Uq,func156->Yg
open Go.RowKit renaming intOf->ξ,Hid->aQ
open Go.RowKit.Below renaming refl->μ
open Go.Value renaming string->Δ,slice->Θ,int->Υ,bool->ω,pointer->aB,agg->bQ,tuple->bT,ownBlock->iQ
open Go.World renaming block_lt_of_cell?->aD,size_alloc->aL,size_setCell->pM,cell?_of_block->Gc,ownsRow->Il,cell?_setCells_out->Sz
open Go.World.grownBy renaming trans->OW
open Go.World.ownsRow renaming cellAt->dN
open _root_.Inhabited renaming default->Γ
open _root_.Int renaming toNat_natCast->gG
open _root_.List renaming getD_eq_getElem?_getD->Ω,length_map->υ,length_cons->aC,length_append->aJ,getElem?_eq_getElem->aS,getElem?_cons_zero->aU,length_nil->bB,getElem?_toArray->bC,size_toArray->bI,take_succ_eq_append_getElem->bM,cons_append->bV,append_toArray->bN,push_toArray->cE,nil_append->cM,getElem?_cons_succ->cO,set_cons_succ->cR,length_drop->dJ,mem_singleton->dE,length_take->dR,take_of_length_le->eA,map_append->dV,getElem?_append_right->fA,getElem_of_mem->fC,getElem_mem->fJ,mem_append->iV,getD_cons_succ->jS,mem_cons->jT,getElem?_take->kP,getElem?_append_left->nQ,getElem?_eq_none->nW,getElem?_drop->pO,pairwise_cons->pY,pairwise_iff_getElem->Cz,mem_of_mem_drop->Gd,take_append_drop->yK,getElem_drop->Lb,length->Jr,getD_cons_zero->oe
open _root_.List.Pairwise renaming nil->Fm
open _root_.Nat renaming le_refl->θ,le_trans->aA,zero_le->aP,mod_lt->aV,zero_add->bD,reduceAdd->cL,reduceSub->dF,lt_or_ge->fO,add_zero->jN,le_of_eq->qU,not_lt_zero->vJ,sub_self->CI,min_def->OX,mul_one->oh
open _root_.Option renaming none->δ,some->ζ,getD_some->bK
open _root_.Option.some renaming injEq->vF
variable{P:Program}{fn:Func}{w W W':η}{a:Option bW}{nf ca i g off e cap t B j k N r t2:Nat}{X Y:ByteArray}{p:bW}{row:Option Nat}{fs:List Fr}{at' xs:List (List UInt8)}{ps:List Pt}{s:Sg}{α β:Type}{T:cS}{c cs:Array χ}{L:List (Nat×Nat)}{v':χ}{aZ:List Lp}{S:WL}
section
open Go Go.RowKit Go.Shelf Go.Lib
section
attribute[local go_sem] eQ
structure aP2(a:Option bW)(nf ca:Nat)(fs:List Fr)(x y:List UInt8)(w:η):Prop where
 seq:∀W Bf,Bw w W->bE W Bf #[Θ a nf ca] 27->ah1 eD 8 γ 86 #[aB (ζ ⟨Bf,0,δ⟩)] (fun z:Rat=>#[Δ (bs (aO z))]) (fun _ z=>DO z/\evZ fs z) (fun k=>∀z,evZ fs z->z∈k) (jO w.heap.size) W
 lo:∀z,DO z->∀W,Bw w W->aE γ 37 #[Δ (bs x),Δ (bs (aO z))] W fun e w'=>(∃c:Int,e=σ (Υ Ξ c)/\(c<0↔bZ x<z))/\Bw W w'
 hi:∀z,DO z->∀W,Bw w W->aE γ 37 #[Δ (bs (aO z)),Δ (bs y)] W fun e w'=>(∃c:Int,e=σ (Υ Ξ c)/\(c<0↔z<bZ y))/\Bw W w'
theorem xf(a b):mT a b<0↔a<b:=by
 unfold mT;by_cases h:a<b
 .simp[h]
 .by_cases k:b<a<;>simp[h,k]
theorem kn{x y:List UInt8}(hx:Sm x)(hy:Sm y):(fQ x y).1<0↔bZ x<bZ y:=by rw[hx.cmp hy];exact xf _ _
theorem bi1(a nf ca fs x y w)(hE:mV w)(hf:fs.length=nf)(Vj:nf<=24)(Kf:nf<=ca)(hOk:∀f∈fs,f.Ok)(hx:Lz x)(hy:Lz y)(rf:yA w a fs):aP2 a nf ca fs x y w:={
 seq W Bf hW hb:=aS3 ah3 Bf w.heap.size a nf ca fs hf Vj hOk W hW.size hb.lt (fun V hV=>hE.below (hW.trans hV)) (fun V hV=>rf.below (hW.trans hV)) Kf hb
 lo z hz W hW:=by
  refine(nK x (aO z) W (hE.below hW) hx.sm (Lz.of hz).sm).mono ?_;rintro e w'⟨rfl,hb⟩;exact⟨⟨_,rfl,by rw[kn hx.sm (Lz.of hz).sm,iI]⟩,hb⟩
 hi z hz W hW:=by
  refine(nK (aO z) y W (hE.below hW) (Lz.of hz).sm hy.sm).mono ?_;rintro e w'⟨rfl,hb⟩;exact⟨⟨_,rfl,by rw[kn (Lz.of hz).sm hy.sm,iI]⟩,hb⟩}
theorem xg{F:Fence}{n:Nat}{R:Fg->η->Prop}{a:Act}{v:χ}(h:(gP fn a.tmps).run P w=.ok v w)(hd:a.defers=[])(hR:R (σ v) w):bodyPostM F n P fn R .ret a w:=by
 show LeavesInM _ _ _ _ _ _ _ _ _;rw[hd];exact⟨v,h,hR⟩
theorem WZ{k:List Rat}{z lo hi:Rat}(h:∀t∈k,¬(lo<t/\t<hi))(hz:¬(lo<z/\z<hi)):∀t∈k++[z],¬(lo<t/\t<hi):=fun t ht=>by
 rcases List.mem_append.1 ht with h'|h'
 .exact h t h'
 .rw[List.mem_singleton.1 h'];exact hz
theorem Cn.other{hs:Nat}(h:Cn hs a nf ca X Y W)(v)(hp:hs+1+1+1+1<p.block):Cn hs a nf ca X Y (W.setCell p v):=
 ⟨h.1.other v oM,h.2.1.other v oM,h.2.2.1.other v oM,h.2.2.2.1.other v oM,h.2.2.2.2.other v oM⟩
theorem RQ{zs:List (List UInt8)}{T:Nat}{a1 a2:Option bW}{n1 c1 n2 c2:Nat}{T':cS}(h:Al W a zs)(q:bE W T #[Θ a1 n1 c1,Θ a2 n2 c2] T')(j v):Al (W.setCell ⟨T,j,δ⟩ v) a zs:=by
 intro i hi;obtain⟨b,off,e,hc⟩:=h i hi;refine⟨b,off,e,?_⟩;by_cases hb:b=T
 .subst hb;rw[q.cell (off+i)]at hc;rcases fO (off+i) 2 with hl|hl
  .match hk:off+i,hl with
   |0,_=>rw[hk]at hc;cases hc
   |1,_=>rw[hk]at hc;cases hc
  .rw[Array.getElem?_eq_none (by simpa using hl)]at hc;cases hc
 .rw[Gc (dG W ⟨T,j,δ⟩ b v hb)];exact hc
theorem Cn.own{hs:Nat}(h:Cn hs a nf ca X Y W)(hg:W.grownBy W' row)(hr:∀r,row=ζ r->∃o:Obj,W.heap[r]? =ζ o/\o.isCells=ν):Cn hs a nf ca X Y W':=
 ⟨h.1.own hg hr,h.2.1.own hg hr,h.2.2.1.own hg hr,h.2.2.2.1.own hg hr,h.2.2.2.2.own hg hr⟩
theorem Ot:∀(ps:List Pt)(i:Nat)(t:List UInt8),i<ps.length->(cJ ps).set (i*3+2) (Δ (bs t))=cJ (ps.set i {ps.getD i Γ with en:=t})
 |[],i,t,h=>by simp at h
 |q::qs,0,t,_=>rfl
 |q::qs,i+1,t,h=>by
  have ih:=Ot qs i t (by simpa using h)
  have e:cJ (q::qs)=Υ Ξ q.side::Δ (bs q.fr)::Δ (bs q.en)::cJ qs:=rfl
  rw[show(i+1)*3+2=(i*3+2)+1+1+1 by omega,e]
  simp only[cR,jS]
  rw[ih];rfl
theorem Ou:∀(ps:List Pt)(i:Nat)(t:List UInt8),i<ps.length->(cJ ps).set (i*3+1) (Δ (bs t))=cJ (ps.set i {ps.getD i Γ with fr:=t})
 |[],i,t,h=>by simp at h
 |q::qs,0,t,_=>rfl
 |q::qs,i+1,t,h=>by
  have ih:=Ou qs i t (by simpa using h)
  have e:cJ (q::qs)=Υ Ξ q.side::Δ (bs q.fr)::Δ (bs q.en)::cJ qs:=rfl
  rw[show(i+1)*3+1=(i*3+1)+1+1+1 by omega,e]
  simp only[cR,jS]
  rw[ih];rfl
theorem RT(h2:2<=ps.length)(i)(hi:i<=ps.length)(k)(hk:k<ps.length):((GR fs at' ps i).getD k Γ).side=(ps.getD k Γ).side:=by rw[Tl h2 i hi k hk]
theorem Xa{q:Nat}(h2:2<=ps.length)(hi:i<ps.length)(hq:(i+1)%ps.length=q)(hu:yG fs (ps.getD i Γ)≠yG fs (ps.getD q Γ)):
 ((cJ ps).set (i*3+2) (Δ (bs (at'.getD (ps.getD q Γ).side.toNat [])))).set (q*3+1) (Δ (bs (at'.getD (ps.getD i Γ).side.toNat [])))=cJ (Gu fs at' ps i):=by
 have hql:q<ps.length:=by rw[<-hq];exact aV _ oM
 rw[Ot _ _ _ hi,Ou _ _ _ (by simpa using hql)];unfold Gu;rw[hq,iN hu]
theorem aq{q:Nat}(hq:(i+1)%ps.length=q)(hu:yG fs (ps.getD i Γ)=yG fs (ps.getD q Γ)):Gu fs at' ps i=ps:=by
 unfold Gu;rw[hq,ip hu]
theorem aW5{b:Bool}(h:W.frozen? p=b):W.drew.frozen? p=b:=h
theorem aW6{q:bW}{b:Bool}{v:χ}(h:W.frozen? p=b):(W.setCell q v).frozen? p=b:=by rw[World.frozen?_setCell];exact h
theorem aW7(h:g<W.heap.size):g<W.drew.heap.size:=h
theorem aW8{q:bW}{v:χ}(h:g<W.heap.size):g<(W.setCell q v).heap.size:=by rw[pM];exact h
theorem bi2{q:bW}{v u:χ}(hne:p≠q)(h:W.cell? p=ζ v):(W.setCell q u).cell? p=ζ v:=(World.cell?_setCell_other _ _ _ _ (Ne.symm hne)).trans h
theorem yA.up{b:Nat}{s:Nat}(h:yA w (ζ ⟨b,off,δ⟩) fs)(hs:s<fs.length):w.cell? ⟨b,off+s*5,δ⟩=ζ (ω (fs.getD s Γ).up):=by
 obtain⟨b',o',e,c,-⟩:=h.at hs rfl;injection e with e;injection e with e1 e2;subst e1 e2;exact c
theorem Al.get{b:Nat}{s:Nat}(h:Al w (ζ ⟨b,off,δ⟩) xs)(hs:s<xs.length):w.cell? ⟨b,off+s,δ⟩=ζ (Δ (bs (xs.getD s []))):=by
 obtain⟨b',o',e,c⟩:=h s hs;injection e with e;injection e with e1 e2;subst e1 e2;exact c
structure aP3(a b:Option bW)(nf n ca cb:Nat)(fs:List Fr)(ls:List Lp)(x y:List UInt8)(w:η):Prop where
 tracer1:∀W g,Bw w W->bE W g #[Δ (bs y)] 29->aE γ 25 #[Θ a nf ca,Θ b n cb,Θ (ζ ⟨g,0,δ⟩) 1 1] W fun e w'=>(∃a3 c3,e=σ (bT #[bQ #[Θ a nf ca,Θ a3 nf c3],Υ Ξ 0])/\Al w' a3 (dL fs y))/\Bw W w'
 rf:∀W,Bw w W->yA W a fs
 rl:∀W,Bw w W->CE W b ls
 flen:fs.length=nf
 len:ls.length=n
 alen:(dL fs y).length=nf
 nn:n<=24
 size:∀i,i<n->4<=(ls.getD i Γ).ps.length/\(ls.getD i Γ).ps.length<=96
 side:∀i,i<n->∀j,j<(ls.getD i Γ).ps.length->∃s:Nat,((ls.getD i Γ).ps.getD j Γ).side=s/\s<nf
theorem au(a b nf n ca cb fs ls x y w)(H : aP0 a b nf n ca cb fs ls x y w)(He : aP2 a nf ca fs x y w)(Hf : aP3 a b nf n ca cb fs ls x y w)(Hh : aP1 a nf n ca fs (bv8 fs (dL fs y) ls) w)(hx : Sm x)(hy : Sm y):
 aE γ 17 #[Θ a nf ca,Θ b n cb,Δ (bs x),Δ (bs y)] w (Zt w (oJ fs ls x y) (nN fs ls x y)):=by
 have RX:aQ (∀ c,nN fs ls x y=c -> c ≠ 0 -> ∀ W,Bw w W -> Zt w (oJ fs ls x y) (nN fs ls x y) (σ (bT #[Θ δ 0 0,Υ Ξ c])) W):=fun c hc qp W hB =>
  ⟨⟨δ,0,[],by rw [Oa (by rw [hc]; exact qp),hc]; rfl,by rw [Oa (by rw [hc]; exact qp)]; rfl,fun i hi=>absurd hi sP⟩,hB⟩
 have HX2:aQ ((0 < (fQ x y).1) -> ∀ W,Bw w W -> Zt w (oJ fs ls x y) (nN fs ls x y) (σ (bT #[Θ δ 0 0,Υ Ξ 2])) W):=fun k=>RX.o 2 (ip (.inl ((WX hx hy).1 k))) dD
 have HX3:aQ (Zq fs x y -> ∀ W,Bw w W -> Zt w (oJ fs ls x y) (nN fs ls x y) (σ (bT #[Θ δ 0 0,Υ Ξ 2])) W):=fun k=>RX.o 2 (ip (.inr k)) dD
 have HX5:aQ (¬ (0 < (fQ x y).1) -> ¬ Zq fs x y -> nN fs ls x y=if ((bv8 fs (dL fs y) ls).flatten.any (BX fs))=ι then 2 else 0):=fun k n=>iN fun h=>h.elim (fun q=>k ((WX hx hy).2 q)) n
 have QL:aQ (nN fs ls x y=0 -> oJ fs ls x y=bv8 fs (dL fs y) ls):=uv
 have HRX:=RX
 have HMc:=zq Hh
 obtain ⟨W0,fI,Gw,fL⟩:=Cn.new a nf ca (bs x) (bs y) w
 have HC:=zq (H.tracer2 (W0.alloc (π #[Δ (bs x),Δ (bs y)] 29)) W0.heap.size (fL.alloc fL.size _) (bE.new W0 _ _))
 have Kb:=zq H.all
 have ap9:=zq H.cmp
 have aF8:=zq He.seq
 have Zf:=zq He.lo
 have HHi:=zq He.hi
 have Ln:=zq (Gw.alloc (π #[Δ (bs x),Δ (bs y)] 29))
 have gH:=zq (fL.alloc fL.size (π #[Δ (bs x),Δ (bs y)] 29))
 have Bx:=zq Gw
 have Zc:=zq Hf.tracer1
 have HRf:=zq Hf.rf
 have HRl:=zq Hf.rl
 have Ov:=zq Hf.flen
 have HLl:=zq Hf.len
 have HAl:=zq Hf.alen
 have HNn:=zq Hf.nn
 have HSz:=zq Hf.size
 have ko:=zq Hf.side
 clear H He Hf Hh RX Gw fL
 unfold qw at HC
 have e0:[x,y].getD 0 []=x:=rfl
 rw [e0] at HC
 clear e0
 generalize oJ fs ls x y=PV at *
 generalize nN fs ls x y=PE at *
 have br2:aQ ((0:Int) < (fQ x y).1 ↔ (0:Int) < (fQ x y).1):=Iff.rfl
 generalize (fQ x y).1=cq at *
 have Hat:aQ (dL fs x=dL fs x):=rfl
 generalize dL fs x=ax at *
 obtain ⟨KJ,hty⟩:=nm (dL fs y)
 rw [hty] at Zc HAl HX5 QL HMc
 have Hty:=zq hty
 clear hty
 clear br2 Hat hx hy
 generalize hX:bs x=X at *
 generalize hY:bs y=Y at *
 refine eE func17 rfl ?_
 simp only [ntmps17,bI,aC,bB,cL,dF,bG,bH,cE,bN,cM,bV]
 go_upto_region 1 with (fail)
 try rw [fI]
 have b4:=Bx.o.1.ce 0
 have b6:=Bx.o.2.1.ce 0
 have b7:=Bx.o.2.2.1.ce 0
 have l4:=Bx.o.1.lt
 have l6:=Bx.o.2.1.lt
 have l7:=Bx.o.2.2.1.lt
 clear fI
 go_wp2_with fail
 refine HC.o.mono ?_
 rintro e W1 ⟨⟨a2,n2,c2,rfl,hk⟩,hb1⟩
 obtain ⟨e4,hr⟩:=hk (by first | exact trivial | simp)
 have e4:=e4.symm; subst e4
 have eG:=gH.bS hb1
 have xh:=zq (Ln.o.below hb1)
 have Hra:=zq hr
 clear hb1 b4 b6 b7 l4 l6 l7 hr hk HC Ln gH Bx
 go_upto_region 2 with (fail)
 obtain ⟨W2,TH⟩:=nm (W1.alloc (π #[Θ a nf ca,Θ a2 nf c2] 70))
 have HT:aQ (bE W2 W1.heap.size #[Θ a nf ca,Θ a2 nf c2] 70):=by rw [<- TH]; exact bE.new _ _ _
 have xi:aQ (Cn w.heap.size a nf ca X Y W2):=by rw [<- TH]; exact xh.o.alloc _
 have eU:aQ (Bw w W2):=by rw [<- TH]; exact eG.o.alloc eG.o.size _
 have HT1:aQ (w.heap.size+1+1+1+1 < W1.heap.size):=xh.o.2.2.2.2.lt
 have Xb:aQ (Al W2 a2 ax):=by rw [<- TH]; exact Hra.o.below (nA _ _)
 rw [TH]
 have HA:=zq (Kb.o a2 c2 W2 eU.o Xb.o)
 clear TH eG xh Hra Kb Xb
 generalize W1.heap.size=T at *
 obtain ⟨k0,k1,z0,z1,lT⟩:=HT.o.two
 go_wp2_with fail
 refine ka HA.o fun W3 hb3=>?_
 have HB3:=eU.bS hb3
 have Xc:=zq (xi.o.below hb3)
 have HT3:=HT.bb hb3
 clear hb3 k0 k1 z0 z1 lT eU xi HT HA
 have HY2:=HX2
 have HY3:=HX3
 have HY5:=HX5
 have HMh:=HMc.o
 have bi3:=HSz
 have bi4:=ko
 clear HX2 HX3 HX5 HMc HSz ko
 have b6:=Xc.o.2.1.ce 0
 have b7:=Xc.o.2.2.1.ce 0
 go_wp2_with fail
 refine ka (ap9.o _ HB3.o) fun W4 hb4=>?_
 have HB4:=HB3.bS hb4
 have Co:=zq (Xc.o.below hb4)
 have HT4:=HT3.bb hb4
 clear hb4 b6 b7 HB3 Xc HT3
 by_cases hc:0 < cq
 .have HX:=zq (HY2.o hc)
  clear HY2 HY3 ap9 HT4 HT1
  have r8:=Co.o.2.2.2.1.ce 0
  have r9:=Co.o.2.2.2.2.ce 0
  have z8:=Co.o.2.2.2.1.fz 0
  have z9:=Co.o.2.2.2.2.fz 0
  have l8:=Co.o.2.2.2.1.lt
  have l9:=Co.o.2.2.2.2.lt
  go_wp2
  obtain ⟨V,hV,b1,b2,uB⟩:=Co.o.err (Θ δ 0 0) 2
  rw [hV]
  exact xg (qB Gf _ _ (w.heap.size+1+1+1) (w.heap.size+1+1+1+1) (Θ δ 0 0) (Υ Ξ 2) rfl rfl (b1.cell 0) (b2.cell 0) KY vT) rfl (HX.o _ (uB _ HB4.o))
 .have HZ5 := zq (HY5.o oM)
  clear HY5
  have b4:=Co.o.1.ce 0
  go_wp2_with fail
  refine ka (xd a nf ca W4) fun W5 hW5=>?_
  have HBe:aQ (bE W5 W4.heap.size #[Θ a nf ca] 27):=by rw [hW5]; exact bE.new _ _ _
  have hb5:Bw W4 W5:=by rw [hW5]; exact nA _ _
  have wG:=HB4.bS hb5
  have Mi:=zq (Co.o.below hb5)
  have HT5:=HT4.bb hb5
  clear hW5 hb5 HB4 Co HT4 b4
  generalize W4.heap.size=Be at *
  clear HY2
  go_wp2_with fail
  have aF9:aQ (∀ z ∈ ([]:List Rat),¬ (bZ x < z /\ z < bZ y)):=fun z h=>absurd h sP
  refine Nx (gf:=86) (lb:=#[aB (ζ ⟨Be,0,δ⟩)]) rfl (iC func86 kF rfl) (aF8.o W5 Be wG.o HBe.o) jO.trans (jO.putObj wG.o.size) (fun _=>rfl)
   (fun k W=>((Cn w.heap.size a nf ca X Y W /\ bE W T #[Θ a nf ca,Θ a2 nf c2] 70) /\ aQ (∀ z ∈ k,¬ (bZ x < z /\ z < bZ y))) /\ Bw w W)
   (fun c k W=>((bE W (w.heap.size+1+1+1) #[Θ δ 0 0] 28 /\ bE W (w.heap.size+1+1+1+1) #[Υ Ξ 2] 37) /\ c=.ret /\ Zq fs x y) /\ Bw w W)
   (eJ (Own.from (fun s A B row hs hg hr=>⟨⟨hs.1.1.own hg hr,hs.1.2.own hg hr⟩,hs.2⟩) _) (qO (θ _) wG.o.size))
   (fun c=>eJ (Own.from (fun s A B row hs hg hr=>⟨⟨hs.1.1.own hg hr,hs.1.2.own hg hr⟩,hs.2⟩) _) (qO (θ _) wG.o.size))
   ⟨⟨⟨Mi.o,HT5.o⟩,aF9⟩,wG.o⟩
   ?frm ?assign ?body ?done ?stop
  case assign =>
   intro l z W K hK
   gi_wp2
   exact hK
  case body =>
   rintro l k z W ⟨hz,hzv⟩ ⟨⟨⟨Gw,hT⟩,hNo⟩,hB⟩
   have HL:=zq (Zf.o z hz W hB)
   have HH:=zq (HHi.o z hz)
   have HzE:=zq hzv
   have Ln:=zq Gw
   have HT:=zq hT
   have HB:=zq hB
   have HNo:=zq hNo.o
   have b6:=Gw.2.1.ce 0
   clear hz hzv Gw hT hNo hB HBe wG Mi HT5 aF9 aF8 Zf HHi ap9
   generalize bs (aO z)=Z at *
   gi_wp2_with fail
   refine ⟨trivial,(Calls.round HL.o _ _).mono ?_⟩
   rintro e W6 ⟨⟨c1,rfl,hc1⟩,hb6⟩
   have xU:=HB.bS hb6
   have HA6:=zq hb6
   have aG0:=zq (Ln.o.below hb6)
   have HT6:=HT.bb hb6
   have HC1:=zq hc1
   clear hb6 hc1 b6 Ln HT
   by_cases h1:c1 < 0
   .have b7:=aG0.o.2.2.1.ce 0
    have HCz:=zq (HC1.o.1 h1)
    gi_wp2_with fail
    refine ⟨trivial,(Calls.round (HH.o _ xU.o) _ _).mono ?_⟩
    rintro e W7 ⟨⟨c2,rfl,hc2⟩,hb7⟩
    have Dx:=xU.bS hb7
    have HA7:=HA6.bS hb7
    have Xd:=zq (aG0.o.below hb7)
    have HT7:=HT6.bb hb7
    have Ny:=zq hc2
    clear hb7 hc2 b7 aG0 HT6 xU HA6
    by_cases h2:c2 < 0
    .have HEv:aQ (Zq fs x y):=⟨z,HzE.o,HCz.o,Ny.o.1 h2⟩
     have r8:=Xd.o.2.2.2.1.ce 0
     have r9:=Xd.o.2.2.2.2.ce 0
     have z8:=Xd.o.2.2.2.1.fz 0
     have z9:=Xd.o.2.2.2.2.fz 0
     have l8:=Xd.o.2.2.2.1.lt
     have l9:=Xd.o.2.2.2.2.lt
     gi_wp2
     have hK:KeepsFrom W5.heap.size W ((W7.setCell ⟨w.heap.size+1+1+1,0,δ⟩ (Θ δ 0 0)).setCell ⟨w.heap.size+1+1+1+1,0,δ⟩ (Υ Ξ 2)):=(((gC HA7.o).trans (dA _ _ _)).trans (dA _ _ _)).from _
     obtain ⟨V,hV,b1,b2,uB⟩:=Xd.o.err (Θ δ 0 0) 2
     rw [hV] at hK |-
     exact ⟨hK,⟨⟨b1,b2⟩,rfl,HEv.o⟩,uB _ Dx.o⟩
    .have Ys:=zq (WZ HNo.o (fun h=>h2 (Ny.o.2 h.2)))
     gi_wp2
     exact ⟨(gC HA7.o).from _,jO.call HA7.o HB.o.size,⟨⟨Xd.o,HT7.o⟩,Ys⟩,Dx.o⟩
   .have Ys:=zq (WZ HNo.o (fun h=>h1 (HC1.o.2 h.1)))
    gi_wp2
    refine ⟨trivial,?_⟩
    gi_wp2
    exact ⟨(gC HA6.o).from _,jO.call HA6.o HB.o.size,⟨⟨aG0.o,HT6.o⟩,Ys⟩,xU.o⟩
  case done =>
   rintro D W hD ⟨k,hF,⟨⟨Gw,hT⟩,hNo⟩,hB⟩ hK
   have Ln:=zq Gw
   have HT:=zq hT
   have HB:=zq hB
   have HK:=zq hK
   have HD:=zq (aA wG.o.size hD)
   have HDl:=zq ((Array.getElem?_eq_some_iff.1 hK).1)
   have HNE:aQ (¬ Zq fs x y):=fun ⟨z,h1,h2⟩=>hNo.o z (hF z h1) h2
   have HU5:=zq (HZ5.o HNE.o)
   have b4:=Gw.1.ce 0
   have b7:=Gw.2.2.1.ce 0
   clear Gw hT hB hK hD hF hNo HBe wG Mi HT5 aF9 aF8 Zf HHi ap9 HY3 HZ5
   go_wp2_with fail
   refine (Zc.o _ W.heap.size (HB.o.alloc HB.o.size _) (bE.new W _ _)).mono ?_
   rintro e V1 ⟨⟨a3,c3,rfl,hra⟩,hb1⟩
   have Us:Bw W V1:=(nA W _).trans (hb1.mono sP)
   have eG:=HB.bS Us
   have xh:=zq (Ln.o.below Us)
   have aq0:=HT.bb Us
   have HK1:=zq ((Us.block D HDl.o).trans HK.o)
   have bi5:aQ (D < V1.heap.size):=by have h1:=HDl.o; have h2:=Us.size; show _ < _; omega
   have Hra:=zq hra
   clear hb1 hra Us b4 b7 HB Ln HT HK Zc HDl
   obtain ⟨k0,k1,z0,z1,lT⟩:=aq0.o.two
   go_upto_region 13 with (fail)
   obtain ⟨V2,VW⟩:=nm ((V1.setCell ⟨T,0,δ⟩ (Θ a nf ca)).setCell ⟨T,1,δ⟩ (Θ a3 nf c3))
   have Yv:aQ (bE V2 T #[Θ a nf ca,Θ a3 nf c3] 70):=by rw [<- VW]; exact (aq0.o.set 0 _).set 1 _
   have xi:aQ (Cn w.heap.size a nf ca X Y V2):=by rw [<- VW]; exact (xh.o.other _ HT1.o).other _ HT1.o
   have hTl:w.heap.size <= T:=by have:=HT1.o; omega
   have bi6:aQ (D < V2.heap.size):=by rw [<- VW]; show _ < _; simpa using bi5.o
   have eU:aQ (Bw w V2):=by rw [<- VW]; exact (eG.o.setCell (p:=⟨T,0,δ⟩) hTl _).setCell (p:=⟨T,1,δ⟩) hTl _
   have Ma:aQ (V2.heap[D]?=ζ (.deferred (ζ []))):=by rw [<- VW]; exact ((dA _ _ _).trans (dA _ _ _)).same D _ HK1.o rfl
   have Xb:aQ (Al V2 a3 KJ):=by rw [<- VW]; exact RQ (RQ Hra.o aq0.o 0 _) (aq0.o.set 0 _) 1 _
   rw [VW]
   clear VW eG xh aq0 HK1 bi5 Hra k0 k1 z0 z1 lT hTl
   go_wp2
   go_loopw [13,65] (fun v i wr=>∃ (k vc:Nat) (va:Option bW) (Kg:List Lp),v=Θ va k vc /\ (k=0 -> va=δ /\ vc=0) /\ i=Υ Ξ (k:Int) /\ k <= n /\ aQ (gM V2.heap.size wr v Kg) /\ aQ (Kg.map Lp.ps=(bv8 fs KJ ls).take k) /\ aQ (Bw V2 wr)) (fun _ i _=>n - (ξ i).toNat)
   case atStart=>exact ⟨0,0,δ,[],rfl,fun _=>⟨rfl,rfl⟩,rfl,aP _,⟨⟨rfl,.inl ⟨rfl,rfl⟩⟩,fun l h=>absurd h sP⟩,rfl,μ _ _⟩
   case round =>
    rename η=>wo
    obtain ⟨k,vc,va,Kg,rfl,hva,rfl,hk,HO,HP,Yx⟩:=hrel
    have Hva:=zq hva
    clear hva
    have wF:=zq (eU.o.trans (Yx.o.mono eU.o.size))
    by_cases hlt:k < n
    .obtain ⟨lb,lo,rfl,c0,lI⟩:=(HRl.o _ wF.o).at (i:=k) (by rw [HLl.o]; exact hlt) rfl
     have aG1:=zq (bi3.o k hlt)
     have bi7:=zq (bi4.o k hlt)
     have Hmv:aQ ((bv8 fs KJ ls).take (k+1)=(bv8 fs KJ ls).take k ++ [uW fs KJ (ls.getD k Γ).ps]):=by
      show _=_
      have hl:k < (bv8 fs KJ ls).length:=by rw [C7,HLl.o]; exact hlt
      rw [bM hl,<- Rr (by rw [HLl.o]; exact hlt)]
      simp [Ω,hl]
     generalize ls.getD k Γ=l at *
     obtain ⟨lpb,lpo,hla,-⟩:=lI 0 (by have:=aG1.o.1; omega)
     have HCl:=zq (Wo lpb lpo l.ps.length l.cap l.ps wo rfl (by have:=aG1.o.2; omega) (by rw [<- hla]; exact lI))
     obtain ⟨m,hm⟩:=nm l.ps.length
     have hm4:4 <= m /\ m <= 96:=by rw [<- hm]; exact aG1.o
     rw [hla] at c0
     rw [hm] at c0 HCl
     have Hm:=zq hm
     have bi8:aQ (∀ j,j < m -> ∃ s:Nat,(l.ps.getD j Γ).side=s /\ s < nf):=by show ∀ j,j < m -> _; rw [<- hm]; exact bi7.o
     clear lI aG1 bi7 hm hla
     generalize l.cap=lc at *
     generalize l.ps=ps at *
     go_wp2_with fail
     refine HCl.o.mono ?_
     rintro e V3 ⟨⟨g,cap,rfl,cT⟩,hb3⟩
     have ZD:=zq cT
     have HB3:=zq hb3
     clear cT hb3 HCl c0
     have HPL:aQ (ps.length=m):=Hm
     go_wp2
     go_loopw [73] (fun i w2=>∃ j:Nat,i=Υ Ξ (j:Int) /\ j <= m /\ aQ (w2.ownsRow wo.heap.size 35 3 (Θ (ζ ⟨g,0,δ⟩) m cap) m (cJ (GR fs KJ ps j))) /\ aQ (Bw wo w2)) (fun i _=>m - (ξ i).toNat)
     case atStart=>exact ⟨0,rfl,aP _,ZD,HB3⟩
     case round =>
      clear ZD HB3
      obtain ⟨j,rfl,hj,xj,FV⟩:=hrel
      by_cases hjm:j < m
      .rename η=>wi
       have HBv:=zq (Yx.o.trans (FV.o.mono Yx.o.size))
       have aG2:=zq (eU.o.trans (HBv.o.mono eU.o.size))
       have hqn:(j+1) % m < m:=aV _ oM
       have az6:=J9 j m
       obtain ⟨s1,xZ,ht1⟩:=bi8.o j hjm
       obtain ⟨s2,hs2,UH⟩:=bi8.o ((j+1) % m) hqn
       have h2:2 <= ps.length:=by rw [HPL.o]; omega
       have hML:=El fs KJ ps j
       rw [HPL.o] at hML
       have hS1:=RT (fs:=fs) (at':=KJ) h2 j (by rw [HPL.o]; omega) j (by rw [HPL.o]; exact hjm)
       have hS2:=RT (fs:=fs) (at':=KJ) h2 j (by rw [HPL.o]; omega) ((j+1) % m) (by rw [HPL.o]; exact hqn)
       rw [xZ] at hS1
       rw [hs2] at hS2
       obtain ⟨M',hM'⟩:=nm (GR fs KJ ps (j+1))
       have HMe:=zq hM'
       have HSt:aQ (M'=Gu fs KJ (GR fs KJ ps j) j):=by rw [<- hM']; rfl
       clear hM'
       generalize GR fs KJ ps j=M at *
       have Z3:aQ (yG fs (M.getD j Γ) ≠ yG fs (M.getD ((j+1) % m) Γ) -> ((cJ M).set (j * 3+2) (Δ (bs (KJ.getD s2 [])))).set ((j+1) % m * 3+1) (Δ (bs (KJ.getD s1 [])))=cJ M'):=fun hu=>by
        have:=Xa (at':=KJ) (i:=j) (by rw [hML]; omega) (by rw [hML]; exact hjm) (by rw [hML]) hu
        rw [hS1,hS2] at this
        rw [HSt.o]; exact this
       have HCe:aQ (yG fs (M.getD j Γ)=yG fs (M.getD ((j+1) % m) Γ) -> M'=M):=fun hu=>by
        rw [HSt.o]; exact aq (by rw [hML]) hu
       have hu1:yG fs (M.getD j Γ)=(fs.getD s1 Γ).up:=by unfold yG; rw [hS1]; rfl
       have hu2:yG fs (M.getD ((j+1) % m) Γ)=(fs.getD s2 Γ).up:=by unfold yG; rw [hS2]; rfl
       rw [hu1,hu2] at Z3 HCe
       obtain ⟨d0,d1,d2⟩:=tF M j (by rw [hML]; exact hjm)
       obtain ⟨e0,e1,e2⟩:=tF M ((j+1) % m) (by rw [hML]; exact hqn)
       rw [hS1] at d0
       rw [hS2] at e0
       clear hu1 hu2 xZ hs2 hS1 hS2 HSt
       generalize (j+1) % m=q at *
       have r0:wi.cell? ⟨g,j * 3,δ⟩=ζ (Υ Ξ s1):=(xj.o.cellAt (j * 3) oM).trans d0
       have r1:wi.cell? ⟨g,q * 3,δ⟩=ζ (Υ Ξ s2):=(xj.o.cellAt (q * 3) oM).trans e0
       obtain ⟨ab,ao,rfl⟩:∃ ab ao,a=ζ ⟨ab,ao,δ⟩:=by
        obtain ⟨x,y,e,-⟩:=(HRf.o _ aG2.o) s1 (by rw [Ov.o]; exact ht1); exact ⟨x,y,e⟩
       obtain ⟨nb,no,rfl⟩:∃ nb no,a3=ζ ⟨nb,no,δ⟩:=by
        obtain ⟨x,y,e,-⟩:=Xb.o s1 (by rw [HAl.o]; exact ht1); exact ⟨x,y,e⟩
       have U1:=yA.up (HRf.o _ aG2.o) (s:=s1) (by rw [Ov.o]; exact ht1)
       have U2:=yA.up (HRf.o _ aG2.o) (s:=s2) (by rw [Ov.o]; exact UH)
       have A1:=Al.get (Xb.o.below HBv.o) (s:=s1) (by rw [HAl.o]; exact ht1)
       have A2:=Al.get (Xb.o.below HBv.o) (s:=s2) (by rw [HAl.o]; exact UH)
       have b4:=(xi.o.below HBv.o).1.cell 0
       obtain ⟨k0,k1,-,-,lT⟩:=(Yv.o.below HBv.o Yv.o.lt).two
       simp only [bC,aU] at b4
       generalize (fs.getD s1 Γ).up=u1 at *
       generalize (fs.getD s2 Γ).up=u2 at *
       generalize bs (KJ.getD s1 [])=P1 at *
       generalize bs (KJ.getD s2 [])=P2 at *
       have jm:(j:Int) < (m:Int):=oM
       have qm:(q:Int) < (m:Int):=oM
       have n1:(s1:Int) < (nf:Int):=oM
       have n2:(s2:Int) < (nf:Int):=oM
       have p0:(0:Int) <= (j:Int):=oM
       have q0:(0:Int) <= (q:Int):=oM
       have w1:IntKind.i64.wrap ((j:Int)+1)=(j:Int)+1:=aM _ oM
       have hm0:¬ m=0:=oM
       clear d0 d1 e0 e2
       go_upto_region 22 with (fail)
       go_cut [19,20] from 81 to 86 (fun v u W=>v=aB (ζ ⟨g,j * 3,δ⟩) /\ u=aB (ζ ⟨g,q * 3,δ⟩) /\ ∃ nd,W=wi.drewN nd)
       case first =>
        go_quiet (fail)
        go_wp2
        go_meet
        case rel=>exact ⟨rfl,rfl,_,rfl⟩
       case rest =>
       obtain ⟨rfl,rfl,dq,rfl⟩:=hcut
       go_upto_region 23 with (fail)
       go_cut [103] from 87 to 103 (fun v W=>v=ω (!(u1 == u2)) /\ ∃ nd,W=(wi.drewN dq).drewN nd)
       case first =>
        go_quiet (fail)
        go_wp2
        go_meet
        case rel=>exact ⟨rfl,_,rfl⟩
       case rest =>
       obtain ⟨rfl,dq2,rfl⟩:=hcut
       go_upto_if 103 with (fail)
       obtain ⟨wd,kq⟩:=nm ((wi.drewN dq).drewN dq2)
       have R0:wd.cell? ⟨g,j * 3,δ⟩=ζ (Υ Ξ s1):=by rw [<- kq]; exact r0
       have R1:wd.cell? ⟨g,q * 3,δ⟩=ζ (Υ Ξ s2):=by rw [<- kq]; exact r1
       have B1:wd.cell? ⟨nb,no+s1,δ⟩=ζ (Δ P1):=by rw [<- kq]; exact A1
       have B2:wd.cell? ⟨nb,no+s2,δ⟩=ζ (Δ P2):=by rw [<- kq]; exact A2
       have K1:wd.cell? ⟨T,1,δ⟩=ζ (Θ (ζ ⟨nb,no,δ⟩) nf c3):=by rw [<- kq]; exact k1
       have aW9:aQ (wd.ownsRow wo.heap.size 35 3 (Θ (ζ ⟨g,0,δ⟩) m cap) m (cJ M)):=by rw [<- kq]; exact xj.o
       have hgo:wo.heap.size <= g:=(mD xj.o).1
       have lg:g < wd.heap.size:=by rw [<- kq]; exact (mD xj.o).2.1
       have hVo:V2.heap.size <= wo.heap.size:=Yx.o.size
       have hTV:T < V2.heap.size:=Yv.o.lt
       have hnV:nb < V2.heap.size:=aD V2 ⟨nb,no+s1,δ⟩ (Al.get Xb.o (s:=s1) (by rw [HAl.o]; exact ht1))
       have f1:wd.frozen? ⟨g,j * 3+2,δ⟩=ν:=by rw [<- kq]; exact xj.o.frozenAt _
       have f2:wd.frozen? ⟨g,q * 3+1,δ⟩=ν:=by rw [<- kq]; exact xj.o.frozenAt _
       have F1:wd.cell? ⟨g,j * 3+2,δ⟩=ζ (Δ (bs (M.getD j Γ).en)):=by rw [<- kq]; exact (xj.o.cellAt (j * 3+2) oM).trans d2
       have F2:wd.cell? ⟨g,q * 3+1,δ⟩=ζ (Δ (bs (M.getD q Γ).fr)):=by rw [<- kq]; exact (xj.o.cellAt (q * 3+1) oM).trans e1
       have Yr:aQ (Bw wo wd):=by rw [<- kq]; exact dO (dO FV.o _) _
       rw [kq]
       have Hgo:=zq hgo
       have g1:¬ nb=g:=oM
       have g2:¬ g=nb:=oM
       have g3:¬ T=g:=oM
       have g4:¬ g=T:=oM
       have g5:¬ j * 3=q * 3+1:=oM
       have g6:¬ q * 3=j * 3+2:=oM
       have g7:¬ j * 3+2=q * 3+1:=oM
       have g8:¬ q * 3+1=j * 3+2:=oM
       generalize bs (M.getD j Γ).en=EE at *
       generalize bs (M.getD q Γ).fr=FF at *
       clear kq r0 r1 A1 A2 k0 k1 lT U1 U2 b4 HBv aG2 az6 d2 e1 hVo hTV hnV hgo
       by_cases hu:u1=u2
       .have hM:=HCe.o hu
        have br3:aQ (wd.ownsRow wo.heap.size 35 3 (Θ (ζ ⟨g,0,δ⟩) m cap) m (cJ M')):=by rw [hM]; exact aW9.o
        clear Z3 HCe hM xj aW9
        cases u1 <;> cases u2 <;> (try (exact absurd hu dD)) <;> clear hu
        all_goals
         go_wp2
         go_roundw
         case rel=>exact ⟨j+1,by go_num,oM,by rw [HMe.o]; exact br3.o,Yr.o⟩
         case measure=>simp only [ξ]; omega
       .have HC:=zq (Z3.o hu)
        cases u1 <;> cases u2 <;> (try (exact absurd rfl hu)) <;> clear hu
        all_goals
         go_wp2
         go_region_held3 (fun w'=>w'.cell? ⟨g,j * 3,δ⟩=ζ (Υ Ξ s1) /\ w'.cell? ⟨g,q * 3,δ⟩=ζ (Υ Ξ s2) /\ w'.cell? ⟨nb,no+s1,δ⟩=ζ (Δ P1) /\ w'.cell? ⟨nb,no+s2,δ⟩=ζ (Δ P2) /\ w'.cell? ⟨T,1,δ⟩=ζ (Θ (ζ ⟨nb,no,δ⟩) nf c3) /\ w'.frozen? ⟨g,j * 3+2,δ⟩=ν /\ w'.frozen? ⟨g,q * 3+1,δ⟩=ν /\ g < w'.heap.size) ((refine ⟨?_,?_,?_,?_,?_,?_,?_,?_⟩) <;> (repeat (first | assumption | refine bi2 (by intro e; injection e with e1 e2; omega) ?_ | refine keepD ?_ | refine aW5 ?_ | refine aW6 ?_ | refine aW7 ?_ | refine aW8 ?_))) (fail)
         all_goals
          have HRn:aQ ((((wd.setCell ⟨g,j * 3+2,δ⟩ (Δ P2)).setCell ⟨g,q * 3+1,δ⟩ (Δ P1)).drew).ownsRow wo.heap.size 35 3 (Θ (ζ ⟨g,0,δ⟩) m cap) m (cJ M')):=by
           have:=((aW9.o.stored (j * 3+2) (Δ P2)).1.stored (q * 3+1) (Δ P1)).1
           rw [HC.o] at this
           exact this
          have HBn:aQ (Bw wo (((wd.setCell ⟨g,j * 3+2,δ⟩ (Δ P2)).setCell ⟨g,q * 3+1,δ⟩ (Δ P1)).drew)) :=
           ((Yr.o.setCell (p:=⟨g,j * 3+2,δ⟩) Hgo.o _).setCell (p:=⟨g,q * 3+1,δ⟩) Hgo.o _).drew
          (try go_wp2)
          go_roundw
          case rel=>exact ⟨j+1,by go_num,oM,by rw [HMe.o]; exact HRn.o,HBn.o⟩
          case measure=>simp only [ξ]; omega
      .obtain rfl:m=j:=oM
       have hall:GR fs KJ ps m=uW fs KJ ps:=by rw [<- HPL.o]; exact ah0 (by rw [HPL.o]; omega)
       rw [hall] at xj
       have HMl:aQ ((uW fs KJ ps).length=m):=by show _=_; rw [nM]; exact HPL.o
       have Uv:=zq (aW Yx.o FV.o)
       have Ps:=zq (HO.o.below FV.o)
       have ri:=zq (jU xj.o Yx.o.size)
       generalize uW fs KJ ps=ML at *
       have hkk:Kg.length=k:=by
        have:=congrArg Jr HP.o
        rw [υ,dR,C7,HLl.o] at this
        omega
       have Hkk:=zq hkk
       have Zf:aQ ((Kg ++ [(⟨ζ ⟨g,0,δ⟩,cap,ML⟩:Lp)]).map Lp.ps=(bv8 fs KJ ls).take (k+1)):=by
        show _=_
        rw [dV,HP.o,Hmv.o]; rfl
       have rB:=Ps.o.1
       rw [hkk] at rB
       have br4:k+1 <= 2147483648:=by have:=HNn.o; omega
       clear xj FV HO HP Hmv hall hkk hm4 hj
       go_wp2_with (at_builtin; refine VC rfl _ _ rfl V2.heap.size (Θ va k vc) k _ rfl rB (ζ ⟨g,0,δ⟩) m cap rfl br4 Uv.o.size ?_; intro g8 Vl w8 IM hg8 No)
       have HB8:=zq (dT Uv.o No rB (θ _) Uv.o.size)
       have HO8:aQ (gM V2.heap.size w8 (Θ (ζ ⟨g8,0,δ⟩) (k+1) Vl) (Kg ++ [⟨ζ ⟨g,0,δ⟩,cap,ML⟩])):=by
        have:=gM.grow (l:=⟨ζ ⟨g,0,δ⟩,cap,ML⟩) (g:=g8) (cap:=Vl) Ps.o (by
         have:=ri.o
         show Il _ _ _ _ (Θ (ζ ⟨g,0,δ⟩) ML.length cap) ML.length (cJ ML)
         rw [HMl.o]; exact this) No (by
         rw [Hkk.o]
         show Il _ _ _ _ _ _ (_ ++ [Θ (ζ ⟨g,0,δ⟩) ML.length cap])
         rw [HMl.o]; exact IM)
        rwa [Hkk.o] at this
       clear rB IM No Ps ri
       go_wp2
       go_roundw
       case rel=>exact ⟨k+1,Vl,ζ ⟨g8,0,δ⟩,Kg ++ [(⟨ζ ⟨g,0,δ⟩,cap,ML⟩:Lp)],rfl,fun h=>absurd h oM,by go_num,oM,HO8,Zf,HB8⟩
       case measure=>simp only [ξ]; omega
    .obtain rfl:n=k:=oM
     have L7:(bv8 fs KJ ls).length=n:=by rw [C7]; exact HLl.o
     have Kb:aQ (Kg.map Lp.ps=bv8 fs KJ ls):=by show _=_; rw [HP.o,eA oM]
     have HMl:=zq L7
     have IU:=zq (HMh.cat wo va vc Kg wF.o Kb.o Hva.o (gM.reads HO.o))
     have iz:=zq HMh.back
     have sq:=zq HMh.lim
     have bi9:=zq (xi.o.below Yx.o)
     have HKw:aQ (wo.heap[D]?=ζ (.deferred (ζ []))):=(Yx.o.block D bi6.o).trans Ma.o
     have HDw:aQ (D < wo.heap.size):=by have h1:=bi6.o; have h2:=Yx.o.size; show _ < _; omega
     clear HP L7 HMh bi3 bi4 HRf HRl Yv Xb hlt hk
     generalize bv8 fs KJ ls=MA at *
     obtain ⟨N,hN⟩:=nm MA.flatten.length
     rw [hN] at IU iz sq
     clear hN
     go_wp2_with fail
     refine IU.o.mono ?_
     rintro e W3 ⟨⟨pa,pc,rfl,hrp⟩,hb3⟩
     have HB3:=wF.bS hb3
     have Xc:=zq (bi9.o.below hb3)
     have HK3:aQ (W3.heap[D]?=ζ (.deferred (ζ []))):=(hb3.block D HDw.o).trans HKw.o
     have UC:aQ (D < W3.heap.size):=by have h1:=HDw.o; have h2:=hb3.size; show _ < _; omega
     have PU:=zq (HO.o.below hb3)
     have FX:=zq hrp
     clear hb3 hrp IU bi9 HKw HDw HO wF Yx
     go_wp2_with fail
     refine ka (iz.o W3 w.heap.size pa pc HB3.o Xc.o.1 FX.o) fun W4 hb4=>?_
     have HB4:=HB3.bS hb4
     have Co:=zq (Xc.o.below hb4)
     have HK4:aQ (W4.heap[D]?=ζ (.deferred (ζ []))):=(hb4.block D UC.o).trans HK3.o
     have HD4:aQ (D < W4.heap.size):=by have h1:=UC.o; have h2:=hb4.size; show _ < _; omega
     have HO4:=zq (PU.o.below hb4)
     have HR4:=zq (FX.o.below hb4)
     clear hb4 HB3 Xc HK3 UC PU FX iz
     generalize MA.flatten.any (BX fs)=bk at *
     cases bk with
     | true =>
      have HX:=zq (HRX.o 2 (by rw [HU5.o]; simp) dD)
      have r8:=Co.o.2.2.2.1.ce 0
      have r9:=Co.o.2.2.2.2.ce 0
      have z8:=Co.o.2.2.2.1.fz 0
      have z9:=Co.o.2.2.2.2.fz 0
      have l8:=Co.o.2.2.2.1.lt
      have l9:=Co.o.2.2.2.2.lt
      go_wp2
      obtain ⟨V,hV,b1,b2,uB⟩:=Co.o.err (Θ δ 0 0) 2
      have HKV:V.heap[D]?=ζ (.deferred (ζ [])):=by rw [<- hV]; exact ((dA _ _ _).trans (dA _ _ _)).same D _ HK4.o rfl
      rw [hV]
      refine ⟨sP,.inl ⟨_,_,rfl,iD HKV,?_⟩⟩
      exact ⟨_,qB Gf _ _ (w.heap.size+1+1+1) (w.heap.size+1+1+1+1) (Θ δ 0 0) (Υ Ξ 2) rfl rfl ((b1.putObj _ HKV rfl).cell 0) ((b2.putObj _ HKV rfl).cell 0) KY vT,HX.o _ ((uB _ HB4.o).trans (lQ HD.o HKV))⟩
     | false =>
     go_wp2_with fail
     refine ka (sq.o W4 pa pc HB4.o HR4.o) fun W5 hb5=>?_
     have wG:=HB4.bS hb5
     have Mi:=zq (Co.o.below hb5)
     have HK5:aQ (W5.heap[D]?=ζ (.deferred (ζ []))):=(hb5.block D HD4.o).trans HK4.o
     have io:=zq (HO4.o.below hb5)
     clear hb5 HB4 Co HK4 HD4 HO4 HR4 sq
     have r8:=Mi.o.2.2.2.1.ce 0
     have r9:=Mi.o.2.2.2.2.ce 0
     have z8:=Mi.o.2.2.2.1.fz 0
     have z9:=Mi.o.2.2.2.2.fz 0
     have l8:=Mi.o.2.2.2.1.lt
     have l9:=Mi.o.2.2.2.2.lt
     have hPE:PE=0:=by rw [HU5.o]; simp
     have HPE:=zq hPE
     have HPV:=zq (QL.o hPE)
     have HlV:aQ (w.heap.size+1+1+1+1 < V2.heap.size):=xi.o.2.2.2.2.lt
     clear hPE
     go_wp2
     obtain ⟨V,hV,b1,b2,uB⟩:=Mi.o.err (Θ va n vc) 0
     have HKV:V.heap[D]?=ζ (.deferred (ζ [])):=by rw [<- hV]; exact ((dA _ _ _).trans (dA _ _ _)).same D _ HK5.o rfl
     have HOV:gM V2.heap.size V (Θ va n vc) Kg:=by
      rw [<- hV]
      exact (io.o.set (p:=⟨w.heap.size+1+1+1,0,δ⟩) (by have:=HlV.o; show w.heap.size+1+1+1 < _; omega) _).set (p:=⟨w.heap.size+1+1+1+1,0,δ⟩) HlV.o _
     rw [hV]
     refine ⟨sP,.inl ⟨_,_,rfl,iD HKV,?_⟩⟩
     refine ⟨_,qB Gf _ _ (w.heap.size+1+1+1) (w.heap.size+1+1+1+1) (Θ va n vc) (Υ Ξ 0) rfl rfl ((b1.putObj _ HKV rfl).cell 0) ((b2.putObj _ HKV rfl).cell 0) KY vT,?_⟩
     exact ⟨⟨va,vc,Kg,by rw [HPV.o,HMl.o,HPE.o],by rw [HPV.o]; exact Kb.o,gM.reads (HOV.putObj _ HKV rfl)⟩,(uB _ wG.o).trans (lQ HD.o HKV)⟩
  case stop =>
   rintro D c k W hD ⟨⟨⟨hb1,hb2⟩,rfl,hv⟩,hB⟩ hK
   have HX:=zq (HY3.o hv)
   have HB:=zq hB
   have Hb1:=zq hb1
   have jo:=zq hb2
   have HK:=zq hK
   have HD:=zq (aA wG.o.size hD)
   clear hb1 hb2 hB HBe wG Mi HT5 aF9 aF8 Zf HHi ap9 HY3 hK hD
   go_wp2
   refine ⟨sP,.inl ⟨_,_,rfl,iD HK.o,?_⟩⟩
   exact ⟨_,qB Gf _ _ (w.heap.size+1+1+1) (w.heap.size+1+1+1+1) (Θ δ 0 0) (Υ Ξ 2) rfl rfl ((Hb1.o.putObj _ HK.o rfl).cell 0) ((jo.o.putObj _ HK.o rfl).cell 0) KY vT,HX.o _ (HB.o.trans (lQ HD.o HK.o))⟩
end
end
section
open Go Go.RowKit Go.Lib
theorem xk{ls:List Lp}{right:Bool}(h:oI fs at' ls right =ι)(hi:i<ls.length):4<=(ls.getD i Γ).ps.length:=by
 unfold oI at h;have h1:=bJ.1 (by simpa using h) i hi;unfold Zd at h1;have h2:oH fs at' (ls.getD i Γ).ps right =ι:=by simpa using h1
 unfold oH at h2;simp only[aI]at h2;simpa using h2.1.1
theorem bj0(a b nf n ca cb fs ls x y w)(hE:mV w)(hT:J2 w a b nf n fs ls)(hy:Lz y)(hA:oI fs (dL fs x) ls ι=ι):aP3 a b nf n ca cb fs ls x y w:={
 tracer1 W g hW q:=by
  have rz:Al W (ζ ⟨g,0,δ⟩) [y]:=by
   intro i hi
   have hi:i<1:=hi
   match i,hi with
   |0,_=>exact⟨_,_,rfl,q.cell 0⟩
  refine(uV a b (ζ ⟨g,0,δ⟩) nf n 1 ca cb 1 fs ls [y] W (hE.below hW) (hT.below hW) rfl dD (fun z hz=>by simp only[jT,List.not_mem_nil,or_false]at hz;subst hz;exact hy) rz).mono ?_
  rintro e w'⟨⟨a2,n2,c2,rfl,hk⟩,hb⟩
  obtain⟨e4,h3⟩:=hk sP
  subst e4
  exact⟨⟨_,_,rfl,h3⟩,hb⟩
 rf W hW:=hT.rf.below hW
 rl W hW:=hT.rl.below hW
 flen:=hT.hf
 len:=hT.hl
 alen:=by rw[uS];exact hT.hf
 nn:=hT.hm
 size i hi:=⟨xk hA (by rw[hT.hl];exact hi),(hT.hL _ (aN (by rw[hT.hl];exact hi) Γ)).1⟩
 side i hi j hj:=by
  obtain⟨s,h1,h2⟩:=QH hA (by rw[hT.hl];exact hi) hj
  exact⟨s,h1,by rw[<-hT.hf];exact h2⟩}
theorem bx9(a b nf n ca cb fs ls x y w)(hE:mV w)(hT:J2 w a b nf n fs ls)(Kf:nf<=ca)(hx:Lz x)(hy:Lz y)(hA:oI fs (dL fs x) ls ι=ι):
 aE γ 17 #[Θ a nf ca,Θ b n cb,Δ (bs x),Δ (bs y)] w (Zt w (oJ fs ls x y) (nN fs ls x y)):=by
 have hF:=bj0 a b nf n ca cb fs ls x y w hE hT hy hA;have Vj:=hT.hn;refine au a b nf n ca cb fs ls x y w (bh9 a b nf n ca cb fs ls x y w hE hT hx hy hA) (bi1 a nf ca fs x y w hE hT.hf Vj Kf hT.hF hx hy hT.rf) hF ?_ hx.sm hy.sm;have uE:∀k,k<nf->Sm ((dL fs y).getD k []):=fun k hk=>ae0 hT.hF hy _ (aN (by rw[uS,hT.hf];exact hk) _);have hmo:=fun i hi=>al6 (fs:=fs) (nf:=nf) hT.hL uE (fun i hi=>hF.side i (by rw[<-hT.hl];exact hi)) (i:=i) (by rw[hT.hl];exact hi);exact bi0 a nf n ca fs _ w hE hT.hf (by rw[C7];exact hT.hl) hT.hm oM (fun f hf=>(hT.hF f hf).dir) (fun i hi=>by
  have:=hF.size i hi;rw[(hmo i hi).1];omega) (fun i hi j hj=>(hmo i hi).2 j (by rw[<-(hmo i hi).1];exact hj)) hT.rf
theorem xl(a b n ca cb qs w)(hn:qs.length=n)(tY:n<=1000000)(ra:Ym w a qs)(rb:Ym w b qs):
 aE γ 19 #[Θ a n ca,Θ b n cb] w (Rt (ω ι) w):=by
 have Ra:=zq ra;have Rb:=zq rb;have Hn:=zq hn;clear ra rb hn;go_enter func19,ntmps19;go_wp2;go_loopw[13] (fun i wr=>∃k:Nat,i=Υ Ξ k/\k<=n/\aQ (Bw w wr)) (fun i _=>n-(ξ i).toNat);case atStart=>exact⟨0,rfl,aP _,μ _ w⟩
 case round=>
  obtain⟨k,rfl,hk,HB⟩:=hrel;by_cases hlt:k<n
  .obtain⟨pb,po,rfl,c0,c1⟩:=Ym.at (Ra.o.below HB.o) (i:=k) (by rw[Hn.o];exact hlt) rfl;obtain⟨qb,qo,rfl,d0,d1⟩:=Ym.at (Rb.o.below HB.o) (i:=k) (by rw[Hn.o];exact hlt) rfl;have hji:(k:Int)<(n:Int):=oM;generalize qs.getD k Γ=P at *;obtain⟨px,py⟩:=P;simp only[]at *;have Q:∀W,(Op.equalIn 10000 59 (bQ #[Δ (bs px),Δ (bs py)]) (bQ #[Δ (bs px),Δ (bs py)])).run γ W=.ok ι W:=fun W=>by rw[bn6];simp
   generalize bs py=PY,bs px=PX at *;go_wp2;go_region;all_goals
    go_wp2;go_roundw;case rel=>exact⟨k+1,by go_num,oM,HB.o.drew⟩
    case measure=>simp only[ξ];omega
  .obtain rfl:n=k:=oM;go_wp2;go_ret;exact⟨rfl,HB.o⟩
theorem Cp(W c1 c2 T1 T2):bE ((W.alloc (π c1 T1)).alloc (π c2 T2)).drew W.heap.size c1 T1/\bE ((W.alloc (π c1 T1)).alloc (π c2 T2)).drew (W.heap.size+1) c2 T2/\Bw W ((W.alloc (π c1 T1)).alloc (π c2 T2)).drew:=by
 obtain⟨a,b,c⟩:=MB (w:=W) (c1:=c1) (c2:=c2) (T1:=T1) (T2:=T2) rfl;exact⟨a,b,c.drew⟩
theorem TS{cH size n m:Nat}{c:Nat}{xs:List χ}(h:W.ownsRow cH e size (Θ a m c) n xs):n<=c:=by
 rcases h.2 with⟨-,h0⟩|⟨g,c',pZ,h,-,-,h1,-⟩
 .omega
 .cases h;exact h1
def aG3(w:η)(Vi:List (List Pt))(err:Int)(e:Fg)(w':η):Prop:=
 (∃a cap,∃aZ:List Lp,e=σ (bT #[Θ a Vi.length cap,Υ Ξ err])/\aZ.map Lp.ps=Vi/\CE w' a aZ/\∀l∈aZ,l.ps.length<=l.cap)/\Bw w w'
theorem Ow(a b nf n ca cb fs ls z w)(hE:mV w)(hT:J2 w a b nf n fs ls)(Oj:nf<=12)(h36:(ls.flatMap Lp.ps).length<=36)(hz:Lz z)(hA:oI fs (dL fs z) ls ν=ι):
 aE γ 10 #[Θ a nf ca,Θ b n cb,Δ (bs z)] w (aG3 w (nP fs ls z) (lY fs ls z)):=by
 have fL:=nA w (π #[Δ (bs z)] 29);have hf:=hT.hf;have hl:=hT.hl;have hn:=hT.hm;have My:=hT.hL;have rf:=hT.rf;have rl:=hT.rl;have sR:=hT.hF;have HC:=zq (uV a b (ζ ⟨w.heap.size,0,δ⟩) nf n 1 ca cb 1 fs ls [z] _ (hE.below fL) (hT.below fL) rfl dD (fun x hx=>by rw [dE] at hx;subst hx;exact hz) (Al.one w z));have Kb:aQ (∀ b2 c2 W,Bw w W->Al W b2 (dL fs z)->aE γ 26 #[bQ #[Θ a nf ca,Θ b2 nf c2],Θ b n cb,ω ν] W (Rt (ω ι) W)):=fun b2 c2 W hW ha=>
  Td a b2 b nf n ca c2 cb fs (dL fs z) ls ν W (hE.below hW) hf (by rw [uS];exact hf) hl oM (fun f hm=>(sR f hm).dir) My (rf.below hW) ha (rl.below hW) hA
 have hh:=TJ sR My hz hA oM oM h36;have aP4:aQ (∀ b2 c2 W,Bw w W->Al W b2 (dL fs z)->aE γ 27 #[bQ #[Θ a nf ca,Θ b2 nf c2],Θ b n cb] W fun e w'=>(∃ G,e=σ (aB (ζ ⟨G,0,δ⟩))/\NX w' G (Cg fs (dL fs z) ls) (Ch fs (dL fs z) ls) (xO fs (dL fs z) (Cg fs (dL fs z) ls) (Ch fs (dL fs z) ls) ls))/\Bw W w'):=fun b2 c2 W hW ha=>
  We a b2 b nf ca c2 cb n fs (dL fs z) ls _ _ W (hE.below hW) hf (by rw [uS];exact hf) hl hh.g (rf.below hW) ha (rl.below hW)
 have aq1:aQ (∀ G W,NX W G (Cg fs (dL fs z) ls) (Ch fs (dL fs z) ls) (xO fs (dL fs z) (Cg fs (dL fs z) ls) (Ch fs (dL fs z) ls) ls)->aE γ 28 #[aB (ζ ⟨G,0,δ⟩)] W fun e w'=>(∃ v aZ,e=σ v/\gM W.heap.size w' v aZ/\aZ.map Lp.ps=nY fs (dL fs z) ls)/\Bw W w'):=fun G W hG=>
  al5 fs (dL fs z) _ _ ls G W (by have:=hh.x;omega) (by have:=hh.y;omega) (aN7 hh.x hh.y) hG
 have aX0:aQ (∀ s,s < nf->∀ W,Bw w W->aE γ 29 #[(fs.getD s Γ).v,Δ (bs z)] W (Rt (bT #[Δ (bs (FP (fs.getD s Γ) z)),Υ Ξ 0]) W)):=fun s hs W hW=>
  ae1 _ (sR _ (aN oM Γ)) z hz W (hE.below hW)
 have bj1:aQ (∀ b2 c2 W B la cl aZ,Bw w W->Al W b2 (dL fs z)->aZ.map Lp.ps=nY fs (dL fs z) ls->gM B W (Θ la aZ.length cl) aZ->aE γ 30 #[bQ #[Θ a nf ca,Θ b2 nf c2],Θ la aZ.length cl] W fun e w'=>(∃ v qK,e=σ v/\gM W.heap.size w' v qK/\qK.map Lp.ps=sV fs (dL fs z) (aZ.map Lp.ps))/\Bw W w'):=fun b2 c2 W B la cl aZ hW ha hm ho=>by
  have mG:∀ l∈aZ,l.ps∈nY fs (dL fs z) ls:=fun l hl=>by rw [<- hm];exact List.mem_map.2 ⟨l,hl,rfl⟩
  refine LI a b2 la nf ca c2 aZ.length cl fs (dL fs z) aZ W ?_ rfl (fun l hl=>?_) (fun l hl p hp=>hh.ok.ok _ (mG l hl) p hp) ho.reads (fun p q hp hq V hV=>?_)
  .have:=hh.ok.n;rw [<- hm,υ] at this;omega
  .refine⟨(hh.ok.len _ (mG l hl)).1,(hh.ok.len _ (mG l hl)).2,?_⟩;have hpos:=(hh.ok.len _ (mG l hl)).1;have yB:=ho.2 l hl;obtain⟨gg,cc,e1⟩:=qV hpos yB;have hc:=yB;rw [e1] at hc;have h5:=(mD hc).2.2.1;unfold Lp.v at e1;injection e1 with e1 e2 e3;omega
  .obtain⟨s,s1,s2⟩:=hp.side;obtain⟨t,t1,t2⟩:=hq.side;have hB:=aW hW hV;exact Ro a b2 nf ca c2 fs (dL fs z) p q s t V (hE.below hB) s1 oM t1 oM hf (by rw [uS];exact hf) (rf.below hB) (ha.below hV) hp.x hp.y hq.x hq.y hp.en hq.en
 have aq2:aQ (∀ i k,i < (nY fs (dL fs z) ls).length->k < ((nY fs (dL fs z) ls).getD i []).length->∃ s:Nat,(((nY fs (dL fs z) ls).getD i []).getD k Γ).side=s/\s < nf):=fun i k hi hk=>by
  obtain⟨s,h3,h4⟩:=(hh.at hi hk).side;exact⟨s,h3,oM⟩
 have aG4:aQ ((nY fs (dL fs z) ls).length<=18/\∀ i,i < (nY fs (dL fs z) ls).length->((nY fs (dL fs z) ls).getD i []).length<=10000):=⟨hh.ok.n,fun i hi=>(hh.ok.len _ (aN hi [])).2⟩;have R3:aQ (FY fs z (nY fs (dL fs z) ls)=ι->lY fs ls z=17):=fun h=>ip h;have R5:aQ (FY fs z (nY fs (dL fs z) ls)=ν->lY fs ls z=0/\nP fs ls z=sV fs (dL fs z) (nY fs (dL fs z) ls)):=fun h=>by
  have:lY fs ls z=0:=iN (by rw [h];decide);exact⟨this,by unfold nP;rw [ip this]⟩
 have R4:aQ (∀ c,lY fs ls z=c->c≠0->nP fs ls z= []):=fun c h h2=>by unfold nP;rw [h,iN h2]
 have bad:aQ (∀ c:Int,lY fs ls z=c->c≠0->∀ W,Bw w W->aG3 w (nP fs ls z) (lY fs ls z) (σ (bT #[Θ δ 0 0,Υ Ξ c])) W):=fun c h h2 W hB=>
  ⟨⟨δ,0,[],by rw [R4.o c h h2,h];rfl,by rw [R4.o c h h2];rfl,fun i hi=>absurd hi sP,fun l hl=>absurd hl sP⟩,hB⟩
 have HRf:aQ (∀ W,Bw w W->yA W a fs):=fun W hW=>rf.below hW;have Hfl:=zq hf;have gH:=zq fL;clear hE hl My hz rf rl fL R4 hh sR Oj h36 hf hT hA hn;generalize lY fs ls z=PE,hPV:nP fs ls z=PV at *;clear hPV;have hL':dL fs (([z]:List (List UInt8)).getD 0 [])=dL fs z:=rfl;have HZ:aQ (∀ Ab i,TI fs z Ab i=anyN (EF fs z (Ab.getD i [])) (Ab.getD i []).length):=fun _ _=>rfl;unfold qw at HC;rw [hL'] at HC;clear hL';generalize dL fs z=L,nY fs (dL fs z) ls=T at *;go_enter func10,ntmps10;go_wp2_with fail
 refine HC.o.mono ?_;rintro e W1 ⟨⟨a2,n2,c2,rfl,hk⟩,hb1⟩;obtain⟨e4,ha⟩:=hk (by first | exact Nat.zero_lt_one | trivial | simp);have e4:=e4.symm;subst e4;have eG:=gH.bS hb1;have Y9:=zq (eG.o.alloc eG.o.size (π #[Θ a nf ca,Θ a2 nf c2] 70));have QT:=zq (bE.new W1 #[Θ a nf ca,Θ a2 nf c2] 70);have Ha:=zq (ha.below (nA W1 (π #[Θ a nf ca,Θ a2 nf c2] 70)));clear ha hb1 HC gH;go_wp2_with fail
 refine ka (Kb.o _ _ _ Y9.o Ha.o) fun W3 hb2=>?_;have HB3:=Y9.bS hb2;have QT:=QT.bb hb2;have Ha:=zq (Ha.o.below hb2);obtain⟨TB,hTB⟩:=nm (W1.heap.size);rw [hTB] at QT |-;clear hb2 Kb Y9 hTB eG;obtain⟨t0,t1,-,-,lT⟩:=QT.o.two;go_wp2_with fail
 refine(aP4.o a2 c2 W3 HB3.o Ha.o).mono ?_;rintro e W4 ⟨⟨G,rfl,hG⟩,hb4⟩;have HG:=zq hG;have HB4:=HB3.bS hb4;have QT4:=QT.bb hb4;have Ha4:=zq (Ha.o.below hb4);clear hG hb4 t0 t1 lT QT Ha HB3 aP4;go_wp2_with fail
 refine(aq1.o G W4 HG.o).mono ?_;rintro e W5 ⟨⟨v,aZ,rfl,ho,hm⟩,hb5⟩;obtain⟨oa,oc,rfl⟩:=kU ho.1;have wG:=HB4.bS hb5;have QT5:=QT4.bb hb5;have Ha5:=zq (Ha4.o.below hb5);have HO:=zq ho;have HR:=zq ho.reads;have Hm:=zq hm;have hN:T.length=aZ.length:=by rw [<- hm,υ]
 have Hps:aQ (∀ q,q < aZ.length->(aZ.getD q Γ).ps=T.getD q []):=fun q hq=>by rw [<- hm];simp [Ω,hq]
 rw [hN] at aq2 aG4;have br5:=aG4.o.1;have HTl:=zq hN;clear ho hm hN hb5 HG HB4 QT4 Ha4 aq1;obtain⟨N,hN⟩:=nm aZ.length;rw [hN] at aq2 aG4 br5 Hps HTl |-;have HN:=zq hN;clear hN;go_wp2;go_loopw [42] (fun i wr=>∃ q:Nat,i=Υ Ξ (q:Int)/\q<=N/\aQ (∀ i,i < q->TI fs z T i=ν)/\aQ (Bw W5 wr)) (fun i _=>N - (ξ i).toNat);case atStart=>exact⟨0,rfl,aP _,fun i h=>absurd h (vJ _),μ _ _⟩
 case round=>
  obtain⟨q,rfl,hq,HA,HB⟩:=hrel;rename η=>wo;by_cases hqN:q < N
  .obtain⟨l,TA⟩:=nm (aZ.getD q Γ);obtain⟨lb,lo,hoa,l0,-⟩:=(HR.o.below HB.o).at (i:=q) (by rw [HN.o];exact hqN) TA;subst hoa;have lI:=Hps.o q hqN;rw [TA] at lI;have Ii:=fun k=>aq2.o q k hqN;have hln:=aG4.o.2 q hqN;rw [<- lI] at Ii hln;have haq:TI fs z T q=anyN (EF fs z l.ps) l.ps.length:=by rw [HZ.o,<- lI]
   obtain⟨np,PO⟩:=nm l.ps.length;rw [PO] at l0 Ii hln haq;have ko:=zq Ii;have HAq:=zq haq;have Rh:=zq PO;have Hlq:=zq TA;have HK0:aQ (anyN (EF fs z l.ps) 0=ν):=rfl;clear lI Ii haq PO TA;have hqI:(q:Int) < N:=oM;have q0:(0:Int)<=(q:Int):=oM;go_wp2;go_loopw [48] (fun i wr=>∃ k:Nat,i=Υ Ξ (k:Int)/\k<=np/\aQ (anyN (EF fs z l.ps) k=ν)/\aQ (Bw W5 wr)) (fun i _=>np - (ξ i).toNat);case atStart=>exact⟨0,rfl,aP _,HK0.o,HB.o⟩
   case round=>
    clear HB HK0 l0;obtain⟨k,rfl,hk,HK,HB⟩:=hrel;rename η=>wi;by_cases hlt:k < np
    .obtain⟨lb',lo',-,-,rp⟩:=(HR.o.below HB.o).at (i:=q) (by rw [HN.o];exact hqN) Hlq.o;have hqn:(k+1) % np < np:=aV _ oM;have az6:=J9 k np;obtain⟨s,hs,Jv⟩:=ko.o k hlt;obtain⟨t,ht,FU⟩:=ko.o _ hqn;have hak:EF fs z l.ps k=(((fs.getD s Γ).up==(fs.getD t Γ).up) && (FP (fs.getD s Γ) z !=FP (fs.getD t Γ) z)):=by
      unfold EF;rw [Rh.o,hs,ht,gG,gG]
     generalize (k+1) % np=r at *;obtain⟨pb,po,NW,d0,d1,d2⟩:=rp.at (i:=k) (by rw [Rh.o];exact hlt) rfl;obtain⟨pb',po',aG5,g0,-,-⟩:=rp.at (i:=r) (by rw [Rh.o];exact hqn) rfl;rw [NW] at aG5;injection aG5 with aG5;injection aG5 with e1 e2;subst e1 e2;rw [NW];rw [hs] at d0;rw [ht] at g0;have hBw:=aW wG.o HB.o;obtain⟨fb,fo,ha1,f0,f1,f2,f3,f4⟩:=(HRf.o _ hBw).at (i:=s) (by rw [Hfl.o];exact Jv) rfl;obtain⟨fb',fo',ha2,h0,h1,h2,h3,h4⟩:=(HRf.o _ hBw).at (i:=t) (by rw [Hfl.o];exact FU) rfl;rw [ha1] at ha2;injection ha2 with ha2;injection ha2 with e1 e2;subst e1 e2;rw [ha1];have HSf:=zq (aX0.o s Jv);have HSg:=zq (aX0.o t FU);have im:=zq hak;have wF:=zq hBw;clear rp NW ha1 hak hBw hs ht;generalize hPK:l.ps.getD k Γ=pk at d1 d2;clear hPK;generalize bs pk.fr=PF at d1;generalize bs pk.en=PE2 at d2;generalize fs.getD t Γ=g,fs.getD s Γ=f,FP (fs.getD t Γ) z=sg,FP (fs.getD s Γ) z=sf at *;unfold Fr.v Fr.cells at HSf HSg;obtain⟨fup,fco,fdir,Ll,fst⟩:=f;obtain⟨O7,re,IL,gsp,gst⟩:=g;simp only [] at *;generalize bs gst=GST,bs gsp=GSP,bs fst=FST,bs Ll=FSP at *;have BQ:IntKind.i64.wrap ((k:Int)+1)=(k:Int)+1:=aM _ oM;have SY:¬ np=0:=oM;have GG:(r:Int) < (np:Int):=oM;have hr0:(0:Int)<=(r:Int):=oM;have hkI:(k:Int) < np:=oM;have hk0:(0:Int)<=(k:Int):=oM;have hs0:(0:Int)<=(s:Int):=oM;have hsI:(s:Int) < nf:=oM;have ht0:(0:Int)<=(t:Int):=oM;have htI:(t:Int) < nf:=oM;go_wp2_with fail
     obtain⟨W6,hW6⟩:=nm (wi.alloc (π #[Υ Ξ s,Δ PF,Δ PE2] 35));have hb6:Bw wi W6:=by rw [<- hW6];exact nA wi _
     have hq6:bE W6 wi.heap.size #[Υ Ξ s,Δ PF,Δ PE2] 35:=by rw [<- hW6];exact bE.new _ _ _
     rw [hW6];have b0:=hq6.ce 0;have lb6:=hq6.lt;replace g0:=aY hb6 g0;replace f0:=aY hb6 f0;replace f1:=aY hb6 f1;replace f2:=aY hb6 f2;replace f3:=aY hb6 f3;replace f4:=aY hb6 f4;replace h0:=aY hb6 h0;replace h1:=aY hb6 h1;replace h2:=aY hb6 h2;replace h3:=aY hb6 h3;replace h4:=aY hb6 h4;have lpb:pb < W6.heap.size:=aD W6 ⟨pb,_,δ⟩ g0;have lfb:fb < W6.heap.size:=aD W6 ⟨fb,_,δ⟩ f0;have xU:=HB.bS hb6;generalize wi.heap.size=PB at *;clear hW6 hb6 hq6 d0 d1 d2 HB;go_cut [15,16] (fun u v W=> ∃ g h,u=aB (ζ ⟨g,0,δ⟩)/\v=aB (ζ ⟨h,0,δ⟩)/\aQ (bE W g #[ω fup,Υ Ξ fco,Υ Ξ fdir,Δ FSP,Δ FST] 46)/\aQ (bE W h #[ω O7,Υ Ξ re,Υ Ξ IL,Δ GSP,Δ GST] 46)/\aQ (Bw W6 W));case first=>
      go_region_held3 (fun w'=>w'.cell? ⟨PB,0,δ⟩=ζ (Υ Ξ s)/\w'.cell? ⟨pb,po+r * 3,δ⟩=ζ (Υ Ξ t)/\(w'.cell? ⟨fb,fo+s * 5,δ⟩=ζ (ω fup)/\w'.cell? ⟨fb,fo+s * 5+1,δ⟩=ζ (Υ Ξ fco)/\w'.cell? ⟨fb,fo+s * 5+2,δ⟩=ζ (Υ Ξ fdir)/\w'.cell? ⟨fb,fo+s * 5+3,δ⟩=ζ (Δ FSP)/\w'.cell? ⟨fb,fo+s * 5+4,δ⟩=ζ (Δ FST))/\(w'.cell? ⟨fb,fo+t * 5,δ⟩=ζ (ω O7)/\w'.cell? ⟨fb,fo+t * 5+1,δ⟩=ζ (Υ Ξ re)/\w'.cell? ⟨fb,fo+t * 5+2,δ⟩=ζ (Υ Ξ IL)/\w'.cell? ⟨fb,fo+t * 5+3,δ⟩=ζ (Δ GSP)/\w'.cell? ⟨fb,fo+t * 5+4,δ⟩=ζ (Δ GST))) (go_keep) (fail)
      all_goals
       go_wp2;go_meet;case rel=>
        first
         | exact⟨_,_,rfl,rfl,(Cp W6 _ _ _ _).1,(Cp W6 _ _ _ _).2.1,(Cp W6 _ _ _ _).2.2⟩
         | exact⟨_,_,rfl,rfl,(Cp W6 _ _ _ _).2.1,(Cp W6 _ _ _ _).1,(Cp W6 _ _ _ _).2.2⟩
         | fail
     case rest=>
     obtain⟨fB,gB,rfl,rfl,HFb,HGb,Do⟩:=hcut;rename η=>W7;have Dx:=zq (aW xU.o Do.o);have aX1:=zq (aW wG.o Dx.o);clear b0 lb6 g0 f0 f1 f2 f3 f4 h0 h1 h2 h3 h4 lpb lfb xU Do wF;obtain⟨f0,f1,f2,f3,f4⟩:=HFb.o.front;have lf:=HFb.o.lt;go_wp2_with fail
     refine ka (HSf.o _ aX1.o) fun W8 hb8=>?_;have bj2:=HFb.bb hb8;have aG6:=HGb.bb hb8;have HB8:=Dx.bS hb8;have aX2:=aX1.bS hb8;clear hb8 f0 f1 f2 f3 f4 lf HFb HGb Dx aX1 HSf;obtain⟨f0,f1,f2,f3,f4⟩:=aG6.o.front;have lf:=aG6.o.lt;go_wp2_with fail
     refine ka (HSg.o _ aX2.o) fun W9 hb9=>?_;have bj3:=bj2.bb hb9;have bj4:=aG6.bb hb9;have HB9:=HB8.bS hb9;have br6:=aX2.bS hb9;clear hb9 f0 f1 f2 f3 f4 lf bj2 aG6 HB8 aX2 HSg;have u0:=bj3.o.front.1;have v0:=bj4.o.front.1;have lf:=bj3.o.lt;have lg:=bj4.o.lt;have HN1:aQ (EF fs z l.ps k=ν->anyN (EF fs z l.ps) (k+1)=ν):=fun h=>iA HK.o h;by_cases hu:fup=O7
     .subst hu;have hub:(fup==fup)=ι:=beq_self_eq_true fup;by_cases hv:sf=sg
      .have Zh:((bs sf).toList==(bs sf).toList)=ι:=beq_self_eq_true _;subst hv;have Ys:=zq (HN1.o (by rw [im.o];simp));clear HN1 im;generalize bs sf=SF at *;go_wp2;go_roundw;case rel=>exact⟨k+1,by go_num,oM,Ys.o,HB9.o⟩
       case measure=>simp only [ξ];omega
      .have Zh:((bs sf).toList==(bs sg).toList)=ν:=by rw [Nl];exact beq_false_of_ne hv
       have e1:PE=17:=R3.o (by
        unfold FY;rw [eF];refine⟨q,by rw [HTl.o];exact hqN,?_⟩;rw [HAq.o,eF];exact⟨k,hlt,by rw [im.o];simp [hv]⟩)
       have E2:=zq (bad.o 17 e1 dD W9 br6.o);clear e1 HN1 im hv;generalize bs sg=SG,bs sf=SF at *;go_wp2;go_ret2;exact E2.o
     .have hub:(fup==O7)=ν:=beq_false_of_ne hu;have Ys:=zq (HN1.o (by rw [im.o,hub];rfl));clear HN1 im hu;generalize bs sg=SG,bs sf=SF at *;go_wp2;go_roundw;case rel=>exact⟨k+1,by go_num,oM,Ys.o,HB9.o⟩
      case measure=>simp only [ξ];omega
    .obtain rfl:k=np:=oM;have PA:aQ (∀ i,i < q+1->TI fs z T i=ν):=fun i hi=>by
      rcases fO i q with h | h
      .exact HA.o i h
      .obtain rfl:i=q:=oM;rw [HAq.o];exact HK.o
     have be8:¬ ((k:Int) < (k:Int)):=oM;go_wp2;go_roundw;case rel=>exact⟨q+1,by go_num,oM,PA.o,HB.o⟩
     case measure=>simp only [ξ];omega
  .obtain rfl:q=N:=oM;obtain⟨e1,e2⟩:=R5.o (by
    unfold FY;rw [bJ];intro i hi;exact HA.o i (by rw [<- HTl.o];exact hi))
   have wF:=zq (aW wG.o HB.o);have hA:=bj1.o a2 c2 wo W4.heap.size oa oc aZ wF.o (Ha5.o.below HB.o) Hm.o (HO.o.below HB.o);rw [HN.o] at hA;have HA3:=zq hA;have hPl:PV.length=q:=by rw [e2];unfold sV;rw [Cf,υ];exact HTl.o
   have ir:=zq hPl;have E1:=zq e1;have E2:=zq e2;have hqge:¬ ((q:Int) < (q:Int)):=oM;obtain⟨t0,t1,-,-,lT⟩:=(QT5.o.below HB.o QT5.o.lt).two;clear hA e1 e2 hPl bj1 R3 R5 bad aX0;go_wp2_with fail
   refine HA3.o.mono ?_;rintro e W6 ⟨⟨v,qK,rfl,jj,hm'⟩,hb6⟩;have R:aQ (aG3 w PV PE (σ (bT #[v,Υ Ξ 0])) W6):=by
    obtain⟨va,vc,rfl⟩:=kU jj.1;have hll:qK.length=PV.length:=by rw [ir.o,<- υ (f:=Lp.ps),hm'];unfold sV;rw [Cf,υ,υ,HN.o]
    refine⟨⟨va,vc,qK,by rw [hll,E1.o],by rw [E2.o,hm',Hm.o],jj.reads,fun l hl=>TS (jj.2 l hl)⟩,aW wF.o hb6⟩
   clear jj hm' hb6 HA3;go_wp2;go_ret2;exact R.o
end
section
open Go Go.RowKit Go.Shelf Go.Lib
theorem aX3{F:Nat}(h:bE W F #[ω ν,Υ Ξ 0,Υ Ξ 1,Δ ⟨#[49]⟩,Δ ⟨#[48]⟩,ω ι,Υ Ξ 10,Υ Ξ (-1),Δ ⟨#[49]⟩,Δ ⟨#[48]⟩,ω ν,Υ Ξ 10,Υ Ξ (-1),Δ ⟨#[49]⟩,Δ ⟨#[48]⟩,ω ι,Υ Ξ 0,Υ Ξ 1,Δ ⟨#[49]⟩,Δ ⟨#[48]⟩] 46):yA W (ζ ⟨F,0,δ⟩) wQ:=by
 intro i hi;have hi:i<4:=hi;match i,hi with
 |0,_=>exact⟨_,_,rfl,fun j hj=>match j,hj with |0,_=>h.cell 0|1,_=>h.cell 1|2,_=>h.cell 2|3,_=>h.cell 3|4,_=>h.cell 4⟩
 |1,_=>exact⟨_,_,rfl,fun j hj=>match j,hj with |0,_=>h.cell 5|1,_=>h.cell 6|2,_=>h.cell 7|3,_=>h.cell 8|4,_=>h.cell 9⟩
 |2,_=>exact⟨_,_,rfl,fun j hj=>match j,hj with |0,_=>h.cell 10|1,_=>h.cell 11|2,_=>h.cell 12|3,_=>h.cell 13|4,_=>h.cell 14⟩
 |3,_=>exact⟨_,_,rfl,fun j hj=>match j,hj with |0,_=>h.cell 15|1,_=>h.cell 16|2,_=>h.cell 17|3,_=>h.cell 18|4,_=>h.cell 19⟩
theorem aX4{P:Nat}(h:bE W P #[Υ Ξ 0,Δ ⟨#[48]⟩,Δ ⟨#[49,48]⟩,Υ Ξ 1,Δ ⟨#[48]⟩,Δ ⟨#[49,48]⟩,Υ Ξ 2,Δ ⟨#[49,48]⟩,Δ ⟨#[48]⟩,Υ Ξ 3,Δ ⟨#[49,48]⟩,Δ ⟨#[48]⟩] 35):Ih W (ζ ⟨P,0,δ⟩) (CH [48] [49,48]):=by
 intro i hi;have hi:i<4:=hi;match i,hi with
 |0,_=>exact⟨_,_,rfl,fun j hj=>match j,hj with |0,_=>h.cell 0|1,_=>h.cell 1|2,_=>h.cell 2⟩
 |1,_=>exact⟨_,_,rfl,fun j hj=>match j,hj with |0,_=>h.cell 3|1,_=>h.cell 4|2,_=>h.cell 5⟩
 |2,_=>exact⟨_,_,rfl,fun j hj=>match j,hj with |0,_=>h.cell 6|1,_=>h.cell 7|2,_=>h.cell 8⟩
 |3,_=>exact⟨_,_,rfl,fun j hj=>match j,hj with |0,_=>h.cell 9|1,_=>h.cell 10|2,_=>h.cell 11⟩
theorem aw(w):aE γ 16 #[] w fun e w'=>(∃a b la,e=σ (bT #[Θ a 4 4,Θ b 1 1])/\yA w' a wQ/\CE w' b [⟨la,4,CH [48] [49,48]⟩])/\Bw w w':=by
 obtain⟨W0,fI⟩:=nm (((w.alloc (π #[ω ν,Υ Ξ 0,Υ Ξ 1,Δ ⟨#[49]⟩,Δ ⟨#[48]⟩,ω ι,Υ Ξ 10,Υ Ξ (-1),Δ ⟨#[49]⟩,Δ ⟨#[48]⟩,ω ν,Υ Ξ 10,Υ Ξ (-1),Δ ⟨#[49]⟩,Δ ⟨#[48]⟩,ω ι,Υ Ξ 0,Υ Ξ 1,Δ ⟨#[49]⟩,Δ ⟨#[48]⟩] 46)).alloc (π #[Υ Ξ 0,Δ ⟨#[48]⟩,Δ ⟨#[49,48]⟩,Υ Ξ 1,Δ ⟨#[48]⟩,Δ ⟨#[49,48]⟩,Υ Ξ 2,Δ ⟨#[49,48]⟩,Δ ⟨#[48]⟩,Υ Ξ 3,Δ ⟨#[49,48]⟩,Δ ⟨#[48]⟩] 35)).alloc (π #[Θ (ζ ⟨w.heap.size+1,0,δ⟩) 4 4] 32));have R:aQ ((∃a b la,(σ (bT #[Θ (ζ ⟨w.heap.size,0,δ⟩) 4 4,Θ (ζ ⟨w.heap.size+1+1,0,δ⟩) 1 1]))=σ (bT #[Θ a 4 4,Θ b 1 1])/\yA W0 a wQ/\CE W0 b [⟨la,4,CH [48] [49,48]⟩])/\Bw w W0):=by
  rw[<-fI];refine⟨⟨_,_,ζ ⟨w.heap.size+1,0,δ⟩,rfl,aX3 (((bE.new w _ _).alloc _).alloc _),?_⟩,((nA w _).alloc sP _).alloc (by simp <;>omega) _⟩;have q1:=(bE.new (w.alloc (π #[ω ν,Υ Ξ 0,Υ Ξ 1,Δ ⟨#[49]⟩,Δ ⟨#[48]⟩,ω ι,Υ Ξ 10,Υ Ξ (-1),Δ ⟨#[49]⟩,Δ ⟨#[48]⟩,ω ν,Υ Ξ 10,Υ Ξ (-1),Δ ⟨#[49]⟩,Δ ⟨#[48]⟩,ω ι,Υ Ξ 0,Υ Ξ 1,Δ ⟨#[49]⟩,Δ ⟨#[48]⟩] 46)) #[Υ Ξ 0,Δ ⟨#[48]⟩,Δ ⟨#[49,48]⟩,Υ Ξ 1,Δ ⟨#[48]⟩,Δ ⟨#[49,48]⟩,Υ Ξ 2,Δ ⟨#[49,48]⟩,Δ ⟨#[48]⟩,Υ Ξ 3,Δ ⟨#[49,48]⟩,Δ ⟨#[48]⟩] 35).alloc (π #[Θ (ζ ⟨w.heap.size+1,0,δ⟩) 4 4] 32);have q2:=bE.new ((w.alloc (π #[ω ν,Υ Ξ 0,Υ Ξ 1,Δ ⟨#[49]⟩,Δ ⟨#[48]⟩,ω ι,Υ Ξ 10,Υ Ξ (-1),Δ ⟨#[49]⟩,Δ ⟨#[48]⟩,ω ν,Υ Ξ 10,Υ Ξ (-1),Δ ⟨#[49]⟩,Δ ⟨#[48]⟩,ω ι,Υ Ξ 0,Υ Ξ 1,Δ ⟨#[49]⟩,Δ ⟨#[48]⟩] 46)).alloc (π #[Υ Ξ 0,Δ ⟨#[48]⟩,Δ ⟨#[49,48]⟩,Υ Ξ 1,Δ ⟨#[48]⟩,Δ ⟨#[49,48]⟩,Υ Ξ 2,Δ ⟨#[49,48]⟩,Δ ⟨#[48]⟩,Υ Ξ 3,Δ ⟨#[49,48]⟩,Δ ⟨#[48]⟩] 35)) #[Θ (ζ ⟨w.heap.size+1,0,δ⟩) 4 4] 32;rw[aL]at q1;rw[aL,aL]at q2;intro i hi;have hi:i<1:=hi;match i,hi with
  |0,_=>exact⟨_,_,rfl,q2.cell 0,aX4 q1⟩
 go_enter func16,ntmps16;go_wp2;try rw[fI]
 go_ret2;exact R.o
def sqQ:List Po:=[⟨[51],[51]⟩,⟨[55],[51]⟩,⟨[55],[55]⟩,⟨[51],[55]⟩]
theorem aX5{P:Nat}(h:bE W P #[Δ ⟨#[51]⟩,Δ ⟨#[51]⟩,Δ ⟨#[55]⟩,Δ ⟨#[51]⟩,Δ ⟨#[55]⟩,Δ ⟨#[55]⟩,Δ ⟨#[51]⟩,Δ ⟨#[55]⟩] 59):Ym W (ζ ⟨P,0,δ⟩) sqQ:=by
 intro i hi;have hi:i<4:=hi;match i,hi with
 |0,_=>exact⟨_,_,rfl,h.cell 0,h.cell 1⟩
 |1,_=>exact⟨_,_,rfl,h.cell 2,h.cell 3⟩
 |2,_=>exact⟨_,_,rfl,h.cell 4,h.cell 5⟩
 |3,_=>exact⟨_,_,rfl,h.cell 6,h.cell 7⟩
theorem TU{f:α->β}{l:List α}{y:β}(h:l.map f=[y]):∃x,l=[x]/\f x=y:=by
 match l,h with
 |[x],h=>exact⟨x,rfl,by simpa using h⟩
theorem aq3(a b la w)(hE:mV w)(rf:yA w a wQ)(rl:CE w b [⟨la,4,CH [48] [49,48]⟩]):
 aE γ 17 #[Θ a 4 4,Θ b 1 1,Δ ⟨#[48]⟩,Δ ⟨#[51]⟩] w fun e w'=>(∃b' c la' lc,e=σ (bT #[Θ b' 1 c,Υ Ξ 0])/\CE w' b' [⟨la',lc,CH [51] [55]⟩])/\Bw w w':=by
 have:=bx9 a b 4 1 4 1 wQ [⟨la,4,CH [48] [49,48]⟩] [48] [51] w hE ⟨rfl,rfl,dD,dD,kj,MM la 4 aO6 ap3,rf,rl⟩ dD aO7 aO8 (jw la 4);unfold Zt at this;rw[kg,aF4]at this;refine uN this ?_;rintro e w'⟨⟨b',c,aZ,rfl,hm,hr⟩,hb⟩;obtain⟨⟨la',lc,ps⟩,rfl,hp⟩:=TU hm;simp only[]at hp;subst hp;exact⟨⟨b',c,la',lc,rfl,hr⟩,hb⟩
theorem aq4(a b la w)(hE:mV w)(rf:yA w a wQ)(rl:CE w b [⟨la,4,CH [48] [49,48]⟩]):
 aE γ 17 #[Θ a 4 4,Θ b 1 1,Δ ⟨#[48]⟩,Δ ⟨#[53]⟩] w fun e w'=>(∃b' c la' lc,e=σ (bT #[Θ b' 1 c,Υ Ξ 0])/\CE w' b' [⟨la',lc,CH [53] [53]⟩])/\Bw w w':=by
 have:=bx9 a b 4 1 4 1 wQ [⟨la,4,CH [48] [49,48]⟩] [48] [53] w hE ⟨rfl,rfl,dD,dD,kj,MM la 4 aO6 ap3,rf,rl⟩ dD aO7 aO9 (jw la 4);unfold Zt at this;rw[kh,aF5]at this;refine uN this ?_;rintro e w'⟨⟨b',c,aZ,rfl,hm,hr⟩,hb⟩;obtain⟨⟨la',lc,ps⟩,rfl,hp⟩:=TU hm;simp only[]at hp;subst hp;exact⟨⟨b',c,la',lc,rfl,hr⟩,hb⟩
theorem xm(a b la c lc w)(hE:mV w)(rf:yA w a wQ)(rl:CE w b [⟨la,lc,CH [51] [55]⟩]):
 aE γ 18 #[Θ a 4 4,Θ b 1 c,Δ ⟨#[51]⟩] w fun e w'=>(∃pb po c' qa qc,e=σ (bT #[Θ (ζ ⟨pb,po,δ⟩) 1 c',Υ Ξ 0])/\w'.cell? ⟨pb,po,δ⟩=ζ (Θ qa 4 qc)/\Ym w' qa sqQ)/\Bw w w':=by
 have:=rh a b 4 1 4 c wQ [⟨la,lc,CH [51] [55]⟩] [51] w hE ⟨rfl,rfl,dD,dD,kj,MM la lc bh7 bh8,rf,rl⟩ aO8 (aF7 la lc);unfold aR6 at this;rw[aW1]at this;refine uN this ?_;rintro e w'⟨⟨p,c',aZ,rfl,hm,hr⟩,hb⟩;obtain⟨⟨qa,qc,qs⟩,rfl,hp⟩:=TU hm;simp only[]at hp;subst hp;obtain⟨pb,po,rfl,h1,h2⟩:=hr 0 sP;exact⟨⟨pb,po,c',qa,qc,rfl,h1,h2⟩,hb⟩
theorem aq5(a b la c lc w)(hE:mV w)(rf:yA w a wQ)(rl:CE w b [⟨la,lc,CH [53] [53]⟩]):
 aE γ 10 #[Θ a 4 4,Θ b 1 c,Δ ⟨#[53]⟩] w fun e w'=>(∃a' c',e=σ (bT #[Θ a' 0 c',Υ Ξ 0]))/\Bw w w':=by
 have:=Ow a b 4 1 4 c wQ [⟨la,lc,CH [53] [53]⟩] [53] w hE ⟨rfl,rfl,dD,dD,kj,MM la lc ap2 ap2,rf,rl⟩ dD (by show 4<=36;omega) aO9 (aF6 la lc);unfold aG3 at this;rw[WW,ap5]at this;refine uN this ?_;rintro e w'⟨⟨b',c,aZ,rfl,-⟩,hb⟩;exact⟨⟨b',c,rfl⟩,hb⟩
theorem xn(w)(hE:mV w):aE γ 6 #[] w (Rt (ω ι) w):=by
 have HS:=zq (aw w);have HE:aQ (∀W,Bw w W->mV W):=fun W h=>hE.below h;clear hE;go_enter func6,ntmps6;go_wp2_with fail
 refine HS.o.mono ?_;rintro e W1⟨⟨a,b,la,rfl,hf1,Vf⟩,hb1⟩;have HF1:=zq hf1;have HL1:=zq Vf;have eG:=zq hb1;clear HS hf1 Vf hb1;go_wp2_with fail
 refine(aq3 a b la W1 (HE.o _ eG.o) HF1.o HL1.o).mono ?_;rintro e W2⟨⟨b3,c3,la3,lc3,rfl,hl3⟩,hb2⟩;have Pb:=zq (HF1.o.below hb2);have ri:=zq (HL1.o.below hb2);have HL3:=zq hl3;have eU:=eG.bS hb2;clear hl3 hb2 HF1 HL1 eG;go_wp2_with fail
 refine(xm a b3 la3 c3 lc3 W2 (HE.o _ eU.o) Pb.o HL3.o).mono ?_;rintro e W3⟨⟨pb,po,c',qa,qc,rfl,hp,ho⟩,hb3⟩;have PN:=zq (Pb.o.below hb3);have bj5:=zq (ri.o.below hb3);have HP3:=zq hp;have PU:=zq ho;have HB3:=eU.bS hb3;clear hp ho hb3 Pb ri HL3 eU;go_wp2_with fail
 refine(aq4 a b la W3 (HE.o _ HB3.o) PN.o bj5.o).mono ?_;rintro e W4⟨⟨b5,c5,la5,lc5,rfl,hl5⟩,hb4⟩;have HF4:=zq (PN.o.below hb4);have HL5:=zq hl5;have HP4:=zq (aY hb4 HP3.o);have HO4:=zq (PU.o.below hb4);have HB4:=HB3.bS hb4;clear hl5 hb4 PN bj5 HP3 PU HB3;go_wp2_with fail
 refine(aq5 a b5 la5 c5 lc5 W4 (HE.o _ HB4.o) HF4.o HL5.o).mono ?_;rintro e W5⟨⟨ta,tc,rfl⟩,hb5⟩;have hp5:=aY hb5 HP4.o;have HP5:=zq hp5;have io:=zq (HO4.o.below hb5);have wG:=HB4.bS hb5;clear hb5 HF4 HL5 HP4 HO4 HB4;obtain⟨W6,hW6⟩:=nm (W5.alloc (π #[Δ ⟨#[51]⟩,Δ ⟨#[51]⟩,Δ ⟨#[55]⟩,Δ ⟨#[51]⟩,Δ ⟨#[55]⟩,Δ ⟨#[55]⟩,Δ ⟨#[51]⟩,Δ ⟨#[55]⟩] 59));have hb6:Bw W5 W6:=by rw[<-hW6];exact nA _ _
 have HQ6:aQ (Ym W6 (ζ ⟨W5.heap.size,0,δ⟩) sqQ):=by rw[<-hW6];exact aX5 (bE.new _ _ _)
 have HO6:=zq (io.o.below hb6);have xU:=wG.bS hb6;clear hb6 io;go_wp2_with fail
 try rw[hW6]
 refine(xl qa (ζ ⟨W5.heap.size,0,δ⟩) 4 qc 4 sqQ W6 rfl dD HO6.o HQ6.o).mono ?_;rintro e W7⟨rfl,hb7⟩;have Dx:=xU.bS hb7;clear hb7;go_wp2;go_ret;exact⟨rfl,Dx.o⟩
end
section
open Go Go.RowKit Go.Lib Go.Shelf
def DG{α:Type}(xs:List α)(i:Nat)(t:α):List α:=xs.take i++t::xs.drop i
theorem Ox(xs:List α)(t:α)(h:i<=xs.length):(DG xs i t).length=xs.length+1:=by
 unfold DG;rw[aJ,aC,dR,dJ];omega
theorem aq6(xs:List α)(t:α)(h:i<=xs.length)(j):(DG xs i t)[j]? =if j<i then xs[j]? else if j=i then ζ t else xs[j-1]?:=by
 unfold DG;have hl:(xs.take i).length=i:=by rw[dR];omega
 by_cases h1:j<i
 .rw[ip h1,nQ oM,kP,ip h1]
 .rw[iN h1,fA oM,hl];by_cases h2:j=i
  .rw[ip h2,h2,CI];rfl
  .rw[iN h2,show j-i=(j-1-i)+1 by omega,cO,pO];congr 1;omega
theorem xq(xs i t):dQ (DG xs i t)=DG (dQ xs) i (Δ (bs t)):=by
 unfold dQ DG;simp[List.map_take,List.map_drop]
theorem sY:∀(vs:List χ)(o:Nat)(w:η)(c:Array χ),w.heap[g]? =ζ (π c T (0,0))->(w.setCells g o vs).heap[g]? =ζ (π (Kw c o vs) T (0,0))/\w.grownBy (w.setCells g o vs) (ζ g)
 |[],_,w,_,h=>⟨h,World.grownBy.refl w (ζ g)⟩
 |v::r,o,w,c,h=>by
  have h1:=Go.heap_setCell_same w g o c T v h
  obtain⟨h2,h3⟩:=sY r (o+1) _ _ h1
  exact⟨h2,(⟨rfl,rfl,rfl,sP,fun k _ hk=>dG w ⟨g,o,δ⟩ k v (fun e=>hk (by rw[e]))⟩:w.grownBy (w.setCell ⟨g,o,δ⟩ v) (ζ g)).trans h3⟩
theorem Xe{L:List χ}(_:L.length<=c.size)(hg:∀j,j<L.length->c[j]? =L[j]?):c.toList.take L.length=L:=by
 apply List.ext_getElem?;intro j;rw[kP];by_cases hj:j<L.length
 .rw[ip hj,D4,hg j hj]
 .rw[iN hj,nW oM]
section
variable(B vb vc i n:Nat)(v:χ)(xs:List (List UInt8))(t:List UInt8)(w:η)
def Xf(B i n:Nat)(v:χ)(xs:List (List UInt8))(t:List UInt8)(w:η)(e:Fg)(w':η):Prop:=
 (∃g cap,e=σ (Θ (ζ ⟨g,0,δ⟩) (n+1) cap)/\w'.ownsRow B 29 1 (Θ (ζ ⟨g,0,δ⟩) (n+1) cap) (n+1) (dQ (DG xs i t))/\(v.ownBlock=ζ g\/w.heap.size<=g))/\w.grownBy w' v.ownBlock
theorem aq7(h1:B<=g)(h2:W.heap[g]? =ζ (π c 29 (0,0)))(h3:n+1<=cap)(h4:cap<=yE)(h5:c.size=cap)(hl:xs.length=n)(hi:i<=n)(h6:∀j,j<n+1->c[j]? =if j<i then(dQ xs)[j]? else if j=i then ζ (Δ (bs t))else(dQ xs)[j-1]?):
 W.ownsRow B 29 1 (Θ (ζ ⟨g,0,δ⟩) (n+1) cap) (n+1) (dQ (DG xs i t)):=by
 have hL:(dQ (DG xs i t)).length=n+1:=by rw[uQ,Ox _ _ oM,hl]
 refine⟨oM,.inr ⟨g,cap,c,rfl,h1,h2,h3,h4,oM,?_⟩⟩;have:=Xe (c:=c) (L:=dQ (DG xs i t)) oM (fun j hj=>by
  rw[h6 j oM,xq,aq6 _ _ (by rw[uQ];omega)])
 rw[hL]at this;rw[oh];exact this
variable(hl:xs.length=n)(hi:i<=n)(hn:n<=100000)(ho:w.ownsRow B 29 1 v n (dQ xs))(hB:B<=w.heap.size)(hv:ζ vb≠v.ownBlock)(hb:bE w vb #[Δ (bs t)] 29)
include hl hi hn ho hB hv hb
theorem az(he:i=n):aE γ 156 #[v,Υ Ξ i,Θ (ζ ⟨vb,0,δ⟩) 1 vc] w (Xf B i n v xs t w):=by
 subst he;obtain⟨i0,q1,q2,q3,q4⟩:=jJ Eg;have R:aQ (DG xs i t=xs++[t]):=by show _=_;unfold DG;rw[<-hl,List.take_length,List.drop_length]
 have hs:dQ (xs++[t])=dQ xs++[Δ (bs t)]:=by simp[dQ]
 have Hs:=zq hs;have Hb:=zq (World.news_of_block hb);have Ho:=zq ho;have HB:=zq hB;unfold Xf;obtain⟨av,ac,rfl⟩:∃a c,v=Θ a i c:=by
  rcases ho.2 with⟨h,h0⟩|⟨g,cap,pZ,h,_⟩
  .exact⟨δ,0,by rw[h,h0]⟩
  .exact⟨_,_,h⟩
 clear hl hi ho hB hv hb hs;obtain⟨ob,Jw⟩:=nm (Θ av i ac).ownBlock;rw[Jw];have Hob:=zq Jw;clear Jw;go_enter Yg,Uq;go_wp2_with (at_builtin;refine wpList_append_lies w rfl _ _ 68 rfl B 29 i0 (Δ ⟨#[]⟩) 1 16 jL q1 q2 q3 q4 rfl dD (Θ av i ac) i (dQ xs) rfl Ho.o ⟨vb,0,δ⟩ 1 vc [Δ (bs t)] rfl rfl Hb.o (fun u h=>by rw[List.mem_singleton.1 h];rfl) dD (by unfold yE;omega) oM HB.o _ rfl ?_;intro g cap w' h1 h2 h3 h4)
 all_goals
  have H1:=zq h1;rw[Hob.o]at h2 h3;have H2:=zq h2;have H3:=zq (h3.imp id fun e=>qU e.symm);clear h1 h2 h3 h4;go_wp2;go_ret;exact⟨⟨g,cap,rfl,by rw[R.o,Hs.o];exact H1.o,H3.o⟩,H2.o⟩
theorem Xg(g cap pZ)(hvg:v=Θ (ζ ⟨g,0,δ⟩) n cap)(hbg:B<=g)(hg:w.heap[g]? =ζ (π pZ 29 (0,0)))(Ut:cap<=yE)(CD:pZ.size=cap)(htk:pZ.toList.take n=dQ xs)(he:i<n)(hr:n+1<=cap):
 aE γ 156 #[v,Υ Ξ i,Θ (ζ ⟨vb,0,δ⟩) 1 vc] w (Xf B i n v xs t w):=by
 subst hvg;have Zh:vb≠g:=fun e=>hv (by rw[e];rfl);have Ki:(dQ xs).length=n:=by rw[uQ];exact hl
 have bv2:cap<=9223372036854775807:=by unfold yE at Ut;exact Ut
 have hcj:∀j,j<n->pZ[j]? =(dQ xs)[j]?:=fun j hj=>by
  rw[<-htk,kP,ip hj,D4]
 have oV:∀j,w.cell? ⟨g,j,δ⟩=pZ[j]?:=fun j=>Ij w g j pZ _ _ hg;have Dv:(Tryz.prog.info? 29).map (·.size)=ζ 1:=kF;have hdl:((dQ xs).drop i).length=n-i:=by rw[dJ,Ki]
 have h1c:∀u∈(dQ xs).drop i,u.oneCell'=ι:=fun u h=>by
  obtain⟨x,-,rfl⟩:=List.mem_map.1 (Gd h);rfl
 have h1v:∀u∈[Δ (bs t)],u.oneCell'=ι:=fun u h=>by rw[List.mem_singleton.1 h];rfl
 obtain⟨k1,g1⟩:=sY ((dQ xs).drop i) (i+1) w.drew pZ hg;obtain⟨k2,g2⟩:=sY [Δ (bs t)] i _ _ k1;have lI:(Kw pZ (i+1) ((dQ xs).drop i)).size=cap:=by rw[wN];exact CD
 have R:aQ (Xf B i n (Θ (ζ ⟨g,0,δ⟩) n cap) xs t w (σ (Θ (ζ ⟨g,0,δ⟩) (n+1) cap)) ((w.drew.setCells g (i+1) ((dQ xs).drop i)).setCells g i [Δ (bs t)])):=by
  refine⟨⟨g,cap,rfl,aq7 B i n xs t hbg k2 hr Ut (by rw[wN,wN];exact CD) hl oM fun j hj=>?_,.inl rfl⟩,?_⟩
  .rw[Ci _ _ _ _ (by rw[lI];simp only[aC,bB];omega),Ci _ _ _ _ (by rw[hdl];omega),hdl];simp only[aC,bB];by_cases h1:j<i
   .rw[iN oM,iN oM,ip h1,hcj j oM]
   .by_cases h2:j=i
    .rw[ip oM,iN h1,ip h2,h2,CI];rfl
    .rw[iN oM,ip oM,iN h1,iN h2,pO];congr 1;omega
  .obtain⟨a1,a2,a3,a4,a5⟩:=g1;exact OW (⟨a1,a2,a3,a4,a5⟩:w.grownBy (w.drew.setCells g (i+1) ((dQ xs).drop i)) (ζ g)) g2
 have PR:∀lb cb,(callFunc 198 #[Θ (ζ ⟨vb,0,δ⟩) 1 vc,Θ (ζ ⟨g,i+1,δ⟩) lb cb]).run γ w=.ok (.value (ω ν)) w:=fun lb cb=>by
  rw[run_callFunc_extern func198 kF kF kF (e:=ow #[68,68] #[4]) kF,
   Lib.run_overlaps_apart w 68 4 29 jL 1 sizeOf29 ⟨vb,0,δ⟩ ⟨g,i+1,δ⟩ 1 vc lb cb Zh 29 29 1 cap (by unfold World.shape?;rw[show w.heap[vb]? =ζ (π #[Δ (bs t)] 29 (0,0))from hb];rfl) (by unfold World.shape?;rw[hg];show ζ (_,pZ.size)=_;rw[CD]) oM (hb.fz 0) (hb.fz 1)]
  rfl
 have bj6:∀ty dc sc,(Gg #[68,68] ty #[Θ (ζ ⟨g,i+1,δ⟩) (n-i) dc,Θ (ζ ⟨g,i,δ⟩) (n+1-i) sc]).run γ w.drew=.ok (goInt ((dQ xs).drop i).length) (w.drew.setCells g (i+1) ((dQ xs).drop i)):=fun ty dc sc=>
  JD w.drew _ _ ty 29 g (i+1) (n-i) dc ⟨g,i,δ⟩ (n+1-i) sc ((dQ xs).drop i) jL Dv (by rw[hdl];simp only[OX];split <;>omega)
   (fun j u hj=>by
    rw[qP];show w.cell? _=_;rw[oV,hcj _ (by have:=(List.getElem?_eq_some_iff.1 hj).1;omega)];rwa[pO]at hj)
   (fun j hj=>by
    show(w.cell? _).isSome=ι;rw[oV,nI oM];rfl)
   (fun j hj=>Mn w g _ pZ _ hg) h1c
 obtain⟨W1,tZ⟩:=nm (w.drew.setCells g (i+1) ((dQ xs).drop i));rw[tZ]at bj6 k1 R;have br7:∀W:η,(∀x,W.cell? x=W1.cell? x)->(∀x,W.frozen? x=W1.frozen? x)->∀ty dc,(Gg #[68,68] ty #[Θ (ζ ⟨g,i,δ⟩) (n+1-i) dc,Θ (ζ ⟨vb,0,δ⟩) 1 vc]).run γ W=.ok (goInt 1) (W.setCells g i [Δ (bs t)]):=fun W hc hf ty dc=>
  JD W _ _ ty 29 g i (n+1-i) dc ⟨vb,0,δ⟩ 1 vc [Δ (bs t)] jL Dv (by simp only[aC,bB,OX];split <;>omega)
   (fun j u hj=>by
    obtain rfl:j=0:=by have:=(List.getElem?_eq_some_iff.1 hj).1;simp at this;omega
    simp only[aU,vF]at hj;subst hj;rw[qP,hc,<-tZ,Sz g _ _ _ _ (fun h _=>absurd h Zh)];exact hb.cell 0)
   (fun j hj=>by
    have:j=0:=by simp at hj;omega
    subst this;rw[hc,Ij W1 g _ _ _ _ k1,nI oM];rfl)
   (fun j hj=>by rw[hf];exact Mn W1 g _ _ _ k1) h1v
 have hw1:IntKind.i64.wrap ((i:Int)+1)=(i:Int)+1:=aM _ oM;have hw2:IntKind.i64.wrap ((n:Int)+1)=(n:Int)+1:=aM _ oM;have uT:¬((i:Int)=(n:Int)):=oM;have hb1:(0:Int)<=(i:Int)+1:=oM;have hb2:¬(cap=i+1):=oM;have hb3:(i:Int)<=(n:Int)+1:=oM;have hb4:¬(cap=i):=oM;have FU:((i:Int)+1).toNat=i+1:=oM;have bv3:((n:Int)+1).toNat=n+1:=oM;refine uN (show aE γ 156 #[Θ (ζ ⟨g,0,δ⟩) n cap,Υ Ξ i,Θ (ζ ⟨vb,0,δ⟩) 1 vc] w fun e w'=>e=σ (Θ (ζ ⟨g,0,δ⟩) (n+1) cap)/\w'=W1.setCells g i [Δ (bs t)]from ?_) (fun e w' h=>by rw[h.1,h.2];exact R.o);generalize(dQ xs).drop i=DS at *;generalize bs t=T at *;clear hl hn ho hB hv hb hbg hg htk hcj oV hdl h1c h1v k1 k2 g1 g2 lI Ut CD tZ Dv Ki Zh R;go_enter Yg,Uq;have mixed:Tryz.prog.follows .mixedOrders=ι:=kF;go_wp2_with (simp only[PR])
 go_region_law_o (refine step_copy_runI rfl _ _ 68 68 rfl _ _ (by simp[Ye,oQ]) (by simp[Ye,oQ]) (bj6 _ _ _) ?_);go_wp2_with (at_builtin;refine wpList_copy_runI _ rfl _ _ 68 68 rfl _ _ rfl rfl (br7 _ (fun _=>rfl) (fun _=>rfl) _ _) ?_)
 go_ret;exact⟨rfl,rfl⟩
theorem Xh(g cap pZ)(hvg:v=Θ (ζ ⟨g,0,δ⟩) n cap)(hbg:B<=g)(hg:w.heap[g]? =ζ (π pZ 29 (0,0)))(hnc:n<=cap)(CD:pZ.size=cap)(htk:pZ.toList.take n=dQ xs)(he:i<n)(hr:cap<n+1):
 aE γ 156 #[v,Υ Ξ i,Θ (ζ ⟨vb,0,δ⟩) 1 vc] w (Xf B i n v xs t w):=by
 subst hvg
 obtain⟨i0,q1,q2,q3,q4⟩:=jJ Eg
 have Zh:vb≠g:=fun e=>hv (by rw[e];rfl)
 have ZB:g<w.heap.size:=(Array.getElem?_eq_some_iff.1 hg).1
 have Ki:(dQ xs).length=n:=by rw[uQ];exact hl
 have hcj:∀j,j<n->pZ[j]? =(dQ xs)[j]?:=fun j hj=>by
  rw[<-htk,kP,ip hj,D4]
 have oV:∀j,w.cell? ⟨g,j,δ⟩=pZ[j]?:=fun j=>Ij w g j pZ _ _ hg
 have Dv:(Tryz.prog.info? 29).map (·.size)=ζ 1:=kF
 have hdl:((dQ xs).drop i).length=n-i:=by rw[dJ,Ki]
 have xt:((dQ xs).take i).length=i:=by rw[dR,Ki];omega
 have h1c:∀u∈(dQ xs).drop i,u.oneCell'=ι:=fun u h=>by
  obtain⟨x,-,rfl⟩:=List.mem_map.1 (Gd h);rfl
 have h1v:∀u∈[Δ (bs t)],u.oneCell'=ι:=fun u h=>by rw[List.mem_singleton.1 h];rfl
 have hkk:(n:Int)+1-(i:Int)=((n+1-i:Nat):Int):=oM
 have hik:i+(n+1-i)=n+1:=oM
 have bj7:(Builtin.firstCells i0.size i (Θ (ζ ⟨g,0,δ⟩) i cap)).run γ w.drew=.ok ((dQ xs).take i).toArray w.drew:=by
  rw[q3]
  exact run_firstCells_some w.drew 1 i ⟨g,0,δ⟩ i cap ((dQ xs).take i) (by rw[xt,oh]) (fun j u hj=>by
   rw[qP,bD]
   show w.cell? _=_
   have hji:j<i:=by have:=(List.getElem?_eq_some_iff.1 hj).1;omega
   rw[kP,ip hji]at hj
   rw[oV,hcj j oM];exact hj)
 have hrz:=fun ty=>Lib.run_append_grow_zeros w 68 3 ty 29 i0 _ Ξ Ξ jL underlying3 q1 q2 (ζ ⟨g,0,δ⟩) i cap ((dQ xs).take i) bj7 (n+1-i) oM oM oM oM (by rw[q4];omega) (by rw[q4,hik];exact growslice_fits hr oM)
 rw[hik,<-hkk]at hrz
 obtain⟨G,hG⟩:=nm (grownCap w (n+1) cap 29)
 have hGn:n+1<=G:=by rw[<-hG];exact grownCap_ge w _ _ _
 have hGm:G<=yE:=by rw[<-hG];exact grownCap_le_maxLen w _ _ _ (by unfold yE;omega)
 rw[hG]at hrz
 obtain⟨bc,aG7⟩:=nm (((dQ xs).take i).toArray++ee (Δ ⟨#[]⟩).cells (n+1-i)++ee (Δ ⟨#[]⟩).cells (G-(n+1)))
 rw[aG7]at hrz
 have hRs:bc.size=G:=by
  rw[<-aG7,lM,lM,Bj,Bj]
  simp only[Value.cells,bI,xt,aC,bB]
  omega
 have hRj:∀j,j<i->bc[j]? =(dQ xs)[j]?:=fun j hj=>by
  rw[<-aG7,Array.append_assoc,Array.getElem?_append_left (by simp only[bI,xt];exact hj),bC,kP,ip hj]
 obtain⟨H,hH⟩:=nm w.heap.size
 have hHn:(w.drew.alloc (π bc 29)).heap[H]? =ζ (π bc 29 (0,0)):=by rw[<-hH];exact World.alloc_heap_new w.drew _
 obtain⟨k1,g1⟩:=sY [Δ (bs t)] i _ bc hHn
 obtain⟨k2,g2⟩:=sY ((dQ xs).drop i) (i+1) ((w.drew.alloc (π bc 29)).setCells H i [Δ (bs t)]).drew _ k1
 have lI:(Kw bc i [Δ (bs t)]).size=G:=by rw[wN];exact hRs
 have R:aQ (Xf B i n (Θ (ζ ⟨g,0,δ⟩) n cap) xs t w (σ (Θ (ζ ⟨H,0,δ⟩) (n+1) G)) (((w.drew.alloc (π bc 29)).setCells H i [Δ (bs t)]).drew.setCells H (i+1) ((dQ xs).drop i))):=by
  refine⟨⟨H,G,rfl,aq7 B i n xs t oM k2 hGn hGm (by rw[wN,wN];exact hRs) hl oM fun j hj=>?_,.inr oM⟩,?_⟩
  .rw[Ci _ _ _ _ (by rw[lI,hdl];omega),Ci _ _ _ _ (by rw[hRs];simp only[aC,bB];omega),hdl]
   simp only[aC,bB]
   by_cases h1:j<i
   .rw[iN oM,iN oM,ip h1,hRj j h1]
   .by_cases h2:j=i
    .rw[iN oM,ip oM,iN h1,ip h2,h2,CI];rfl
    .rw[ip oM,iN h1,iN h2,pO]
     congr 1;omega
  .obtain⟨a1,a2,a3,a4,a5⟩:=g1
   obtain⟨b1,b2,b3,b4,b5⟩:=g2
   have xZ:w.heap.size<=(w.drew.alloc (π bc 29)).heap.size:=sP
   refine⟨b1.trans a1,b2.trans a2,b3.trans a3,aA xZ (aA a4 b4),fun k hk hne=>?_⟩
   rw[b5 k (show k<((w.drew.alloc (π bc 29)).setCells H i [Δ (bs t)]).heap.size by omega) (fun e=>by injection e with e;omega)]
   show((w.drew.alloc (π bc 29)).setCells H i [Δ (bs t)]).heap[k]? =_
   rw[a5 k oM (fun e=>by injection e with e;omega)]
   exact((μ w.heap.size w.drew).alloc (θ _) _).block k hk
 have hN:∀j,j<n+1->((w.drew.alloc (π bc 29)).cell? ⟨H,j,δ⟩).isSome=ι:=fun j hj=>by
  rw[Ij _ H j bc _ _ hHn,nI oM];rfl
 have hOb:∀b j,b<w.heap.size->(w.drew.alloc (π bc 29)).cell? ⟨b,j,δ⟩=w.cell? ⟨b,j,δ⟩:=fun b j h=>World.cell?_alloc_past (w:=w.drew) _ b j h
 obtain⟨W1,tZ⟩:=nm (w.drew.alloc (π bc 29))
 rw[tZ]at hN hOb hHn k1 R
 have br8:∀(W:η),(∀x,W.cell? x=W1.cell? x)->(∀x,W.frozen? x=W1.frozen? x)->∀ty dc,(Gg #[68,68] ty #[Θ (ζ ⟨H,i,δ⟩) (n+1-i) dc,Θ (ζ ⟨vb,0,δ⟩) 1 vc]).run γ W=.ok (goInt 1) (W.setCells H i [Δ (bs t)]):=fun W hc hf ty dc=>
  JD W _ _ ty 29 H i (n+1-i) dc ⟨vb,0,δ⟩ 1 vc [Δ (bs t)] jL Dv (by simp only[aC,bB,OX];split <;>omega)
   (fun j u hj=>by
    obtain rfl:j=0:=by have:=(List.getElem?_eq_some_iff.1 hj).1;simp at this;omega
    simp only[aU,vF]at hj
    subst hj
    rw[qP,hc,hOb vb _ hb.lt]
    exact hb.cell 0)
   (fun j hj=>by
    have:j=0:=by simp at hj;omega
    subst this
    rw[hc];exact hN _ oM)
   (fun j hj=>by rw[hf];exact Mn W1 H _ _ _ hHn) h1v
 have bj8:∀(W:η),(∀x,W.cell? x=(W1.setCells H i [Δ (bs t)]).cell? x)->(∀x,W.frozen? x=(W1.setCells H i [Δ (bs t)]).frozen? x)->∀ty dc sc,(Gg #[68,68] ty #[Θ (ζ ⟨H,i+1,δ⟩) (n-i) dc,Θ (ζ ⟨g,i,δ⟩) (n-i) sc]).run γ W=.ok (goInt ((dQ xs).drop i).length) (W.setCells H (i+1) ((dQ xs).drop i)):=fun W hc hf ty dc sc=>
  JD W _ _ ty 29 H (i+1) (n-i) dc ⟨g,i,δ⟩ (n-i) sc ((dQ xs).drop i) jL Dv (by rw[hdl];simp only[OX];split <;>omega)
   (fun j u hj=>by
    rw[qP,hc,Sz _ _ _ _ _ (fun h _=>by have h:g=H:=h;omega),hOb g _ ZB,oV,hcj _ (by have:=(List.getElem?_eq_some_iff.1 hj).1;omega)]
    rwa[pO]at hj)
   (fun j hj=>by rw[hc,Ij _ H _ _ _ _ k1,nI oM];rfl)
   (fun j hj=>by rw[hf];exact Mn _ H _ _ _ k1) h1c
 have hw1:IntKind.i64.wrap ((i:Int)+1)=(i:Int)+1:=aM _ oM
 have hw2:IntKind.i64.wrap ((n:Int)+1)=(n:Int)+1:=aM _ oM
 have hw3:IntKind.i64.wrap ((n:Int)+1-(i:Int))=(n:Int)+1-(i:Int):=aM _ oM
 have uT:¬((i:Int)=(n:Int)):=oM
 have hz3:(cap:Int)<(n:Int)+1:=oM
 have hb1:(0:Int)<=(i:Int)+1:=oM
 have hGi:¬(G=i):=oM
 have bv4:¬(G=i+1):=oM
 have hci:¬(cap=i):=oM
 have hin:i<=n:=oM
 have hb3:(i:Int)<=(n:Int)+1:=oM
 have hb5:(i:Int)<=(cap:Int):=oM
 have hb6:i<=cap:=oM
 have hb7:(i:Int)+1<=(n:Int)+1:=oM
 have hb4:(i:Int)<=(n:Int):=oM
 have FU:((i:Int)+1).toNat=i+1:=oM
 refine uN (show aE γ 156 #[Θ (ζ ⟨g,0,δ⟩) n cap,Υ Ξ i,Θ (ζ ⟨vb,0,δ⟩) 1 vc] w fun e w'=>e=σ (Θ (ζ ⟨H,0,δ⟩) (n+1) G)/\w'=(W1.setCells H i [Δ (bs t)]).drew.setCells H (i+1) ((dQ xs).drop i)from ?_) (fun e w' h=>by rw[h.1,h.2];exact R.o)
 rw[tZ]at hrz
 rw[hH]at hrz
 generalize(dQ xs).drop i=DS at *
 generalize bs t=T at *
 clear hl hn ho hB hv hb hbg hg htk hcj oV hdl xt h1c h1v k1 k2 g1 g2 lI CD Dv Ki Zh R bj7 hkk hik hG aG7 hRs hRj hN hOb hHn ZB hnc hr q1 q2 q3 q4 i0 hGm
 have br9:=fun ty dc sc=>bj8 (W1.setCells H i [Δ T]).drew (fun _=>rfl) (fun _=>rfl) ty dc sc
 clear bj8
 have mixed:Tryz.prog.follows .mixedOrders=ι:=kF
 go_enter Yg,Uq
 go_wp2_with (first
  |(at_builtin;refine Lib.wpList_append_run _ rfl _ _ _ _ rfl _ _ rfl rfl _ _ (hrz _) ?_)
  |(at_builtin;refine wpList_copy_runI _ rfl _ _ 68 68 rfl _ _ rfl rfl (br8 _ (fun _=>rfl) (fun _=>rfl) _ _) ?_))
 go_region_law_o (refine step_copy_runI rfl _ _ 68 68 rfl _ _ (by simp[Ye,oQ]) (by simp[Ye,oQ]) (br9 _ _ _) ?_)
 go_wp2
 go_ret
 exact⟨rfl,rfl⟩
theorem bd:aE γ 156 #[v,Υ Ξ i,Θ (ζ ⟨vb,0,δ⟩) 1 vc] w (Xf B i n v xs t w):=by
 by_cases he:i=n
 .exact az B vb vc i n v xs t w hl hi hn ho hB hv hb he
 rcases ho.2 with⟨_,h0⟩|⟨g,cap,pZ,h1,h2,h3,h4,h5,h6,h7⟩
 .omega
 rw[oh]at h6 h7;by_cases hr:n+1<=cap
 .exact Xg B vb vc i n v xs t w hl hi hn ho hB hv hb g cap pZ h1 h2 h3 h5 h6 h7 oM hr
 .exact Xh B vb vc i n v xs t w hl hi hn ho hB hv hb g cap pZ h1 h2 h3 h4 h6 h7 oM oM
end
end
section
open Go Go.RowKit Go.Lib
def vM(t:List UInt8):List (List UInt8)->Nat
 |[]=>0
 |x::xs=>if bZ x<bZ t then vM t xs+1 else 0
theorem MO(t):∀xs,vM t xs<=xs.length
 |[]=>θ _
 |x::xs=>by
  rw[vM]
  have:=MO t xs
  split
  .rw[aC];omega
  .omega
theorem TV(t):∀xs i,i<vM t xs->bZ (xs.getD i [])<bZ t
 |[],i,h=>by simp[vM]at h
 |x::xs,i,h=>by
  rw[vM]at h
  split at h
  .match i with
   |0=>assumption
   |i+1=>rw[jS];exact TV t xs i oM
  .omega
theorem MP(t):∀xs,nX xs->∀i,vM t xs<=i->i<xs.length->bZ t<=bZ (xs.getD i [])
 |[],_,i,_,h=>by simp at h
 |x::xs,ha,i,h,hi=>by
  unfold nX at ha
  rw[pY]at ha
  rw[vM]at h
  split at h
  .match i with
   |0=>omega
   |i+1=>rw[jS];exact MP t xs ha.2 i oM (by simpa using hi)
  .match i with
   |0=>rw[oe];grind
   |i+1=>
    rw[jS]
    have:=ha.1 _ (aN (i:=i) (by simpa using hi) [])
    grind
def TW(xs:List (List UInt8))(t:List UInt8):List (List UInt8):=if vM t xs<xs.length/\(fQ (xs.getD (vM t xs) []) t).1=0 then xs else DG xs (vM t xs) t
def Cq(b:Bool)(xs:List (List UInt8))(t:List UInt8):List (List UInt8):=if b=ι then TW xs t else xs
section
variable{xs:List (List UInt8)}{t:List UInt8}(hs:∀s∈xs,Sm s)(ht:Sm t)(ha:nX xs)
include hs ht ha
theorem aq8:nX (TW xs t):=by
 unfold TW;split
 .exact ha
 rename_i hn;unfold nX DG at *;rw[List.pairwise_append,pY];refine⟨ha.sublist (List.take_sublist _ _),⟨fun s h=>?_,ha.sublist (List.drop_sublist _ _)⟩,fun s h u hu=>?_⟩
 .obtain⟨j,hj,rfl⟩:=fC h;rw[dJ]at hj;rw[Lb];have h1:=MP t xs ha (vM t xs+j) oM oM;rw[Ω,aS oM,bK]at h1;by_cases h2:bZ t=bZ xs[vM t xs+j]
  .exfalso;by_cases hj0:j=0
   .subst hj0;refine hn ⟨oM,?_⟩;rw[Ω,aS oM,bK,(hs _ (fJ _)).cmp ht];simp only[jN]at h2;unfold mT;rw[iN (by grind),iN (by grind)]
   .rw[Cz]at ha;have h3:=ha (vM t xs) (vM t xs+j) oM oM oM;have h4:=MP t xs (List.pairwise_iff_getElem.2 ha) (vM t xs) (θ _) oM;rw[Ω,aS oM,bK]at h4;grind
  .grind
 .obtain⟨i,hi,rfl⟩:=List.mem_take_iff_getElem.1 h;have h1:=TV t xs i oM;rw[Ω,aS oM,bK]at h1;rcases List.mem_cons.1 hu with rfl|hu
  .exact h1
  .obtain⟨j,hj,rfl⟩:=fC hu;rw[dJ]at hj;rw[Lb];rw[Cz]at ha;exact ha _ _ oM oM oM
theorem Xi(z):z∈TW xs t↔z∈xs\/z=t:=by
 unfold TW;split
 .rename_i h;refine⟨.inl,fun k=>k.elim id fun e=>?_⟩;have hm:=aN h.1 ([]:List UInt8);have h2:=h.2;rw[(hs _ hm).cmp ht]at h2;have e2:bZ (xs.getD (vM t xs) [])=bZ t:=by
   rcases CV (bZ (xs.getD (vM t xs) [])) (bZ t)with⟨_,k⟩|⟨k,_⟩|⟨_,k⟩
   .rw[k]at h2;cases h2
   .exact k
   .rw[k]at h2;cases h2
  rw[e,<-(hs _ hm).inj ht e2];exact hm
 .unfold DG;rw[iV,jT];constructor
  .rintro(h|h|h)
   .exact .inl (List.mem_of_mem_take h)
   .exact .inr h
   .exact .inl (Gd h)
  .rintro(h|h)
   .rw[<-yK (vM t xs) xs,iV]at h;exact h.elim .inl fun h=>.inr (.inr h)
   .exact .inr (.inl h)
end
theorem aq9(xs t):(TW xs t).length<=xs.length+1:=by
 unfold TW;split
 .omega
 .rw[Ox _ _ (MO t xs)];exact θ _
structure Ls(xs:List (List UInt8))(ok:List UInt8->Prop)(n:Nat):Prop where
 sm:∀s∈xs,Sm s
 asc:nX xs
 len:xs.length<=n
 mem:∀z,z∈xs↔ok z
theorem Ls.nil:Ls [] (fun _=>False) 0:=⟨fun _ h=>absurd h sP,Fm,θ _,fun _=>⟨fun h=>absurd h sP,fun h=>h.elim⟩⟩
theorem Ls.put{ok:List UInt8->Prop}{n:Nat}(h:Ls xs ok n){t:List UInt8}(ht:Sm t)(b):Ls (Cq b xs t) (fun z=>ok z\/(b=ι/\z=t)) (n+1):=by
 unfold Cq;cases b with
 |false=>exact⟨h.sm,h.asc,Nat.le_succ_of_le h.len,fun z=>⟨fun k=>.inl ((h.mem z).1 k),fun k=>k.elim (fun k=>(h.mem z).2 k) fun k=>absurd k.1 dD⟩⟩
 |true=>
  rw[ip rfl];refine⟨fun s hm=>((Xi h.sm ht h.asc s).1 hm).elim (h.sm s) fun e=>by rw[e];exact ht,aq8 h.sm ht h.asc,aA (aq9 xs t) (Nat.succ_le_succ h.len),fun z=>?_⟩;rw[Xi h.sm ht h.asc,h.mem];simp
theorem Ls.iff{ok ok':List UInt8->Prop}{n:Nat}(h:Ls xs ok n)(hk:∀z,ok z↔ok' z):Ls xs ok' n:=⟨h.sm,h.asc,h.len,fun z=>(h.mem z).trans (hk z)⟩
theorem MQ{n:Nat}(hl:xs.length=n)(h:w.ownsRow B e 1 (Θ a n cap) n (dQ xs)):Al w a xs:=by
 intro i hi;rcases h.2 with⟨_,h0⟩|⟨g,c,pZ,hv,_⟩
 .omega
 .injection hv with e1 e2 e3;subst e1 e3;refine⟨g,0,rfl,?_⟩;rw[bD,dN h i oM];simp[dQ,Ω,hi]
theorem Below.grownW(h:Bw w W)(row):w.grownBy W row:=⟨h.os,h.tape,h.output,h.size,fun k hk _=>h.block k hk⟩
theorem Xj(g:Nat)(lb:Array χ)(eg:∀args w,(callFunc g args).run γ w=.ok (.enter g args) w)(B n:Nat)(v:χ)(xs:List (List UInt8))(t:List UInt8)(b:Bool)(w0 w:η)(hE:mV w0)(hb:Bw w0 w)(hB:B<=w.heap.size)
 (hl:xs.length=n)(hn:n<=90000)(hs:∀s∈xs,Sm s)(ha:nX xs)(ht:Sm t)(ho:w.ownsRow B 29 1 v n (dQ xs))
 (hc:∀W,Bw w W->aE γ g (#[Δ (bs t)]++lb) W fun e w'=>e=σ (ω b)/\Bw W w'):
 aE γ 104 #[v,Δ (bs t),.func (.func g) #[] lb] w fun e w'=>(∃v',e=σ v'/\w'.ownsRow B 29 1 v' (Cq b xs t).length (dQ (Cq b xs t))/\(v'.ownBlock=v.ownBlock\/∀g,v'.ownBlock=ζ g->w.heap.size<=g))/\w.grownBy w' v.ownBlock:=by
 obtain⟨a,cap,rfl⟩:∃a c,v=Θ a n c:=by
  rcases ho.2 with⟨h,h0⟩|⟨g,cap,pZ,h,_⟩
  .exact⟨δ,0,by rw[h,h0]⟩
  .exact⟨_,_,h⟩
 have HC:=zq hc;have hpn:=MO t xs;rw[hl]at hpn;have HS:=zq (fun(W:η)(hW:Bw w W)=>NU 55 (iC func55 kF rfl) (fun x y W hE hx hy=>JZ x y W hE hx hy) a n cap (vM t xs) xs t W (hE.below (aW hb hW)) oM hpn hs hl ht
  (fun i hi=>by rw[(hs _ (aN oM [])).lt ht];exact TV t xs i hi) (fun i h1 h2=>by
   have:=(hs _ (aN (i:=i) oM [])).lt ht;have h3:=MP t xs ha i h1 oM;rcases Int.lt_or_le (fQ (xs.getD i []) t).1 0 with h|h
   .have:=this.1 h;grind
   .exact h) (MQ hl (aR ho hW)))
 obtain⟨ob,Jw⟩:=nm (Θ a n cap).ownBlock;have HI:=zq (fun(W:η)(hW:Bw w W)=>bd B W.heap.size 1 (vM t xs) n (Θ a n cap) xs t (W.alloc (π #[Δ (bs t)] 29)) hl hpn oM ((aR ho hW).alloc _) (by rw[aL];have:=hW.size;omega)
  (fun e=>by
   have:=(aR ho hW).lt W.heap.size e.symm;omega) (bE.new W _ _))
 unfold Xf at HI;rw[Jw]at HI|-;have RN:aQ (b=ι->(vM t xs<n/\(fQ (xs.getD (vM t xs) []) t).1=0)->∀W,Bw w W->W.ownsRow B 29 1 (Θ a n cap) (Cq b xs t).length (dQ (Cq b xs t))):=fun h1 h2 W hW=>by
  have:Cq b xs t=xs:=by unfold Cq TW;rw[ip h1,ip (by rw[hl];exact h2)]
  rw[this,hl];exact aR ho hW
 have RI:aQ (b=ι->¬(vM t xs<n/\(fQ (xs.getD (vM t xs) []) t).1=0)->Cq b xs t=DG xs (vM t xs) t):=fun h1 h2=>by
  unfold Cq TW;rw[ip h1,iN (by rw[hl];exact h2)]
 have RF:aQ (b=ν->∀W,Bw w W->W.ownsRow B 29 1 (Θ a n cap) (Cq b xs t).length (dQ (Cq b xs t))):=fun h1 W hW=>by
  have:Cq b xs t=xs:=by unfold Cq;rw[iN (by rw[h1];decide)]
  rw[this,hl];exact aR ho hW
 have RL:aQ ((DG xs (vM t xs) t).length=n+1):=by show _=_;rw[Ox _ _ (MO t xs),hl]
 have Hob:=zq Jw;clear hE hb hB hl hs ha ht ho hc Jw hpn;generalize hM:Cq b xs t=M at *;clear hM;generalize vM t xs=p at *;obtain⟨fd,hfd⟩:=nm (decide (p<n/\(fQ (xs.getD p []) t).1=0));rw[hfd]at HS;have Hfd:=zq hfd;clear hfd;generalize(fQ (xs.getD p []) t).1=cc at *;generalize bs t=T at *;cases b with
 |false=>
  go_enter func104,ntmps104;go_wp2_with fail
  refine ka (HC.o w (μ _ _)) fun W1 hb1=>?_;have R:=zq (RF.o (by trivial) W1 hb1);go_wp2;go_ret;exact⟨⟨_,rfl,R.o,.inl Hob.o⟩,Below.grownW hb1 _⟩
 |true=>
  go_enter func104,ntmps104;go_wp2_with fail
  refine ka (HC.o w (μ _ _)) fun W1 hb1=>?_;have eG:=zq hb1;clear hb1;go_wp2_with fail
  refine ka (HS.o W1 eG.o) fun W2 hb2=>?_;have eU:=eG.bS hb2;clear hb2;cases fd with
  |true=>
   have R:=zq (RN.o (by trivial) (of_decide_eq_true Hfd.o) W2 eU.o);go_wp2;go_ret;exact⟨⟨_,rfl,R.o,.inl Hob.o⟩,Below.grownW eU.o _⟩
  |false=>
   have R:=zq (RI.o (by trivial) (of_decide_eq_false Hfd.o));have H2:=zq (HI.o W2 eU.o);have HA:=zq ((eU.o.alloc eU.o.size (π #[Δ T] 29)));go_wp2_with fail
   refine H2.o.mono ?_;rintro e W3⟨⟨g3,aX6,rfl,ho3,hg4⟩,hg3⟩;have RO:aQ (W3.ownsRow B 29 1 (Θ (ζ ⟨g3,0,δ⟩) (n+1) aX6) M.length (dQ M)):=by show Il _ _ _ _ _ _ _;rw[R.o,RL.o];exact ho3
   have RH:aQ ((Θ (ζ ⟨g3,0,δ⟩) (n+1) aX6).ownBlock=ob\/∀g,(Θ (ζ ⟨g3,0,δ⟩) (n+1) aX6).ownBlock=ζ g->w.heap.size<=g):=by
    rcases hg4 with h|h
    .exact .inl h.symm
    .refine .inr fun g e=>?_;have e:g3=g:=by simpa[iQ]using e
     have:=HA.o.size;rw[<-e];omega
   have RG:=zq (OW (Below.grownW HA.o ob) hg3);clear ho3 hg3 hg4;go_wp2;go_ret;exact⟨⟨_,rfl,RO.o,RH.o⟩,RG.o⟩
end
section
open Go Go.RowKit Go.Shelf Go.Lib
section
attribute[local go_sem] eQ
def kN(V V':η):Prop:=∀(k:Nat)(c:Array χ)(T:cS),V.heap[k]? =ζ (π c T (0,0))->T≠29->T≠68->V'.heap[k]? =ζ (π c T (0,0))
theorem kN.refl(V):kN V V:=fun _ _ _ h _ _=>h
theorem kN.trans{X Y Z:η}(h:kN X Y)(k:kN Y Z):kN X Z:=fun i c T hi h1 h2=>k i c T (h i c T hi h1 h2) h1 h2
theorem kN.call{X Y:η}(h:Bw X Y):kN X Y:=fun i _ _ hi _ _=>(h.block i (Array.getElem?_eq_some_iff.1 hi).1).trans hi
theorem kN.blk{X Y:World}(h:kN X Y){b:Nat}{cs:Array Value}{T:TypeId}(k:bE X b cs T)(h1:T≠29:=by decide)(h2:T≠68:=by decide):bE Y b cs T:=h b _ _ k h1 h2
theorem kN.own{X Y:World}(h:kN X Y){s n:Nat}{v:Value}{xs:List Value}(k:X.ownsRow B e s v n xs)(h1:e≠29:=by decide)(h2:e≠68:=by decide):Y.ownsRow B e s v n xs:=by
 refine⟨k.1,k.2.imp id ?_⟩;rintro⟨g,cap,pZ,e1,e2,e3,e4⟩;exact⟨g,cap,pZ,e1,e2,h g _ _ e3 h1 h2,e4⟩
theorem kN.putObj(W l o o')(h:W.heap[l]? =ζ o)(ho:o.isCells=ν):kN W (W.putObj l o'):=fun i c T hi _ _=>by
 by_cases e:i=l
 .subst e;rw[h]at hi;cases hi;cases ho
 .exact(World.putObj_heap_other e).trans hi
theorem kN.set{b:Nat}(hb:bE W b cs T)(hT:T=29\/T=68)(j v):kN W (W.setCell ⟨b,j,δ⟩ v):=fun i c S hi h1 h2=>by
 by_cases e:i=b
 .subst e
  have Ju:W.heap[i]? =ζ (π cs T (0,0)):=hb
  rw[Ju]at hi
  cases hi
  rcases hT with h|h
  .exact absurd h h1
  .exact absurd h h2
 .exact(dG W ⟨b,j,δ⟩ i v e).trans hi
theorem kN.grown{s n:Nat}{v:χ}{xs:List χ}(ho:W.ownsRow B 29 s v n xs)(hg:W.grownBy W' v.ownBlock):kN W W':=fun i c T hi h1 h2=>by
 refine(hg.block i (Array.getElem?_eq_some_iff.1 hi).1 fun e=>?_).trans hi
 rcases ho.2 with⟨h,_⟩|⟨g,cap,pZ,h,_,k,_⟩
 .rw[h]at e;cases e
 .rw[h]at e
  have e:i=g:=by simpa[iQ]using e
  subst e
  rw[hi]at k
  cases k
  exact h1 rfl
def KK(fs:List Fr)(n:Nat)(x:Nat×Nat):Prop:=x.1<x.2/\x.2<n/\(fs.getD x.1 Γ).up=(fs.getD x.2 Γ).up
def DH(fs:List Fr)(n i j:Nat)(L:List (Nat×Nat)):Prop:=∀x,KK fs n x->(x.1<i\/(x.1=i/\x.2<j))->x∈L
theorem DH.skip{n:Nat}(h:DH fs n i j L)(hn:(fs.getD i Γ).up≠(fs.getD j Γ).up):DH fs n i (j+1) L:=fun x hx hc=>by
 rcases hc with hc|⟨e,hc⟩
 .exact h x hx (.inl hc)
 .by_cases h2:x.2=j
  .exact absurd (by rw[<-e,<-h2];exact hx.2.2) hn
  .exact h x hx (.inr ⟨e,oM⟩)
theorem DH.put{n:Nat}(h:DH fs n i j L):DH fs n i (j+1) (L++[(i,j)]):=fun x hx hc=>by
 rw[iV,dE]
 rcases hc with hc|⟨e,hc⟩
 .exact .inl (h x hx (.inl hc))
 .by_cases h2:x.2=j
  .exact .inr (Prod.ext e h2)
  .exact .inl (h x hx (.inr ⟨e,oM⟩))
theorem DH.next{n:Nat}(h:DH fs n i n L):DH fs n (i+1) (i+1+1) L:=fun x hx hc=>by
 have:=hx.1;have:=hx.2.1
 rcases hc with hc|⟨e,hc⟩
 .by_cases h2:x.1=i
  .exact h x hx (.inr ⟨h2,oM⟩)
  .exact h x hx (.inl oM)
 .omega
def aG8(fs:List Fr)(n:Nat)(L:List (Nat×Nat)):Prop:=∀x,KK fs n x->x∈L
theorem DH.all{n:Nat}(h:DH fs n n j L):aG8 fs n L:=fun x hx=>h x hx (.inl (by have:=hx.1;have:=hx.2.1;omega))
theorem DH.zero(fs n):DH fs n 0 (0+1) []:=fun x hx hc=>by
 have:=hx.1;omega
theorem ar0(m Bf B0 v nf fs)(hf:fs.length=nf)(hn:nf<=24)(w)(ho:w.ownsRow B0 46 5 v nf (jM fs))(hB:bE w Bf #[v] 27):
 ah1 eD m γ 157 #[aB (ζ ⟨Bf,0,δ⟩)] (fun x:Nat×Nat=>#[Υ Ξ x.1,Υ Ξ x.2]) (fun k x=>KK fs nf x/\k.length < 576) (aG8 fs nf) kN w:=by
 intro l J Jx W hW hJ hY h0;obtain⟨a,ca,rfl⟩:∃ a c,v=Θ a nf c:=by
  rcases ho.2 with ⟨h,h0⟩ | ⟨g,cap,pZ,h,_⟩
  .exact⟨δ,0,by rw [h,h0]⟩
  .exact⟨_,_,h⟩
 have HO:=zq (aR ho hW);have HBf:=zq (hB.below hW hB.lt);have Hf:=zq hf;have HJ0:=zq h0;have HJ:=zq hJ;have HY:=zq hY;clear hf ho hB hW h0 hJ hY;refine callsIn_of_wp func157 rfl trivial ?_ rfl;simp only [ntmps157,bI,aC,bB,cL,dF,bG,bH,cE,bN,cM,bV];have k0:=HBf.o.ce 0;have kl:=HBf.o.lt;gi_wp2;gi_loopw [8] (fun i wr=>∃ (k:Nat) (L:List (Nat×Nat)),i=Υ Ξ (k:Int)/\k<=nf/\aQ (J L wr)/\aQ (kN W wr)/\aQ (DH fs nf k (k+1) L)/\L.length<=24 * k)
  (fun i _=>nf - (ξ i).toNat)
 case atStart=>exact⟨0,[],rfl,aP _,HJ0.o,kN.refl _,DH.zero _ _,aP _⟩
 case round=>
  clear k0 kl;obtain⟨k,L,rfl,hk,HJk,HK,HL,hLl⟩:=hrel;by_cases hlt:k < nf
  .obtain⟨fb,fo,rfl,c0,c1,c2,c3,c4⟩:=(yA.own (HK.o.own HO.o)).at (i:=k) (by rw [Hf.o];exact hlt) rfl;have Q4:=zq (bE.new wr (fs.getD k Γ).cells 46);have HB4:=zq (nA wr (π (fs.getD k Γ).cells 46));have HU:aQ (∀ j,KK fs nf (k,j)↔k < j/\j < nf/\(fs.getD k Γ).up=(fs.getD j Γ).up):=fun j=>Iff.rfl;have HSk:aQ (∀ j L2,DH fs nf k j L2->(fs.getD k Γ).up≠(fs.getD j Γ).up->DH fs nf k (j+1) L2):=fun j L2 h h2=>h.skip h2;unfold Fr.cells at Q4 HB4;generalize fs.getD k Γ=f at *;obtain⟨fup,fco,fdir,Ll,fst⟩:=f;simp only [] at *;generalize bs fst=FST,bs Ll=FSP at *;have k0:=(HK.o.blk HBf.o).cell 0;simp only [bC,aU] at k0;have kl:=(HK.o.blk HBf.o).lt;have hkn:(k:Int) < nf:=oM;gi_upto_region 3 with (fail);obtain⟨wb,Zs⟩:=nm (wr.alloc (π #[ω fup,Υ Ξ fco,Υ Ξ fdir,Δ FSP,Δ FST] 46));rw [Zs] at Q4 HB4 |-;have HKb:=zq (HK.o.trans (kN.call HB4.o));have HJb:=zq (HJ.o _ _ _ HJk.o HB4.o);clear c0 c1 c2 c3 c4 k0 kl Zs HB4 HJk HK;generalize wr.heap.size=b4 at *;have w3:IntKind.i64.wrap ((k:Int)+1)=((k+1:Nat):Int):=by rw [show((k+1:Nat):Int)=(k:Int)+1 by omega];exact aM _ oM
   gi_wp2;gi_loopw [5] (fun i wr2=>∃ (j:Nat) (L2:List (Nat×Nat)),i=Υ Ξ (j:Int)/\k+1<=j/\j<=nf/\aQ (J L2 wr2)/\aQ (kN wb wr2)/\aQ (DH fs nf k j L2)/\L2.length<=24 * k+j) (fun i _=>nf - (ξ i).toNat);case atStart=>exact⟨k+1,L,by go_num,θ _,oM,HJb.o,kN.refl _,HL.o,oM⟩
   case round=>
    clear w3;obtain⟨j,L2,rfl,hj1,hj,HJ2,Ma,Ny,hL2⟩:=hrel;rename η=>wi;have HKw:=zq (HKb.o.trans Ma.o);have q0:=HKw.o.blk HBf.o;have q4:=Ma.o.blk Q4.o;have k0:=q0.ce 0;have kl:=q0.lt;have u0:=q4.ce 0;have ul:=q4.lt;by_cases hjn:j < nf
    .obtain⟨fb',fo',e1,g0,g1,g2,g3,g4⟩:=(yA.own (HKw.o.own HO.o)).at (i:=j) (by rw [Hf.o];omega) rfl;injection e1 with e1;injection e1 with e1 e2;subst e1 e2;have HUj:=HU.o j;have HSj:=HSk.o j L2 Ny.o;have HPj:=Ny.o.put;generalize fs.getD j Γ=g at *;obtain⟨O7,re,IL,gsp,gst⟩:=g;simp only [] at *;have gl:=aD wi _ g0;have hji:(j:Int) < nf:=oM;have hj0:(0:Int)<=(j:Int):=oM;have w3:IntKind.i64.wrap ((j:Int)+1)=((j+1:Nat):Int):=by rw [show((j+1:Nat):Int)=(j:Int)+1 by omega];exact aM _ oM
     by_cases hu:fup=O7
     .obtain⟨YF⟩:Nonempty (∀ V,J L2 V->YieldAt eD (m - 1) γ l #[Υ Ξ k,Υ Ξ j] V fun e V'=>(e=σ (ω ι)/\J (L2 ++ [(k,j)]) V' /\kN V V')\/(e=σ (ω ν)/\Jx (L2 ++ [(k,j)]) V')):=⟨fun V hV=>HY.o L2 (k,j) V ⟨HUj.2 ⟨oM,hjn,hu⟩,oM⟩ hV⟩;have HYF:=zq YF;have HP:=zq HPj;clear YF HUj HSj HPj g1 g2 g3 g4;subst hu;gi_wp2;cases fup <;>
      .refine xB 12 (fun _=>.quiet) (fun w'=>w'.cell? ⟨Bf,0,δ⟩=ζ (Θ (ζ ⟨fb,fo,δ⟩) nf ca)/\w'.cell? ⟨b4,0,δ⟩=ζ (ω _)/\w'.cell? ⟨fb,fo+j * 5,δ⟩=ζ (ω _)) ⟨k0,u0,g0⟩ ?_ (st:=fun w1 w2 h hb=>⟨bw5 hb kl h.1,bw5 hb ul h.2.1,bw5 hb gl h.2.2⟩);refine qS 0 rfl (pu ?_);refine qS 1 rfl (pu ?_);refine qS 2 rfl (pu ?_);refine qS 3 rfl (pu ?_);refine qS 4 rfl (pu ?_);refine qS 5 rfl (pu ?_);refine qS 6 rfl (pu ?_);refine qS 7 rfl (pu ?_);refine qS 8 rfl (pu ?_);refine qS 9 rfl (pu ?_);refine qS 10 rfl (pu ?_);refine qS 11 rfl (pu ?_);refine qT fun V hV _=>?_;obtain⟨fn,tmps,assign,body,hy,hR⟩:=HYF.o V (HJ.o _ _ _ HJ2.o hV.b);have HVb:=zq (kN.call hV.b);refine eI 12 [] rfl (fun K hK=>?_) dW;rw [ip kF];go_simp;refine⟨fun h=>by simp [eD] at h,hR.mono ?_⟩;clear hy hR;rintro e W3 (⟨rfl,hJ3,hk3⟩ | ⟨rfl,aU8⟩)
       .show K _ _;refine hK _ _ (pu ?_);refine tI 13 rfl (pu ?_);refine tI 14 rfl (pu ?_);refine mL kF ?_ _;refine jH.normal ?_;gi_wp2;go_roundw;case rel=>exact⟨j+1,_,by go_num,oM,oM,hJ3,(Ma.o.trans HVb.o).trans hk3,HP.o,by rw [aJ];simp only [aC,bB];omega⟩
        case measure=>simp only [ξ];omega
       .show K _ _;refine hK _ _ (pu ?_);refine tI 13 rfl (pu ?_);refine tI 14 rfl (pu ?_);refine mL kF ?_ _;refine jH.normal ?_;gi_wp2;refine bodyPost_ret (results_none rfl _ _ _) rfl ?_;exact⟨⟨_,rfl⟩,.inr ⟨_,aU8⟩⟩
     .have HP:=zq (HSj hu);clear HUj HSj HPj g1 g2 g3 g4;gi_wp2;cases fup <;> cases O7 <;> (try (exact absurd rfl hu)) <;> clear hu;all_goals
       refine xB 15 (fun _=>.quiet) (fun w'=>w'.cell? ⟨Bf,0,δ⟩=ζ (Θ (ζ ⟨fb,fo,δ⟩) nf ca)/\w'.cell? ⟨b4,0,δ⟩=ζ (ω _)/\w'.cell? ⟨fb,fo+j * 5,δ⟩=ζ (ω _)) ⟨k0,u0,g0⟩ ?_ (st:=fun w1 w2 h hb=>⟨bw5 hb kl h.1,bw5 hb ul h.2.1,bw5 hb gl h.2.2⟩);refine qS 0 rfl (pu ?_);refine qS 1 rfl (pu ?_);refine qS 2 rfl (pu ?_);refine qS 3 rfl (pu ?_);refine qS 4 rfl (pu ?_);refine qS 5 rfl (pu ?_);refine qS 6 rfl (pu ?_);refine qS 7 rfl (pu ?_);refine qS 8 rfl (pu ?_);refine jk 9 rfl (pu ?_);refine jk 10 rfl (pu ?_);refine jk 11 rfl (pu ?_);refine jk 12 rfl (pu ?_);refine jk 13 rfl (pu ?_);refine qS 14 rfl (pu ?_);refine qE fun V hV _=>?_;have HVb:=zq (kN.call hV.b);have HJv:=zq (HJ.o _ _ _ HJ2.o hV.b);clear hV;gi_wp2;go_roundw;case rel=>exact⟨j+1,L2,by go_num,oM,oM,HJv.o,Ma.o.trans HVb.o,HP.o,oM⟩
       case measure=>simp only [ξ];omega
    .obtain rfl:nf=j:=oM;have HP:=zq Ny.o.next;have hjj:¬ ((nf:Int) < nf):=oM;gi_wp2;go_roundw;case rel=>exact⟨k+1,L2,by go_num,oM,HJ2.o,HKw.o,HP.o,oM⟩
     case measure=>simp only [ξ];omega
  .obtain rfl:nf=k:=oM;have hjj:¬ ((nf:Int) < nf):=oM;gi_wp2;go_end0;exact⟨⟨_,rfl⟩,.inl ⟨L,HL.o.all,HJk.o⟩⟩
end
end
end Go.Proofs.YtncclggcfgnhpaaGreatDoor
