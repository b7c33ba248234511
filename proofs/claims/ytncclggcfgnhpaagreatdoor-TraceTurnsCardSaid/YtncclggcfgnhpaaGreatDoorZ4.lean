import Derived.Shelf.SlicesE.Clone
import Derived.Test.YtncclggcfgnhpaaGreatDoorZ3
namespace Go.Proofs.YtncclggcfgnhpaaGreatDoor
set_option maxRecDepth 100000
set_option maxHeartbeats 8000000
set_option linter.all false
open Go.Proofs.Tryz
open _root_.Bool renaming true->ι,false->ν,and_eq_true->aI,false_eq_true->aK,not_eq_true'->bX
open _root_.Classical renaming byContradiction->aG
open _root_.Go renaming World->η,Value->χ,undef->ψ,Calls->aE,Addr->bW,TypeId->cS,heap_setCell_other->dG,below_drewN->dO,Act->iS,getD_set_ne->qQ
open Go.Ending renaming returned->σ
open Go.Instr renaming lookup->pT
open Go.IntKind renaming i64->Ξ
open Go.IntWalk renaming i64_in->aM
open Go.Obj renaming cells->π
open Go.Proofs renaming enters_of->iC
open Go.Proofs.Tryz renaming prog->γ,ntmps127->Un,func127->XW
open Go.RowKit renaming intOf->ξ,Hid->aQ
open Go.RowKit.Below renaming refl->μ
open Go.Sem renaming run->fD
open Go.Value renaming string->Δ,slice->Θ,int->Υ,bool->ω,pointer->aB,agg->bQ,tuple->bT,ownBlock->iQ
open Go.World renaming block_lt_of_cell?->aD,size_alloc->aL,size_setCell->pM,ownsRow_nil->rN,cell?_setCell_other->Qh
open _root_.Inhabited renaming default->Γ
open _root_.List renaming getD_eq_getElem?_getD->Ω,length_map->υ,length_cons->aC,length_append->aJ,getElem?_eq_getElem->aS,getElem?_cons_zero->aU,length_nil->bB,take_succ_eq_append_getElem->bM,mem_cons_self->bO,mem_cons_of_mem->cC,range->cI,length_take->dR,map_append->dV,map_map->eH,getElem_mem->fJ,map_cons->fN,flatMap_cons->gS,mem_append->iV,flatten_cons->jP,mem_cons->jT,flatMap_append->kA,append_nil->kQ,map->oO,append_assoc->sI,map_nil->wS,take_length->DM,take_append_drop->yK,drop_eq_getElem_cons->Sy
open _root_.Nat renaming le_refl->θ,le_trans->aA,zero_le->aP,mod_lt->aV,zero_add->bD,le_of_lt->fM,lt_or_ge->fO,sub_self->CI,add_assoc->LV
open _root_.Option renaming none->δ,some->ζ,getD_some->bK
variable{W W' w w2:η}{cH size c g cap G m2 m3 m4 j FB k B i t:Nat}{e:Rat}{us:List χ}{xs at' ys:List (List UInt8)}{S N:WL}{I:SL}{p:Pt}{u xv yv:χ}{cs fc pc:Array χ}{T:cS}{E:List Sg}{s a0 s':Int}{fs:List Fr}{z:List UInt8}{ls:List Lp}{ps:List Pt}{β:Type}{l:List Wy}{P:Program}{a:iS}{L:Array Bool}{w':World}
section
open Go Go.RowKit Go.Lib
theorem Tv{e n:Nat}{v:χ}(ho:W.ownsRow cH e size v n us){m:Nat}{es:Array MapEntry}(hm:W.heap[m]? =ζ (.map es c)):ζ m≠v.ownBlock:=by
 rcases ho.2 with⟨h,_⟩|⟨g,c',pZ,h,_,k,_⟩
 .rw[h];simp[iQ]
 .rw[h];intro e;have e:m=g:=by simpa[iQ]using e
  subst e;rw[hm]at k;cases k
section
variable{W W':η}{G:Nat}{xv yv:χ}{m2 m3 m4:Nat}{S N:WL}{I:SL}
theorem iJ.grown(h:iJ W G xv yv m2 m3 m4 S N I){e n:Nat}{v:χ}(ho:W.ownsRow cH e size v n us)(hne:117≠e)(hg:W.grownBy W' v.ownBlock):iJ W' G xv yv m2 m3 m4 S N I:=by
 obtain⟨h0,h2,h3,h4⟩:=h;exact⟨kT h0 hg (iL h0 ho hne),(hg.block m2 (Array.getElem?_eq_some_iff.1 h2).1 (Tv ho h2)).trans h2,(hg.block m3 (Array.getElem?_eq_some_iff.1 h3).1 (Tv ho h3)).trans h3,(hg.block m4 (Array.getElem?_eq_some_iff.1 h4).1 (Tv ho h4)).trans h4⟩
theorem iJ.setXY(h:iJ W G xv yv m2 m3 m4 S N I)(v):iJ (W.setCell ⟨G,0,δ⟩ v) G v yv m2 m3 m4 S N I/\iJ (W.setCell ⟨G,1,δ⟩ v) G xv v m2 m3 m4 S N I:=by
 obtain⟨h0,h2,h3,h4⟩:=h;exact⟨⟨h0.set 0 v,(dG W ⟨G,0,δ⟩ m2 v (lU h0 h2)).trans h2,(dG W ⟨G,0,δ⟩ m3 v (lU h0 h3)).trans h3,(dG W ⟨G,0,δ⟩ m4 v (lU h0 h4)).trans h4⟩,
  ⟨h0.set 1 v,(dG W ⟨G,1,δ⟩ m2 v (lU h0 h2)).trans h2,(dG W ⟨G,1,δ⟩ m3 v (lU h0 h3)).trans h3,(dG W ⟨G,1,δ⟩ m4 v (lU h0 h4)).trans h4⟩⟩
theorem iJ.five(h:iJ W G xv yv m2 m3 m4 S N I):W.cell? ⟨G,0,δ⟩=ζ xv/\W.cell? ⟨G,1,δ⟩=ζ yv/\W.frozen? ⟨G,0,δ⟩=ν/\W.frozen? ⟨G,1,δ⟩=ν/\G<W.heap.size:=
 ⟨h.blk.cell 0,h.blk.cell 1,h.blk.fz 0,h.blk.fz 1,h.blk.lt⟩
end
structure Tw(w0:η)(TB:Nat)(tc:Array χ)(B G C m2 m3 m4:Nat)(TX TY:ByteArray)(W:η)(vx vy ux uy:χ)(kx ky:Nat)(xs ys:List χ):Prop where
 grd:iJ W G vx vy m2 m3 m4 [] [] []
 pt:bE W C #[Δ TX,Δ TY] 59
 tr:bE W TB tc 70
 ox:W.ownsRow B 29 1 ux kx xs
 oy:W.ownsRow B 29 1 uy ky ys
 sep:ux.ownBlock=δ\/ux.ownBlock≠uy.ownBlock
 bel:Bw w0 W
 bs:B<=W.heap.size
 hb:w0.heap.size<=B
section
variable{w0:η}{TB:Nat}{tc:Array χ}{B G C m2 m3 m4:Nat}{TX TY:ByteArray}{W W':η}{vx vy ux uy:χ}{kx ky:Nat}{xs ys:List χ}
theorem Tw.below(h:Tw w0 TB tc B G C m2 m3 m4 TX TY W vx vy ux uy kx ky xs ys)(hb:Bw W W'):Tw w0 TB tc B G C m2 m3 m4 TX TY W' vx vy ux uy kx ky xs ys:=
 ⟨h.grd.below hb,h.pt.below hb h.pt.lt,h.tr.below hb h.tr.lt,aR h.ox hb,aR h.oy hb,h.sep,aW h.bel hb,aA h.bs hb.size,h.hb⟩
theorem Tw.freshX(h:Tw w0 TB tc B G C m2 m3 m4 TX TY W vx vy ux uy kx ky xs ys):ζ W.heap.size≠ux.ownBlock:=fun e=>by
 have:=(h.ox.lt _ e.symm).2;omega
theorem Tw.appX(h:Tw w0 TB tc B G C m2 m3 m4 TX TY W vx vy ux uy kx ky xs ys){Aw:List χ}(ho:W'.ownsRow B 29 1 (Θ (ζ ⟨g,0,δ⟩) (kx+1) cap) (kx+1) Aw)(hg:W.grownBy W' ux.ownBlock)(uE:ux.ownBlock=ζ g\/g=W.heap.size):
 Tw w0 TB tc B G C m2 m3 m4 TX TY W' vx vy (Θ (ζ ⟨g,0,δ⟩) (kx+1) cap) uy (kx+1) ky Aw ys:=by
 have hyk:uy.ownBlock=δ\/uy.ownBlock≠ux.ownBlock:=by
  rcases h.sep with h1|h1
  .rw[h1];cases uy.ownBlock with
   |none=>exact .inl rfl
   |some g=>exact .inr sP
  .exact .inr (Ne.symm h1)
 refine⟨h.grd.grown h.ox dD hg,kT h.pt hg (iL h.pt h.ox dD),kT h.tr hg (iL h.tr h.ox dD),ho,h.oy.kept hg hyk,.inr ?_,
  dT h.bel hg h.ox h.hb h.bel.size,aA h.bs hg.size,h.hb⟩
 show ζ g≠uy.ownBlock;intro e;rcases uE with h1|h1
 .rcases h.sep with h2|h2
  .rw[h2]at h1;cases h1
  .exact h2 (h1.trans e)
 .have:=(h.oy.lt g e.symm).2;omega
theorem Tw.appY(h:Tw w0 TB tc B G C m2 m3 m4 TX TY W vx vy ux uy kx ky xs ys){Fx:List χ}(ho:W'.ownsRow B 29 1 (Θ (ζ ⟨g,0,δ⟩) (ky+1) cap) (ky+1) Fx)(hg:W.grownBy W' uy.ownBlock)(uE:uy.ownBlock=ζ g\/g=W.heap.size):
 Tw w0 TB tc B G C m2 m3 m4 TX TY W' vx vy ux (Θ (ζ ⟨g,0,δ⟩) (ky+1) cap) kx (ky+1) xs Fx:=by
 refine⟨h.grd.grown h.oy dD hg,kT h.pt hg (iL h.pt h.oy dD),kT h.tr hg (iL h.tr h.oy dD),h.ox.kept hg h.sep,ho,?_,
  dT h.bel hg h.oy h.hb h.bel.size,aA h.bs hg.size,h.hb⟩
 by_cases hn:ux.ownBlock=δ
 .exact .inl hn
 .right;show ux.ownBlock≠ζ g;intro e;rcases uE with h1|h1
  .rcases h.sep with h2|h2
   .exact hn h2
   .exact h2 (e.trans h1.symm)
  .have:=(h.ox.lt g e).2;omega
theorem Tw.set(h:Tw w0 TB tc B G C m2 m3 m4 TX TY W vx vy ux uy kx ky xs ys)(hG:w0.heap.size<=G)(v):
 Tw w0 TB tc B G C m2 m3 m4 TX TY (W.setCell ⟨G,0,δ⟩ v) v vy ux uy kx ky xs ys/\Tw w0 TB tc B G C m2 m3 m4 TX TY (W.setCell ⟨G,1,δ⟩ v) vx v ux uy kx ky xs ys:=by
 have Uy:=h.grd.blk;have n1:C≠G:=Ad h.pt Uy dD;have n2:TB≠G:=Ad h.tr Uy dD;have kx':∀j,(W.setCell ⟨G,j,δ⟩ v).ownsRow B 29 1 ux kx xs:=fun j=>h.ox.kept (Kq W ⟨G,j,δ⟩ v) (.inr (Ne.symm (iL Uy h.ox dD)));have ky':∀j,(W.setCell ⟨G,j,δ⟩ v).ownsRow B 29 1 uy ky ys:=fun j=>h.oy.kept (Kq W ⟨G,j,δ⟩ v) (.inr (Ne.symm (iL Uy h.oy dD)));refine⟨⟨(h.grd.setXY v).1,h.pt.other v n1,h.tr.other v n2,kx' 0,ky' 0,h.sep,h.bel.setCell (p:=⟨G,0,δ⟩) hG v,by rw[pM];exact h.bs,h.hb⟩,
  ⟨(h.grd.setXY v).2,h.pt.other v n1,h.tr.other v n2,kx' 1,ky' 1,h.sep,h.bel.setCell (p:=⟨G,1,δ⟩) hG v,by rw[pM];exact h.bs,h.hb⟩⟩
theorem Tw.cells(h:Tw w0 TB tc B G C m2 m3 m4 TX TY W vx vy ux uy kx ky xs ys):W.cell? ⟨G,0,δ⟩=ζ vx/\W.cell? ⟨G,1,δ⟩=ζ vy/\W.cell? ⟨C,0,δ⟩=ζ (Δ TX)/\W.cell? ⟨C,1,δ⟩=ζ (Δ TY):=
 ⟨h.grd.cells.1,h.grd.cells.2.1,h.pt.cell 0,h.pt.cell 1⟩
end
def kM(ls:List Lp)(q k:Nat):List Pt:=(ls.take q).flatMap Lp.ps++(ls.getD q Γ).ps.take k
section
variable{ls:List Lp}{q k:Nat}
theorem V9(hk:k<(ls.getD q Γ).ps.length):kM ls q (k+1)=kM ls q k++[(ls.getD q Γ).ps.getD k Γ]:=by
 unfold kM;generalize(ls.getD q Γ).ps=L at *;rw[bM hk,<-sI];simp[Ω,aS hk]
theorem ai8(hq:q<ls.length):kM ls q (ls.getD q Γ).ps.length=kM ls (q+1) 0:=by
 unfold kM;rw[DM,bM hq,List.take_zero,kQ,kA];simp[Ω,aS hq]
theorem aB8:kM ls ls.length 0=ls.flatMap Lp.ps:=by
 unfold kM;rw[DM,List.take_zero,kQ]
theorem ZH(hq:q<ls.length):(kM ls q k).length<=(ls.flatMap Lp.ps).length:=by
 have e:ls.flatMap Lp.ps=(ls.take q).flatMap Lp.ps++((ls.getD q Γ).ps++(ls.drop (q+1)).flatMap Lp.ps):=by
  conv=>lhs;rw[<-yK q ls,Sy hq]
  rw[kA,gS];simp[Ω,aS hq]
 rw[e];unfold kM;simp only[aJ,dR];omega
theorem je(hq:q<ls.length)(hk:k<(ls.getD q Γ).ps.length):(ls.getD q Γ).ps.getD k Γ∈ls.flatMap Lp.ps:=by
 rw[List.mem_flatMap];refine⟨ls.getD q Γ,?_,?_⟩
 .rw[Ω,aS hq,bK];exact fJ _
 .generalize(ls.getD q Γ).ps=L at *;rw[Ω,aS hk,bK];exact fJ _
end
def Wa(B:Nat)(W:η)(G m2 m3 m4:Nat)(cs:List Po):Prop:=
 ∃vx vy:χ,iJ W G vx vy m2 m3 m4 [] [] []/\W.ownsRow B 29 1 vx cs.length (dQ (cs.map Po.x))/\W.ownsRow B 29 1 vy cs.length (dQ (cs.map Po.y))/\(vx.ownBlock=δ\/vx.ownBlock≠vy.ownBlock)
theorem Kr(l t):dQ (l++[t])=dQ l++[Δ (bs t)]:=by simp[dQ]
theorem Q9(w tc):∃W0,((((((w.alloc (π tc 70)).alloc (.map #[] 0)).alloc (.map #[] 0)).alloc (.map #[] 0)).alloc
 (π #[Θ δ 0 0,Θ δ 0 0,.map (ζ (w.heap.size+1)),.map (ζ (w.heap.size+1+1)),.map (ζ (w.heap.size+1+1+1))] 117)))=W0/\
 bE W0 w.heap.size tc 70/\iJ W0 (w.heap.size+1+1+1+1) (Θ δ 0 0) (Θ δ 0 0) (w.heap.size+1) (w.heap.size+1+1) (w.heap.size+1+1+1) [] [] []/\Bw w W0:=by
 have m (W:η) (o:Obj):(W.alloc o).heap[W.heap.size]? =ζ o:=heap_alloc_new W o;have k (W:η) (o:Obj) (b:Nat) (u:Obj) (h:W.heap[b]? =ζ u):(W.alloc o).heap[b]? =ζ u:=(Below.heap_alloc W o b (Array.getElem?_eq_some_iff.1 h).1).trans h;refine⟨_,rfl,?_,?_,?_⟩
 .exact((((bE.new w _ _).alloc _).alloc _).alloc _).alloc _
 .refine⟨?_,?_,?_,?_⟩
  .have:=bE.new ((((w.alloc (π tc 70)).alloc (.map #[] 0)).alloc (.map #[] 0)).alloc (.map #[] 0)) #[Θ δ 0 0,Θ δ 0 0,.map (ζ (w.heap.size+1)),.map (ζ (w.heap.size+1+1)),.map (ζ (w.heap.size+1+1+1))] 117;rwa[aL,aL,aL,aL]at this
  .have:=m (w.alloc (π tc 70)) (.map #[] 0);rw[aL]at this;exact k _ _ _ _ (k _ _ _ _ (k _ _ _ _ this))
  .have:=m ((w.alloc (π tc 70)).alloc (.map #[] 0)) (.map #[] 0);rw[aL,aL]at this;exact k _ _ _ _ (k _ _ _ _ this)
  .have:=m (((w.alloc (π tc 70)).alloc (.map #[] 0)).alloc (.map #[] 0)) (.map #[] 0);rw[aL,aL,aL]at this;exact k _ _ _ _ this
 .exact((((nA w _).alloc sP _).alloc (by simp <;>omega) _).alloc (by simp <;>omega) _).alloc (by simp <;>omega) _
structure Yt(w0:η)(TB:Nat)(tc:Array χ)(B G A m2 m3 m4:Nat)(W:η)(vx vy:χ):Prop where
 grd:iJ W G vx vy m2 m3 m4 [] [] []
 arr:bE W A #[aB (ζ ⟨G,0,δ⟩),aB (ζ ⟨G,1,δ⟩)] 118
 tr:bE W TB tc 70
 bel:Bw w0 W
 bs:B<=W.heap.size
 hb:w0.heap.size<=B
section
variable{w0:η}{TB:Nat}{tc:Array χ}{B G A m2 m3 m4:Nat}{W W':η}{vx vy:χ}
theorem Yt.grown(h:Yt w0 TB tc B G A m2 m3 m4 W vx vy){v:χ}{n:Nat}{xs:List χ}(ho:W.ownsRow B 29 1 v n xs)(hg:W.grownBy W' v.ownBlock):Yt w0 TB tc B G A m2 m3 m4 W' vx vy:=
 ⟨h.grd.grown ho dD hg,kT h.arr hg (iL h.arr ho dD),kT h.tr hg (iL h.tr ho dD),dT h.bel hg ho h.hb h.bel.size,aA h.bs hg.size,h.hb⟩
theorem Yt.set(h:Yt w0 TB tc B G A m2 m3 m4 W vx vy)(hG:w0.heap.size<=G)(v):Yt w0 TB tc B G A m2 m3 m4 (W.setCell ⟨G,0,δ⟩ v) v vy/\Yt w0 TB tc B G A m2 m3 m4 (W.setCell ⟨G,1,δ⟩ v) vx v:=by
 have Uy:=h.grd.blk;have n1:A≠G:=Ad h.arr Uy dD;have n2:TB≠G:=Ad h.tr Uy dD;exact⟨⟨(h.grd.setXY v).1,h.arr.other v n1,h.tr.other v n2,h.bel.setCell (p:=⟨G,0,δ⟩) hG v,by rw[pM];exact h.bs,h.hb⟩,
  ⟨(h.grd.setXY v).2,h.arr.other v n1,h.tr.other v n2,h.bel.setCell (p:=⟨G,1,δ⟩) hG v,by rw[pM];exact h.bs,h.hb⟩⟩
theorem Yt.below(h:Yt w0 TB tc B G A m2 m3 m4 W vx vy)(hb:Bw W W'):Yt w0 TB tc B G A m2 m3 m4 W' vx vy:=
 ⟨h.grd.below hb,h.arr.below hb h.arr.lt,h.tr.below hb h.tr.lt,aW h.bel hb,aA h.bs hb.size,h.hb⟩
end
theorem Ex{n:Nat}{vx vy v:χ}{xs:List χ}(h:iJ W G vx vy m2 m3 m4 S N I)(ho:W.ownsRow cH 29 1 v n xs):ζ G≠v.ownBlock:=iL h.blk ho dD
theorem aT7{p q:bW}{v:χ}(hne:p≠q)(h:W.cell? p=ζ v):(W.setCell q u).cell? p=ζ v:=(Qh _ _ _ _ (Ne.symm hne)).trans h
def jE(W:η)(g:Nat)(xs:List (List UInt8)):Prop:=∀i,i<xs.length->W.cell? ⟨g,i,δ⟩=ζ (Δ (bs (xs.getD i [])))
theorem jE.of_rd(h:Qy W (ζ ⟨g,0,δ⟩) (dQ xs)):jE W g xs:=fun i hi=>by
 obtain⟨b,off,e,hc⟩:=h i (by simp[dQ];exact hi)
 cases e
 rw[bD]at hc
 rw[hc]
 simp[dQ,Ω,hi]
theorem jE.far{row:Option Nat}(h:jE W g xs)(hg:W.grownBy W' row)(hne:ζ g≠row):jE W' g xs:=fun i hi=>(hg.cell_far ⟨g,i,δ⟩ (aD W ⟨g,i,δ⟩ (h i hi)) hne).trans (h i hi)
theorem jE.set{b:Nat}{v:χ}(h:jE W g xs)(hne:g≠b):jE (W.setCell ⟨b,j,δ⟩ v) g xs:=fun i hi=>aT7 (by intro e;injection e with e1 e2;exact hne e1) (h i hi)
theorem jE.below(h:jE W g xs)(hb:Bw W W'):jE W' g xs:=fun i hi=>(hb.cell (p:=⟨g,i,δ⟩) (aD W _ (h i hi))).trans (h i hi)
theorem Ey{a:bW}{v:χ}{m:Nat}{es:Array MapEntry}(h:W.cell? a=ζ v)(hm:W.heap[m]? =ζ (.map es c)):a.block≠m:=by
 intro e;unfold World.cell? at h;rw[e,hm]at h;cases h
structure Ks(w:η)(TB:Nat)(tc:Array χ)(G gx gy cx cy m2 m3 m4:Nat)(xs ys:List (List UInt8))(E:List Sg)(W:η):Prop where
 bel:Bw w W
 tr:bE W TB tc 70
 x:jE W gx xs
 y:jE W gy ys
 g:∃S N,iJ W G (Θ (ζ ⟨gx,0,δ⟩) xs.length cx) (Θ (ζ ⟨gy,0,δ⟩) ys.length cy) m2 m3 m4 S N []/\mI E S N
section
variable{w W W':η}{TB:Nat}{tc:Array χ}{G gx gy cx cy m2 m3 m4:Nat}{xs ys:List (List UInt8)}{E E':List Sg}
theorem Ks.below(h:Ks w TB tc G gx gy cx cy m2 m3 m4 xs ys E W)(hb:Bw W W'):Ks w TB tc G gx gy cx cy m2 m3 m4 xs ys E W':=by
 obtain⟨h1,h2,h3,h4,S,N,h5,h6⟩:=h;exact⟨aW h1 hb,h2.below hb h2.lt,h3.below hb,h4.below hb,S,N,h5.below hb,h6⟩
theorem Ks.next(h:Ks w TB tc G gx gy cx cy m2 m3 m4 xs ys E W)(h2:w.heap.size<=m2)(h3:w.heap.size<=m3)(hk:iX (fun j=>j=m2\/j=m3) W W')(hn:∃S N,iJ W' G (Θ (ζ ⟨gx,0,δ⟩) xs.length cx) (Θ (ζ ⟨gy,0,δ⟩) ys.length cy) m2 m3 m4 S N []/\mI E' S N):Ks w TB tc G gx gy cx cy m2 m3 m4 xs ys E' W':=by
 obtain⟨b1,b2,b3,b4,S,N,b5,-⟩:=h;have hc:∀{a:bW} {v:χ},W.cell? a=ζ v->¬(a.block=m2\/a.block=m3):=fun hv=>by
  rintro(e|e)
  .exact Ey hv b5.s e
  .exact Ey hv b5.n e
 refine⟨b1.trans (hk.below b1.size ?_),hk.blk b2 ?_,fun i hi=>hk.cell (b3 i hi) (hc (b3 i hi)),fun i hi=>hk.cell (b4 i hi) (hc (b4 i hi)),hn⟩
 .rintro k (e|e)<;>omega
 .rintro(e|e)
  .exact lU b2 b5.s e.symm
  .exact lU b2 b5.n e.symm
end
theorem NU(cf:Nat)(eg:∀args w,(callFunc cf args).run γ w=.ok (.enter cf args) w)(ru:∀(x y:List UInt8)(W:η),mV W->Sm x->Sm y->aE γ cf #[Δ (bs x),Δ (bs y)] W (Rt (Υ Ξ (fQ x y).1) W))
 (a:Option bW)(n cap p:Nat)(xs:List (List UInt8))(t:List UInt8)(w:η)(hE:mV w)(hn:n<=1000000)(hp:p<=n)(hs:∀s∈xs,Sm s)(hl:xs.length=n)(ht:Sm t)
 (ja:∀i,i<p->(fQ (xs.getD i []) t).1<0)(hhi:∀i,p<=i->i<n->0<=(fQ (xs.getD i []) t).1)(hc:Al w a xs):
 aE γ 155 #[Θ a n cap,Δ (bs t),.func (.func cf) #[] #[]] w (Rt (bT #[Υ Ξ p,ω (decide (p<n/\(fQ (xs.getD p []) t).1=0))]) w):=by
 have HC:=zq fun i(hi:i<n)W(hW:Bw w W)=>ru _ t W (hE.below hW) (hs _ (aN (by rw[hl];exact hi) [])) ht;have Hc:=zq hc;have Hl:=zq hl;have Hlo:=zq ja;have Hhi:=zq hhi;clear hE hs ht hc ja hhi hl ru;generalize hT:bs t=T at *;clear hT;obtain⟨R,hR⟩:=nm (decide (p<n/\(fQ (xs.getD p []) t).1=0));have HR:=zq hR;rw[hR];clear hR;go_enter func155,ntmps155;go_wp2;go_loopw[9,10] (fun i j wr=>∃x y:Nat,i=Υ Ξ x/\j=Υ Ξ y/\x<=p/\p<=y/\y<=n/\aQ (Bw w wr)) (fun i j _=>(ξ j-ξ i).toNat);case atStart=>exact⟨0,n,rfl,rfl,oM,oM,oM,μ _ _⟩
 case round=>
  obtain⟨x,y,rfl,rfl,hx,hy,hyn,HB⟩:=hrel;by_cases hxy:x<y
  .obtain⟨h,hh⟩:=nm ((x+y)/2);have hh1:x<=h:=oM;have hh2:h<y:=oM;have hhn:h<n:=oM;obtain⟨b,off,rfl,c0⟩:=(Hc.o.below HB.o) h (by rw[Hl.o];exact hhn);obtain⟨S,hS⟩:=nm (x+y);have w1:IntKind.i64.wrap ((x:Int)+(y:Int))=(S:Int):=by rw[show(x:Int)+(y:Int)=(S:Int) by omega];exact aM _ oM
   have w2:IntKind.u64.wrap (S:Int)=(S:Int):=IntWalk.u64_in _ ⟨oM,oM⟩;have e1:(S:Int)/2=h:=oM;have e2:S/2=h:=oM;have Hh:=zq hh;clear hh hS;have hcl:=HC.o h hhn _ HB.o;have HCL:=zq hcl;clear hcl;have lxy:(x:Int)<y:=oM;have lh:(h:Int)<n:=oM;have lh0:(0:Int)<=h:=oM;by_cases hph:h<p
   .have hneg:=Hlo.o h hph;generalize(fQ (xs.getD h []) t).1=c at *;go_wp2_with fail
    refine kb HCL.o HB.o fun W1 eG=>?_;go_wp2;go_roundw;case rel=>exact⟨h+1,y,by go_num,rfl,oM,oM,oM,eG.o⟩
    case measure=>simp only[ξ];omega
   .have hneg:=Hhi.o h oM hhn;have bt3:¬(fQ (xs.getD h []) t).1<0:=oM;generalize(fQ (xs.getD h []) t).1=c at *;go_wp2_with fail
    refine kb HCL.o HB.o fun W1 eG=>?_;go_wp2;go_roundw;case rel=>exact⟨x,h,rfl,by go_num,oM,oM,oM,eG.o⟩
    case measure=>simp only[ξ];omega
  .obtain rfl:x=p:=oM;obtain rfl:y=x:=oM;by_cases hyl:y<n
   .obtain⟨b,off,rfl,c0⟩:=(Hc.o.below HB.o) y (by rw[Hl.o];exact hyl);have hc2:=HC.o y hyl _ HB.o;have Ny:=zq hc2;have lt:(y:Int)<n:=oM;have hR2:decide ((fQ (xs.getD y []) t).1=0)=R:=by rw[<-HR.o];exact decide_eq_decide.2 ⟨fun h=>⟨hyl,h⟩,fun h=>h.2⟩
    clear hc2 hyl HR;have HR:=zq hR2;clear hR2;generalize(fQ (xs.getD y []) t).1=c at *;go_wp2_with fail
    refine ka Ny.o fun W1 hb1=>?_;have eG:=HB.bS hb1;clear hb1;by_cases h0:c=0
    .have e:R=ι:=by rw[<-HR.o];exact decide_eq_true h0
     subst h0;go_wp2;go_ret2;exact⟨by first |rfl|(rw[e];done)|(rw[e];rfl)|(simp[e];done),eG.o⟩
    .have e:R=ν:=by rw[<-HR.o];exact decide_eq_false h0
     have h':(c==0)=ν:=beq_false_of_ne h0;go_wp2;go_ret2;exact⟨by first |rfl|(rw[e];done)|(rw[e];rfl)|(simp[e];done),eG.o⟩
   .have e:R=ν:=by rw[<-HR.o];exact decide_eq_false fun h=>hyl h.1
    have lt:¬(y:Int)<n:=oM;go_wp2;go_ret2;exact⟨by first |rfl|(rw[e];done)|(rw[e];rfl)|(simp[e];done),HB.o⟩
theorem ai9(b off n cap p:Nat)(xs:List (List UInt8))(t:List UInt8)(w:η)(hE:mV w)(hn:n<=1000000)(hp:p<n)(hs:∀s∈xs,Sm s)(hl:xs.length=n)(ht:Sm t)
 (ja:∀i,i<p->(fQ (xs.getD i []) t).1<0)(hhi:∀i,p<=i->i<n->0<=(fQ (xs.getD i []) t).1)(h0:(fQ (xs.getD p []) t).1=0)(hc:∀i,i<n->w.cell? ⟨b,off+i,δ⟩=ζ (Δ (bs (xs.getD i [])))):
 aE γ 117 #[Θ (ζ ⟨b,off,δ⟩) n cap,Δ (bs t)] w (Rt (Υ Ξ p) w):=by
 have H:=zq (NU 37 (iC func37 kF rfl) (fun x y W hE hx hy=>nK x y W hE hx hy) (ζ ⟨b,off,δ⟩) n cap p xs t w hE hn (fM hp) hs hl ht ja hhi (fun i hi=>⟨b,off,rfl,hc i (by rw[<-hl];exact hi)⟩));rw[decide_eq_true (show p<n/\(fQ (xs.getD p []) t).1=0 from⟨hp,h0⟩)]at H;clear hE hs ht h0 hc ja hhi hl hn hp;generalize bs t=T at *;go_enter func117,ntmps117;go_wp2_with fail
 refine ka H.o fun W1 hb1=>?_;have eG:=zq hb1;clear hb1;go_wp2;go_ret;exact⟨rfl,eG.o⟩
theorem Ty(x y u w):aE γ 118 #[bQ #[Υ Ξ x,Υ Ξ y],ω u] w (Rt (Υ Ξ (if u=ι then y else x)) w):=by
 have gH:=zq (nA w (π #[Υ Ξ x,Υ Ξ y] 128));obtain⟨e0,e1,-,-,lT⟩:=(bE.new w #[Υ Ξ x,Υ Ξ y] 128).two;obtain⟨W0,fI⟩:=nm (w.alloc (π #[Υ Ξ x,Υ Ξ y] 128));rw[fI]at gH e0 e1 lT;cases u<;>
 .go_enter func118,ntmps118;go_upto_if 5 with(fail);try rw[fI]
  go_wp2;go_ret;exact⟨rfl,gH.o⟩
end
section
open Go Go.RowKit Go.Shelf Go.Lib
section
attribute[local go_sem] Oper.semAt_some
theorem be1{p q:bW}{v:χ}(hne:p≠q)(h:W.cell? p=ζ v):(W.setCell q u).cell? p=ζ v:=(Qh _ _ _ _ (Ne.symm hne)).trans h
theorem iX.setCell{X:Nat->Prop}(h:iX X W W'){q:Nat}(hq:W.heap.size<=q)(j v):iX X W (W'.setCell ⟨q,j,δ⟩ v):=
 ⟨h.os,h.tape,h.output,by rw[pM];exact h.size,fun k hk hn=>(dG W' ⟨q,j,δ⟩ k v (by show k≠q;omega)).trans (h.block k hk hn)⟩
theorem iJ.setCell(h:iJ W G xv yv m2 m3 m4 S N I){q:Nat}(hq:bE W q cs T)(hT:117≠T)(j v):iJ (W.setCell ⟨q,j,δ⟩ v) G xv yv m2 m3 m4 S N I:=
 ⟨h.blk.other v (GW h.blk hq hT),(dG W ⟨q,j,δ⟩ m2 v (lU hq h.s)).trans h.s,(dG W ⟨q,j,δ⟩ m3 v (lU hq h.n)).trans h.n,(dG W ⟨q,j,δ⟩ m4 v (lU hq h.i)).trans h.i⟩
structure LC(w:η)(G:Nat)(xv yv:χ)(m2 m3 m4 q FB PB:Nat)(up:Bool)(fc pc:Array χ)(I:SL)(E:List Sg)(s line a0:Int)(back:Bool)(k:Nat)(W:η):Prop where
 kept:iX (fun j=>j=m2\/j=m3) w W
 q:bE W q #[Υ Ξ (Bn up line (iY a0 back k)).1,Υ Ξ (Bn up line (iY a0 back k)).2] 128
 f:bE W FB fc 46
 p:bE W PB pc 35
 g:∃S N,iJ W G xv yv m2 m3 m4 S N I/\mI (E++[wK s up line a0 back k]) S N
theorem LC.below{q PB:Nat}{up:Bool}{line:Int}{back:Bool}(h:LC w G xv yv m2 m3 m4 q FB PB up fc pc I E s line a0 back k W)(hb:Bw W W'):LC w G xv yv m2 m3 m4 q FB PB up fc pc I E s line a0 back k W':=by
 obtain⟨h1,h2,h3,h4,S,N,h5,h6⟩:=h;exact⟨h1.step hb,h2.below hb h2.lt,h3.below hb h3.lt,h4.below hb h4.lt,S,N,h5.below hb,h6⟩
structure yH(w:η)(G:Nat)(xv yv:χ)(m2 m3 m4 q NB FB PB:Nat)(x y u v d:Int)(fc pc:Array χ)(I:SL)(S N:WL)(W:η):Prop where
 kept:iX (fun j=>j=m2\/j=m3) w W
 q:bE W q #[Υ Ξ u,Υ Ξ v] 128
 n:bE W NB #[Υ Ξ x,Υ Ξ y,Υ Ξ d] 130
 f:bE W FB fc 46
 p:bE W PB pc 35
 g:iJ W G xv yv m2 m3 m4 S N I
section
variable{w W W':η}{G:Nat}{xv yv:χ}{m2 m3 m4 q NB FB PB:Nat}{x y u v d:Int}{fc pc:Array χ}{I:SL}{S N:WL}
theorem yH.below(h:yH w G xv yv m2 m3 m4 q NB FB PB x y u v d fc pc I S N W)(hb:Bw W W'):yH w G xv yv m2 m3 m4 q NB FB PB x y u v d fc pc I S N W':=
 ⟨h.kept.step hb,h.q.below hb h.q.lt,h.n.below hb h.n.lt,h.f.below hb h.f.lt,h.p.below hb h.p.lt,h.g.below hb⟩
theorem yH.drewN(h:yH w G xv yv m2 m3 m4 q NB FB PB x y u v d fc pc I S N W)(n):yH w G xv yv m2 m3 m4 q NB FB PB x y u v d fc pc I S N (W.drewN n):=
 ⟨⟨h.kept.os,h.kept.tape,h.kept.output,h.kept.size,h.kept.block⟩,h.q,h.n,h.f,h.p,⟨h.g.blk,h.g.s,h.g.n,h.g.i⟩⟩
theorem yH.putS(h:yH w G xv yv m2 m3 m4 q NB FB PB x y u v d fc pc I S N W)(ha:Es m2 m3 m4)(J):yH w G xv yv m2 m3 m4 q NB FB PB x y u v d fc pc I J N (W.putObj m2 (mS kW vI J)):=
 ⟨h.kept.trans (.putObj W (.inl rfl) _),(fG _ _ _ _ (lU h.q h.g.s)).trans h.q,(fG _ _ _ _ (lU h.n h.g.s)).trans h.n,(fG _ _ _ _ (lU h.f h.g.s)).trans h.f,(fG _ _ _ _ (lU h.p h.g.s)).trans h.p,h.g.putS ha J⟩
theorem yH.putN(h:yH w G xv yv m2 m3 m4 q NB FB PB x y u v d fc pc I S N W)(ha:Es m2 m3 m4)(J):yH w G xv yv m2 m3 m4 q NB FB PB x y u v d fc pc I S J (W.putObj m3 (mS kW vI J)):=
 ⟨h.kept.trans (.putObj W (.inr rfl) _),(fG _ _ _ _ (lU h.q h.g.n)).trans h.q,(fG _ _ _ _ (lU h.n h.g.n)).trans h.n,(fG _ _ _ _ (lU h.f h.g.n)).trans h.f,(fG _ _ _ _ (lU h.p h.g.n)).trans h.p,h.g.putN ha J⟩
theorem yH.setQ(h:yH w G xv yv m2 m3 m4 q NB FB PB x y u v d fc pc I S N W)(hq:w.heap.size<=q)(u' v'):yH w G xv yv m2 m3 m4 q NB FB PB x y u' v' d fc pc I S N ((W.setCell ⟨q,0,δ⟩ (Υ Ξ u')).setCell ⟨q,1,δ⟩ (Υ Ξ v')):=
 ⟨(h.kept.setCell hq 0 _).setCell hq 1 _,(h.q.set 0 (Υ Ξ u')).set 1 (Υ Ξ v'),(h.n.other _ (GW h.n h.q dD)).other _ (GW h.n h.q dD),(h.f.other _ (GW h.f h.q dD)).other _ (GW h.f h.q dD),(h.p.other _ (GW h.p h.q dD)).other _ (GW h.p h.q dD),(h.g.setCell h.q dD 0 _).setCell (h.q.set 0 _) dD 1 _⟩
end
theorem aj0(up line a back)(hl:0<=line/\line<=100000)(ha:0<=a/\a<=100000)(hk:k<=100000):(-1000000<=(Bn up line (iY a back k)).1/\(Bn up line (iY a back k)).1<=1000000)/\(-1000000<=(Bn up line (iY a back k)).2/\(Bn up line (iY a back k)).2<=1000000):=by
 cases up<;>cases back<;>simp only[Bn,iY,aK,if_true,if_false]<;>omega
theorem tw(a back):iY a back 0=a:=by cases back<;>simp[iY]
theorem aB9(up line p w):aE γ 118 #[bQ #[Υ Ξ (Bn up line p).1,Υ Ξ (Bn up line p).2],ω up] w (Rt (Υ Ξ p) w):=by
 have:=Ty (Bn up line p).1 (Bn up line p).2 up w;rwa[bo4]at this
def be2(S1 S2:WL)(v:Wy)(s:Int):Prop:=S2=S1/\(∃t,mR S1 v=ζ t/\t<=s)\/S2=kJ S1 v s/\(∀t,mR S1 v=ζ t->s<t)
theorem LC.lat{q PB:Nat}{up:Bool}{line:Int}{back:Bool}{li:Nat}(h:LC w G xv yv m2 m3 m4 q FB PB up fc pc I E s line a0 back k W)(hl:(if up=ι then 1 else 0)=li):W.cell? ⟨q,li,δ⟩=ζ (Υ Ξ (iY a0 back k)):=by
 subst hl;cases up
 .exact h.q.ce 0
 .exact h.q.ce 1
theorem aT8{p:bW}{a:Int}{b:Bool}{n:Nat}(c:W.cell? p=ζ (Υ Ξ (iY a b k)))(d:W'.cell? p=ζ (Υ Ξ (iY a b (k+1))))(h:k<n):(ξ ((W'.cell? p).getD ψ)-iY a b n).natAbs<(ξ ((W.cell? p).getD ψ)-iY a b n).natAbs:=by
 rw[c,d];simp only[bK,ξ,iY];cases b<;>simp only[aK,if_false,if_true]<;>omega
theorem zE{p:Prop}(h:p:=by
 go_wp2;go_roundw;case rel=>exact⟨k+1,oM,HR.o⟩
 case measure=>exact aT8 Hwr.o (HE.o _ _ HR.o) oM):p:=h
theorem zT{p:Prop}(h:p:=by
  clear HLT HUp hmo n0 n1 n2 p0 lP g2 g3 lG ln
  have p0:=HM8.o.p.ce 0
  have lP:=HM8.o.p.lt
  have s0:=HM8.o.q.ce 0
  have s1:=HM8.o.q.ce 1
  go_wp2_with fail
  (with_reducible refine ka (HSt.o _) fun W9 hb9=>?_)
  have HM9:=zq (HM8.o.below hb9)
  have Rc:=zq ((HM8.o.below hb9).setQ hqge x2 y2)
  clear hb9 s0 s1 p0 lP HM8
  have s0:=HM9.o.q.ce 0
  have s1:=HM9.o.q.ce 1
  have z0:=HM9.o.q.fz 0
  have z1:=HM9.o.q.fz 1
  have lq:=HM9.o.q.lt
  first
  | (have hn:fup=ν:=HU.o
     have HR:aQ (LA (k+1) ((W9.setCell ⟨q,0,δ⟩ (Υ Ξ x2)).setCell ⟨q,1,δ⟩ (Υ Ξ y2))):=by
       rw [<- HLA.o]
       exact⟨Rc.o.kept,by rw [HE2.o];exact Rc.o.q,Rc.o.f,Rc.o.p,S2,N1,Rc.o.g,HL7.o.next HS2.o (.inl ⟨rfl,hn⟩)⟩
     clear hn
     exact zE)
  | (have hn:fup=ι:=HU.o
     have n0:=Rc.o.n.ce 0
     have n1:=Rc.o.n.ce 1
     have n2:=Rc.o.n.ce 2
     have a0':=Rc.o.q.ce 0
     have a1':=Rc.o.q.ce 1
     have g3:=Rc.o.g.blk.ce 3
     have lG:=Rc.o.g.blk.lt
     have ln:=Rc.o.n.lt
     have lqa:=Rc.o.q.lt
     rw [HD.o] at n2
     obtain⟨WA,Uu⟩:=nm ((W9.setCell ⟨q,0,δ⟩ (Υ Ξ x2)).setCell ⟨q,1,δ⟩ (Υ Ξ y2))
     rw [Uu] at Rc n0 n1 n2 g3 a0' a1' lG ln lqa
     have HWA:=zq Uu
     obtain⟨kp,hkp⟩:=nm (Bn fup line (iY a0 back (if back=ι then k+1 else k)))
     obtain⟨kx,hkx⟩:=nm kp.1
     obtain⟨ky,hky⟩:=nm kp.2
     obtain⟨dz,hdz⟩:=nm (if back=ι then(-1:Int) else 1)
     obtain⟨z,hz⟩:=nm ((mR N1 ⟨kx,ky,1⟩).getD 0)
     have hzb:=NJ (E ++ [wK s fup line a0 back k]) kx ky
     rw [<- HL7.o.net kx ky,hz,aJ,List.length_singleton] at hzb
     have Zw:fD γ (pT 114 (.map (ζ m3)) (bQ #[Υ Ξ kx,Υ Ξ ky,Υ Ξ 1]) ν) WA.drew= .ok (Υ Ξ z) WA.drew:=by
       rw [<- hz]
       exact BM (w:=WA.drew) Rc.o.g.n kx ky 1
     obtain⟨pe,he,hpe⟩:=ax3 (w:=WA.drew) (zero:=(0:Int)) Qp SN ab4 Rc.o.g.n ⟨kx,ky,1⟩
     rw [hz] at he hpe
     have he:fD γ (Instr.mapEntry 114 (.map (ζ m3)) (bQ #[Υ Ξ kx,Υ Ξ ky,Υ Ξ 1])) WA.drew= .ok (bT #[Υ Ξ z,Υ Ξ pe]) (WA.drew.putObj m3 (mS kW vI (kJ N1 ⟨kx,ky,1⟩ z))):=he
     have HMB:=zq ((Rc.o.drewN 1).putN hA (kJ N1 ⟨kx,ky,1⟩ z))
     obtain⟨WB,hWB⟩:=nm ((WA.drewN 1).putObj m3 (mS kW vI (kJ N1 ⟨kx,ky,1⟩ z)))
     rw [hWB] at HMB
     have hWB:WA.drew.putObj m3 (mS kW vI (kJ N1 ⟨kx,ky,1⟩ z))=WB:=hWB
     have HMC:=zq (HMB.o.putN hA (kJ N1 ⟨kx,ky,1⟩ (z+dz)))
     rw [hWB] at he
     have aC0:=BM (w:=WB) HMB.o.g.n kx ky 1
     unfold rU at aC0
     rw [D9,ip rfl] at aC0
     have aC0:fD γ (pT 114 (.map (ζ m3)) (bQ #[Υ Ξ kx,Υ Ξ ky,Υ Ξ 1]) ν) WB= .ok (Υ Ξ z) WB:=aC0
     have hes:=aa8 (P:=γ) (T:=114) (w:=WB) HMB.o.g.n hpe (z+dz)
     rw [aa6] at hes
     have hes:fD γ (Instr.entryStore 114 (.map (ζ m3)) (Υ Ξ pe) (Υ Ξ (z+dz))) WB= .ok () (WB.putObj m3 (mS kW vI (kJ N1 ⟨kx,ky,1⟩ (z+dz)))):=hes
     have wz:IntKind.i64.wrap (z+dz)=z+dz:=(aM _ (by rw [<- hdz];split <;> omega)).trans oM
     have HR:aQ (LA (k+1) (WB.putObj m3 (mS kW vI (kJ N1 ⟨kx,ky,1⟩ (z+dz))))):=by
       rw [<- HLA.o]
       exact⟨HMC.o.kept,by rw [HE2.o];exact HMC.o.q,HMC.o.f,HMC.o.p,S2,_,HMC.o.g,HL7.o.next HS2.o (.inr ⟨by rw [hkp,hkx,hky,hdz,hz],hn⟩)⟩
     have HEl:=zq hEl
     first
     | (have hb:back=ν:=HV.o
        have hq:¬ back=ι:=by rw [hb];decide
        rw [iN hq] at hkp hdz
        rw [HE1.o] at hkp
        subst hkp hkx hky hdz
        clear hz hpe hWB Uu Rc hzb hn hb hq
        go_upto_region 17 with (fail))
     | (have hb:back=ι:=HV.o
        rw [ip hb] at hkp hdz
        rw [HE2.o] at hkp
        subst hkp hkx hky hdz
        have wz:IntKind.i64.wrap (z - 1)=z+(-1):=wz
        clear hz hpe hWB Uu Rc hzb hn hb
        go_upto_region 19 with (fail))
     rw [HWA.o]
     clear HWA
     go_region
     all_goals exact zE)):p:=h
theorem zP{p:Prop}(h:p:=by
 have HSe:=zq hS2;clear HN3 HN1 hS2;go_quiet (fail)
 go_upto_region 13 with(fail)
 go_region;all_goals
  obtain⟨W8,hW8⟩:=nm ((W7.drewN (nq+1)).putObj m2 (mS kW vI S3));have HM8:=zq ((HM7.o.drewN (nq+1)).putS hA S3);rw[hW8]at HM8|-;rw[HSe.o]at HM8;clear hW8 HSe;exact zT):p:=h
theorem zL{p:Prop}(h:p:=by
 have HU:=zq hU;have HV:=zq hV;have HD:=zq hd;have HLA:=zq hLA;have Hli:=zq hli;rw[hU]at f0 hpe;simp only[aK,if_false,if_true]at hpe;rw[hd];have HPe:=zq hpe;have HE:aQ (∀k W,LA k W->W.cell? ⟨q,li,δ⟩=ζ (Υ Ξ (iY a0 back k))):=by
  intro k W h;rw[<-hLA]at h;exact LC.lat h hli
 clear hpe hU hV hLA hli hd;go_wp2_with fail
 (with_reducible refine ka (HPe.o _ HB4.o) fun W5 hb5=>?_);have HK5:aQ (LA 0 W5):=by
  rw[<-HLA.o];exact⟨iX.of_below (aW HB4.o hb5),by rw[tw,<-hpt];exact HQs.o.below hb5 HQs.o.lt,HF4.o.below hb5 HF4.o.lt,HQ4.o.below hb5 HQ4.o.lt,S,N,HG4.o.below hb5,mI.zero.2 hI⟩
 clear hb5 g0 g1 p2 f0 lG HB4 HF4 HQ4 HG4 HQs HPx HPy HPe;go_wp2;go_loopw[12] (fun _ wr=>∃k:Nat,k<=n/\aQ (LA k wr)) (fun _ wr=>(ξ ((wr.cell? ⟨q,li,δ⟩).getD ψ)-iY a0 back n).natAbs);case atStart=>exact⟨0,aP _,HK5.o⟩
 case round=>
  clear HK5 hpt hI;obtain⟨k,hk,HI⟩:=hrel;have Hwr:=zq (HE.o _ _ HI.o);have h:=HI.o;rw[<-HLA.o]at h;have HI:aQ (LC w G (Θ (ζ ⟨gx,0,δ⟩) X cx) (Θ (ζ ⟨gy,0,δ⟩) Y cy) m2 m3 m4 q FB (w.heap.size+1) fup #[ω fup,Υ Ξ fco,Υ Ξ fdir,Δ FSP,Δ FST] #[Υ Ξ s,Δ PF,Δ PE] I E s line a0 back k wr):=h;clear h;obtain⟨hK,hq,hF,hP,S1,N1,hG,hL⟩:=HI.o;obtain⟨x,hx⟩:=nm (Bn fup line (iY a0 back k)).1;obtain⟨y,hy⟩:=nm (Bn fup line (iY a0 back k)).2;rw[hx,hy]at hq;have s0:=hq.ce 0;have s1:=hq.ce 1;have lq:=hq.lt;have f0:=hF.ce 0;have hlw:=fun W=>aB9 fup line (iY a0 back k) W;rw[hx,hy,HU.o]at hlw;rw[HU.o]at f0;have HLw:=zq hlw;have Hx:=zq hx;have Hy:=zq hy;clear hlw hx hy;go_wp2_with fail
  (with_reducible refine ka (HLw.o _) fun W6 hb6=>?_);by_cases hkn:k=n
  .subst hkn;go_wp2;go_end0;exact⟨⟨_,rfl⟩,hK.step hb6,S1,N1,hG.below hb6,hL⟩
  .have hne:¬iY a0 back k=iY a0 back n:=fun e=>hkn (ai3 e);have HA6:=zq (HI.o.below hb6);clear hK hq hF hP hG hL hb6 s0 s1 lq f0 HI HLw;obtain⟨hK,hq,hF,hP,S1,N1,hG,hL⟩:=HA6.o;rw[Hx.o,Hy.o]at hq;have s0:=hq.ce 0;have s1:=hq.ce 1;have lq:=hq.lt;have p0:=hP.ce 0;have lP:=hP.lt;have g2:=hG.blk.ce 2;have g3:=hG.blk.ce 3;have lG:=hG.blk.lt;obtain⟨x2,J7⟩:=nm (Bn fup line (iY a0 back (k+1))).1;obtain⟨y2,VK⟩:=nm (Bn fup line (iY a0 back (k+1))).2;have IW:B8 fup line a0 back k=⟨x,y,dd⟩:=by rw[<-Hx.o,<-Hy.o,<-hdd];rfl
   have hb:=aj0 fup line a0 back (k:=k) hln ha0 oM;rw[Hx.o,Hy.o]at hb;have HSt:aQ (∀W,aE γ 119 #[bQ #[Υ Ξ x,Υ Ξ y],Υ Ξ dd] W (Rt (bQ #[Υ Ξ x2,Υ Ξ y2]) W)):=fun W=>by
    have h1:=Kk x y dd (hdd▸aB3 fup back) W hb.1 hb.2;have h2:=ah9 fup line a0 back k;rw[IW,hdd]at h2;rwa[show fU x dd=x2 from(congrArg Prod.fst h2).trans J7,show fV y dd=y2 from(congrArg Prod.snd h2).trans VK]at h1
   rw[HD.o]at HSt;have HE2:aQ (Bn fup line (iY a0 back (k+1))=(x2,y2)):=by show _=_;rw[<-J7,<-VK]
   have HE1:aQ (Bn fup line (iY a0 back k)=(x,y)):=by show _=_;rw[<-Hx.o,<-Hy.o]
   have be3:=zq IW;obtain⟨W7,hW7⟩:=nm (W6.alloc (π #[Υ Ξ x,Υ Ξ y,Υ Ξ dd] 130));have hb7:Bw W6 W7:=by rw[<-hW7];exact nA _ _
   have HL7:=zq hL;have HM7:aQ (yH w G (Θ (ζ ⟨gx,0,δ⟩) X cx) (Θ (ζ ⟨gy,0,δ⟩) Y cy) m2 m3 m4 q W6.heap.size FB (w.heap.size+1) x y x y dd #[ω fup,Υ Ξ fco,Υ Ξ fdir,Δ FSP,Δ FST] #[Υ Ξ s,Δ PF,Δ PE] I S1 N1 W7):=⟨hK.step hb7,hq.below hb7 hq.lt,by rw[<-hW7];exact bE.new _ _ _,hF.below hb7 hF.lt,hP.below hb7 hP.lt,hG.below hb7⟩;rw[HD.o]at hW7;have HW7:=zq hW7;clear J7 VK IW hb hK hq hF hP hG hL hb7 HA6 hW7 Hx Hy;go_upto_region 11 with(fail)
   rw[HW7.o];clear HW7 s0 s1 lq p0 lP g2 g3 lG;obtain⟨n0,n1,n2⟩:=HM7.o.n.three;rw[HD.o]at n2;have p0:=HM7.o.p.ce 0;have lP:=HM7.o.p.lt;have g2:=HM7.o.g.blk.ce 2;have g3:=HM7.o.g.blk.ce 3;have lG:=HM7.o.g.blk.lt;have ln:=HM7.o.n.lt;generalize W6.heap.size=NB at *;have HLT:∀m,fD γ (pT 114 (.map (ζ m2)) (bQ #[Υ Ξ x,Υ Ξ y,Υ Ξ dd]) ι) (W7.drewN m)=.ok (bT #[Υ Ξ ((mR S1 ⟨x,y,dd⟩).getD 0),ω (mR S1 ⟨x,y,dd⟩).isSome]) (W7.drewN m):=fun m=>ae9 (w:=W7.drewN m) HM7.o.g.s x y dd;obtain⟨S3,hS3⟩:=nm (kJ S1 ⟨x,y,dd⟩ (s:Int));have HUp:∀m,fD γ (Instr.mapUpdate 114 (.map (ζ m2)) (bQ #[Υ Ξ x,Υ Ξ y,Υ Ξ dd]) (Υ Ξ s)) (W7.drewN m)=.ok () ((W7.drewN m).putObj m2 (mS kW vI S3)):=fun m=>by rw[<-hS3];exact SI (w:=W7.drewN m) Qp SN HM7.o.g.s ⟨x,y,dd⟩ (s:Int)
   rw[HD.o]at HLT HUp;have HN3:aQ (∀S2,S3=S2->(∀t,mR S1 ⟨x,y,dd⟩=ζ t->(s:Int)<t)->be2 S1 S2 (B8 fup line a0 back k) s):=fun S2 h2 h=>by rw[be3.o,<-h2];exact .inr ⟨hS3.symm,h⟩
   have HN1:aQ (∀S2,S1=S2->∀t,mR S1 ⟨x,y,dd⟩=ζ t->t<=(s:Int)->be2 S1 S2 (B8 fup line a0 back k) s):=fun S2 h t h1 h2=>by rw[be3.o];exact .inl ⟨h.symm,t,h1,h2⟩
   obtain⟨mo,hmo⟩:=nm (mR S1 ⟨x,y,dd⟩);rw[hmo]at HLT;clear hS3;rcases mo with _|t
   .simp only[Option.getD_none,Option.isSome_none]at HLT;obtain⟨S2,hS2⟩:=nm S3;have HS2:=zq (HN3.o S2 hS2 (by rw[hmo];intro t ht;cases ht));exact zP
   .simp only[bK,Option.isSome_some]at HLT;by_cases hlt:(s:Int)<t
    .obtain⟨S2,hS2⟩:=nm S3;have HS2:=zq (HN3.o S2 hS2 (by rw[hmo];intro t' ht;cases ht;exact hlt));exact zP
    .obtain⟨S2,hS2⟩:=nm S1;have HS2:=zq (HN1.o S2 hS2 t hmo oM);have HSe:=zq hS2;clear HN3 HN1 hS2;go_quiet (fail)
     obtain⟨W8,hW8⟩:=nm (W7.drewN nq);have HM8:=zq (HM7.o.drewN nq);rw[hW8]at HM8|-;rw[HSe.o]at HM8;clear hW8 HSe;exact zT):p:=h
theorem aj1 (a b2:Option bW) (nf ca c2:Nat) (fs:List Fr) (at':List (List UInt8)) (p:Pt) (s:Nat) (G gx gy X Y cx cy m2 m3 m4:Nat) (S N:WL) (I:SL) (E:List Sg) (px py:List UInt8) (ix iy ie line a0:Int) (back:Bool) (n:Nat) (w:η)
 (hs:p.side=s) (Jv:s < nf) (hf:fs.length=nf) (hl:at'.length=nf) (rf:yA w a fs) (ra:Al w b2 at') (hco:bA fs at' p=⟨px,py⟩)
 (hpx:∀ W,Bw w W->aE γ 117 #[Θ (ζ ⟨gx,0,δ⟩) X cx,Δ (bs px)] W (Rt (Υ Ξ ix) W))
 (hpy:∀ W,Bw w W->aE γ 117 #[Θ (ζ ⟨gy,0,δ⟩) Y cy,Δ (bs py)] W (Rt (Υ Ξ iy) W))
 (hpe:∀ W,Bw w W->aE γ 117 #[if (fs.getD s Γ).up=ι then Θ (ζ ⟨gy,0,δ⟩) Y cy else Θ (ζ ⟨gx,0,δ⟩) X cx,Δ (bs p.en)] W (Rt (Υ Ξ ie) W))
 (hpt:(ix,iy)=Bn (fs.getD s Γ).up line a0) (hie:ie=iY a0 back n) (hdir:qJ (fs.getD s Γ)=(Er (fs.getD s Γ).up back:Nat)) (hln:0<=line/\line<=100000) (ha0:0<=a0/\a0<=100000) (hnn:n<=100000) (hEl:E.length<=100000)
 (hA:Es m2 m3 m4) (hg:iJ w G (Θ (ζ ⟨gx,0,δ⟩) X cx) (Θ (ζ ⟨gy,0,δ⟩) Y cy) m2 m3 m4 S N I) (hI:mI E S N) :
 aE γ 66 #[bQ #[Θ a nf ca,Θ b2 nf c2],aB (ζ ⟨G,0,δ⟩),p.v] w fun e w'=>(∃ v,e=σ v)/\iX (fun j=>j=m2\/j=m3) w w' /\∃ S' N',iJ w' G (Θ (ζ ⟨gx,0,δ⟩) X cx) (Θ (ζ ⟨gy,0,δ⟩) Y cy) m2 m3 m4 S' N' I/\mI (E ++ [wK s (fs.getD s Γ).up line a0 back n]) S' N':=by
 have HCo:aQ (∀ W,Bw w W->aE γ 45 #[bQ #[Θ a nf ca,Θ b2 nf c2],p.v] W (Rt (bQ #[Δ (bs px),Δ (bs py)]) W)):=fun W hW=>by
  have:=BS a b2 nf ca c2 fs at' p s W hs Jv hf hl (rf.below hW) (ra.below hW);rwa [hco] at this
 have HPx:=zq hpx;have HPy:=zq hpy;have HPe:=zq hpe;have HD:aQ (∀ W,aE γ 31 #[(fs.getD s Γ).v] W (Rt (Υ Ξ (qJ (fs.getD s Γ))) W)):=fun W=>uU _ W;have fL:=(nA w (π #[Θ a nf ca,Θ b2 nf c2] 70)).alloc sP (π #[Υ Ξ s,Δ (bs p.fr),Δ (bs p.en)] 35);have q0:=(bE.new w #[Θ a nf ca,Θ b2 nf c2] 70).alloc (π #[Υ Ξ s,Δ (bs p.fr),Δ (bs p.en)] 35);have q1:=bE.new (w.alloc (π #[Θ a nf ca,Θ b2 nf c2] 70)) #[Υ Ξ s,Δ (bs p.fr),Δ (bs p.en)] 35;rw [aL] at q1;obtain⟨fb,fo,rfl,f0,f1,f2,f3,f4⟩:=(rf.below fL).at (i:=s) (by rw [hf];exact Jv) rfl;obtain⟨W0,fI⟩:=nm ((w.alloc (π #[Θ (ζ ⟨fb,fo,δ⟩) nf ca,Θ b2 nf c2] 70)).alloc (π #[Υ Ξ s,Δ (bs p.fr),Δ (bs p.en)] 35));have hGr:=hg.below fL;rw [fI] at fL q0 q1 f0 f1 f2 f3 f4 hGr;have gH:=zq fL;have rD:=zq q0;have Fv:=zq q1;have HGr:=zq hGr;obtain⟨e0,e1,-,-,lT⟩:=q0.two;obtain⟨p0,p1,p2⟩:=q1.three;have lP:=q1.lt;clear hf hl rf ra hco hg fL q0 q1 hGr hpx hpy hpe;unfold Fr.v Fr.cells at HD;unfold Pt.v Pt.cells at HCo |-;rw [hs] at HCo |-;clear hs;generalize fs.getD s Γ=f,qJ (fs.getD s Γ)=DF at *;obtain⟨fup,fco,fdir,Ll,fst⟩:=f;simp only [] at *;generalize bs p.en=PE,bs p.fr=PF,bs py=PY,bs px=PX,bs fst=FST,bs Ll=FSP at *;have sn:(s:Int) < (nf:Int):=oM;have bp2:=zq hdir;clear hdir;go_enter func66,ntmps66;go_upto_if 15 with (fail);have hF:=bE.new W0 #[ω fup,Υ Ξ fco,Υ Ξ fdir,Δ FSP,Δ FST] 46;have hbF:=nA W0 (π #[ω fup,Υ Ξ fco,Υ Ξ fdir,Δ FSP,Δ FST] 46);refine(HD.o _).mono ?_;rintro e W1 ⟨rfl,hb1⟩;have aj2:=hbF.trans (hb1.mono sP);have HF1:=zq (hF.below hb1 hF.lt);have eG:=gH.bS aj2;have rD:=rD.bb aj2;have Fv:=Fv.bb aj2;have HGr:=zq (HGr.o.below aj2);clear aj2 hb1 hbF hF e0 e1 lT p0 p1 p2 lP f0 f1 f2 f3 f4 gH HD sn fI;generalize W0.heap.size=FB at *;obtain⟨e0,e1,-,-,lT⟩:=rD.o.two;obtain⟨p0,p1,p2⟩:=Fv.o.three;go_wp2_with fail
 refine(HCo.o _ eG.o).mono ?_;rintro e W2 ⟨rfl,hb2⟩;have Pb:=HF1.bb hb2;have eU:=eG.bS hb2;have Fv:=Fv.bb hb2;have HGr:=zq (HGr.o.below hb2);clear hb2 e0 e1 lT p0 p1 p2 HF1 eG rD HCo;obtain⟨W3,hW3⟩:=nm (W2.alloc (π #[Δ PX,Δ PY] 59));have hb3:Bw W2 W3:=by rw [<- hW3];exact nA _ _
 have HC3:aQ (bE W3 W2.heap.size #[Δ PX,Δ PY] 59):=by rw [<- hW3];exact bE.new _ _ _
 have PN:=Pb.bb hb3;have HB3:=eU.bS hb3;have Q7:=Fv.bb hb3;have HG3:=zq (HGr.o.below hb3);clear hb3 Pb eU Fv HGr;go_upto_region 4 with (fail)
 try rw [hW3]
 clear hW3;generalize W2.heap.size=CB at *;obtain⟨g0,g1,-,-,-⟩:=HG3.o.cells;have lG:=HG3.o.blk.lt;obtain⟨c0,c1,-,-,lC⟩:=HC3.o.two;have HWs:aQ (Bw W3 W3.drew):=(μ _ W3).drew;have HWa:aQ (Bw W3 (W3.alloc (π #[Υ Ξ 0,Υ Ξ 0] 128)).drew):=(nA W3 _).drew;have HNq:aQ (bE (W3.alloc (π #[Υ Ξ 0,Υ Ξ 0] 128)).drew W3.heap.size #[Υ Ξ 0,Υ Ξ 0] 128):=bE.new W3 _ _;go_cut [9] (fun v W=>∃ q,v=aB (ζ ⟨q,0,δ⟩)/\W3.heap.size<=q/\aQ (bE W q #[Υ Ξ ix,Υ Ξ iy] 128)/\aQ (Bw W3 W));case first=>
  go_region_held3 (fun w'=>w'.cell? ⟨G,0,δ⟩=ζ (Θ (ζ ⟨gx,0,δ⟩) X cx)/\w'.cell? ⟨G,1,δ⟩=ζ (Θ (ζ ⟨gy,0,δ⟩) Y cy)/\w'.cell? ⟨CB,0,δ⟩=ζ (Δ PX)/\w'.cell? ⟨CB,1,δ⟩=ζ (Δ PY)) (first | go_keep | ((refine⟨?_,?_,?_,?_⟩) <;> (repeat (first | assumption | refine be1 (by intro e;injection e with e1 e2;(try simp only [World.size_drew] at e1);omega) ?_))))
   (first
    | (go_at_call 117;(with_reducible refine(HPx.o _ (aW HB3.o HWs.o)).mono ?_);rintro e w1 ⟨rfl,hb1⟩;have Gw:=HWs.bS hb1;have sx:=Gw.o.size;have m0:=aY Gw.o g0;have m1:=aY Gw.o g1;have m2:=aY Gw.o c0;have m3:=aY Gw.o c1)
    | (go_at_call 117;(with_reducible refine(HPx.o _ (aW HB3.o HWa.o)).mono ?_);rintro e w1 ⟨rfl,hb1⟩;have Gw:=HWa.bS hb1;have sx:=Gw.o.size;have Hq:=HNq.bb hb1;obtain⟨z0,z1,z2,z3,lq⟩:=Hq.o.two;have m0:=aY Gw.o g0;have m1:=aY Gw.o g1;have m2:=aY Gw.o c0;have m3:=aY Gw.o c1)
    | (go_at_call 117;(with_reducible refine(HPy.o _ (aW HB3.o Gw.o)).mono ?_);rintro e w2 ⟨rfl,hb2⟩;have jf:=Gw.bS hb2;have sy:=jf.o.size;(first | (have Hq2:=Hq.bb hb2;obtain⟨y0,y1,y2,y3,lq2⟩:=Hq2.o.two) | skip);have m0:=aY jf.o g0;have m1:=aY jf.o g1;have m2:=aY jf.o c0;have m3:=aY jf.o c1)
    | (go_at_call 117;(with_reducible refine(HPy.o _ (aW HB3.o (Gw.o.alloc Gw.o.size (π #[Υ Ξ 0,Υ Ξ 0] 128)))).mono ?_);rintro e w2 ⟨rfl,hb2⟩;have jf:=zq (aW (Gw.o.alloc Gw.o.size (π #[Υ Ξ 0,Υ Ξ 0] 128)) hb2);have Hq2:=zq ((bE.new w1 #[Υ Ξ 0,Υ Ξ 0] 128).below hb2 (bE.new w1 _ _).lt);obtain⟨y0,y1,y2,y3,lq2⟩:=Hq2.o.two;have m0:=aY jf.o g0;have m1:=aY jf.o g1;have m2:=aY jf.o c0;have m3:=aY jf.o c1)
    | fail)
  all_goals
   go_wp2;go_meet;case rel=>
    first
     | exact⟨_,rfl,oM,bE.new w2 _ _,jf.o.alloc jf.o.size _⟩
     | exact⟨_,rfl,oM,(Hq2.o.set 0 _).set 1 _,(jf.o.setCell (p:=⟨w1.heap.size,0,δ⟩) Gw.o.size _).setCell (p:=⟨w1.heap.size,1,δ⟩) Gw.o.size _⟩
     | exact⟨_,rfl,oM,(Hq2.o.set 0 _).set 1 _,(jf.o.setCell (p:=⟨W3.heap.size,0,δ⟩) (θ _) _).setCell (p:=⟨W3.heap.size,1,δ⟩) (θ _) _⟩
     | fail
 case rest=>
 obtain⟨q,rfl,hqge,HQs,Do⟩:=hcut;have hqge:w.heap.size<=q:=aA HB3.o.size hqge;have HG4:=zq (HG3.o.below Do.o);have HF4:=zq (PN.o.below Do.o PN.o.lt);have HQ4:=zq (Q7.o.below Do.o Q7.o.lt);have HB4:=zq (aW HB3.o Do.o);clear HG3 PN Q7 HB3 Do HC3 HWs HWa HNq g0 g1 lG c0 c1 lC;obtain⟨g0,g1,-,-,-⟩:=HG4.o.cells;obtain⟨-,-,p2⟩:=HQ4.o.three;have f0:=HF4.o.cell 0;simp only [List.getElem?_toArray,aU] at f0;have lG:=HG4.o.blk.lt;have hpe:=HPe.o;clear HPe;subst hie;obtain⟨dd,hdd⟩:=nm (Er fup back);obtain⟨li,hli⟩:=nm (if fup=ι then 1 else 0);obtain⟨LA,hLA⟩:=nm (LC w G (Θ (ζ ⟨gx,0,δ⟩) X cx) (Θ (ζ ⟨gy,0,δ⟩) Y cy) m2 m3 m4 q FB (w.heap.size+1) fup #[ω fup,Υ Ξ fco,Υ Ξ fdir,Δ FSP,Δ FST] #[Υ Ξ s,Δ PF,Δ PE] I E s line a0 back);have hdr:=bp2.o;rw [hdd] at hdr;subst hdr;cases hU:fup
 .cases hV:back
  .have hd:(dd:Int)=0:=by rw [<- hdd,hU,hV];rfl
   exact zL
  .have hd:(dd:Int)=2:=by rw [<- hdd,hU,hV];rfl
   exact zL
 .cases hV:back
  .have hd:(dd:Int)=1:=by rw [<- hdd,hU,hV];rfl
   exact zL
  .have hd:(dd:Int)=3:=by rw [<- hdd,hU,hV];rfl
   exact zL
end
end
section
open Go Go.RowKit Go.Lib
theorem AO(g cap xs t w)(hE:mV w)(ha:nX xs)(hN:∀s∈xs,Nm s)(hn:xs.length<=1000000)(ht:t∈xs)(hc:jE w g xs):
 aE γ 117 #[Θ (ζ ⟨g,0,δ⟩) xs.length cap,Δ (bs t)] w (Rt (Υ Ξ (oK xs t)) w):=by
 obtain⟨h1,h2,h3⟩:=ai7 ha hN ht;exact ai9 g 0 xs.length cap (oK xs t) xs t w hE hn (vV ht) hN rfl (hN t ht) h1 h2 h3 (fun i hi=>by rw[bD];exact hc i hi)
theorem NV(B g n cap ds w W)(hE:mV w)(hB:Bw w W)(hb:w.heap.size<=B)(SY:0<n)(hn:n<=1000)(hl:ds.length=n)(hs:∀s∈ds,Nm s)(ho:W.ownsRow B 29 1 (Θ (ζ ⟨g,0,δ⟩) n cap) n (dQ ds)):
 aE γ 64 #[Θ (ζ ⟨g,0,δ⟩) n cap,.func (.func 37) #[] #[]] W fun e w'=>(∃v,e=σ v)/\w'.ownsRow B 29 1 (Θ (ζ ⟨g,0,δ⟩) n cap) n (dQ (ds.mergeSort leQ))/\W.grownBy w' (ζ g):=
 Vv 37 (iC func37 kF rfl) (fun x y W hE hx hy=>nK x y W hE hx hy) B g n cap ds w W hE hB hb oM hl hs ho
theorem Gx(B g n cap ds W)(hn:n<=1000)(hl:ds.length=n)(ho:W.ownsRow B 29 1 (Θ (ζ ⟨g,0,δ⟩) n cap) n (dQ (ds.mergeSort leQ))):
 aE γ 65 #[Θ (ζ ⟨g,0,δ⟩) n cap] W fun e w'=>e=σ (Θ (ζ ⟨g,0,δ⟩) (aH ds).length cap)/\jE w' g (aH ds)/\W.grownBy w' (ζ g):=by
 refine(Ns B g n cap (ds.mergeSort leQ) W hn (by rw[List.length_mergeSort];exact hl) ho).mono ?_;rintro e w'⟨L,hL,he,-,-,hr,hg⟩;have eL:L=aH ds:=by rw[hL,<-hl];rfl
 subst eL;exact⟨he,.of_rd hr,hg⟩
theorem Fy{s:Nat}(hs:p.side=s)(h:pV fs at' xs ys p):
 (((oK xs (bA fs at' p).x:Nat):Int),((oK ys (bA fs at' p).y:Nat):Int))=Bn (fs.getD s Γ).up (eP fs at' xs ys p).line (eP fs at' xs ys p).a/\
 ((if(fs.getD s Γ).up=ι then oK ys p.en else oK xs p.en:Nat):Int)=(eP fs at' xs ys p).b/\(eP fs at' xs ys p).side=s/\(eP fs at' xs ys p).up=(fs.getD s Γ).up/\
 (0<=(eP fs at' xs ys p).line/\(eP fs at' xs ys p).line<(if(fs.getD s Γ).up=ι then xs.length else ys.length:Nat))/\
 (0<=(eP fs at' xs ys p).a/\(eP fs at' xs ys p).a<(if(fs.getD s Γ).up=ι then ys.length else xs.length:Nat))/\
 (0<=(eP fs at' xs ys p).b/\(eP fs at' xs ys p).b<(if(fs.getD s Γ).up=ι then ys.length else xs.length:Nat)):=by
 obtain⟨-,h1,h2,h3,-,-⟩:=h;have es:p.side.toNat=s:=oM;unfold bA at h1 h2|-;unfold eP;rw[es]at h1 h2 h3|-;by_cases hu:(fs.getD s Γ).up=ι
 .simp only[ip hu]at h1 h2 h3|-;refine⟨by rw[hu];rfl,trivial,hs,hu.symm,⟨oM,?_⟩,⟨oM,?_⟩,⟨oM,?_⟩⟩
  .have:=vV h1;omega
  .have:=vV h2;omega
  .have:=vV h3;omega
 .simp only[iN hu]at h1 h2 h3|-;have hf:(fs.getD s Γ).up=ν:=by simpa using hu
  refine⟨by rw[hf];rfl,trivial,hs,hf.symm,⟨oM,?_⟩,⟨oM,?_⟩,⟨oM,?_⟩⟩
  .have:=vV h2;omega
  .have:=vV h1;omega
  .have:=vV h3;omega
theorem aj3(a b2 nf ca c2 fs at' p w W TB G gx gy cx cy m2 m3 m4 tc xs ys E)(hEn:mV w)(hf:fs.length=nf)(hl:at'.length=nf)(rf:yA w a fs)(ra:Al w b2 at')(hx:nX xs)(hy:nX ys)(Ts:∀s∈xs,Nm s)(VY:∀s∈ys,Nm s)(hX:xs.length<=1000)(hY:ys.length<=1000)(hEl:E.length<=100000)(hp:pV fs at' xs ys p)(hA:Es m2 m3 m4)(Bo:w.heap.size<=m2)(hm3:w.heap.size<=m3)(hL:Ks w TB tc G gx gy cx cy m2 m3 m4 xs ys E W):
 aE γ 66 #[bQ #[Θ a nf ca,Θ b2 nf c2],aB (ζ ⟨G,0,δ⟩),p.v] W fun e w'=>(∃v,e=σ v)/\Ks w TB tc G gx gy cx cy m2 m3 m4 xs ys (E++[eP fs at' xs ys p]) w':=by
 obtain⟨s,hs,Jv⟩:=hp.side
 have es:p.side.toNat=s:=oM
 obtain⟨f1,f2,f3,f4,⟨f5,f5'⟩,⟨f6,f6'⟩,⟨f7,f7'⟩⟩:=Fy hs hp
 have hb:=Ew hx hy Ts VY hp
 rw[es]at hb
 obtain⟨c1,qj⟩:=aT5 hb
 obtain⟨S,N,hg,hI⟩:=hL.g
 have hEW:=hEn.below hL.bel
 have q1:(if(fs.getD s Γ).up=ι then xs.length else ys.length:Nat)<=1000:=by split <;>assumption
 have q2:(if(fs.getD s Γ).up=ι then ys.length else xs.length:Nat)<=1000:=by split <;>assumption
 have:=aj1 a b2 nf ca c2 fs at' p s G gx gy xs.length ys.length cx cy m2 m3 m4 S N [] E (bA fs at' p).x (bA fs at' p).y (oK xs (bA fs at' p).x:Nat) (oK ys (bA fs at' p).y:Nat)
  ((if(fs.getD s Γ).up=ι then oK ys p.en else oK xs p.en:Nat):Int) (eP fs at' xs ys p).line (eP fs at' xs ys p).a (Ev (fs.getD s Γ)) (ZE (eP fs at' xs ys p) (Ev (fs.getD s Γ))) W
  hs oM hf hl (rf.below hL.bel) (ra.below hL.bel) rfl
  (fun V hV=>AO gx cx xs _ V (hEW.below hV) hx Ts oM hp.x (hL.x.below hV))
  (fun V hV=>AO gy cy ys _ V (hEW.below hV) hy VY oM hp.y (hL.y.below hV))
  (fun V hV=>by
   have he:=hp.en
   rw[es]at he
   by_cases hu:(fs.getD s Γ).up=ι
   .simp only[ip hu]at he|-
    exact AO gy cy ys _ V (hEW.below hV) hy VY oM he (hL.y.below hV)
   .simp only[iN hu]at he|-
    exact AO gx cx xs _ V (hEW.below hV) hx Ts oM he (hL.x.below hV))
  f1 (by rw[f2];exact qj) (NP _) ⟨f5,oM⟩ ⟨f6,oM⟩ (by unfold ZE;split <;>omega) hEl hA hg hI
 refine this.mono ?_
 rintro e w'⟨he,hk,hn⟩
 refine⟨he,hL.next Bo hm3 hk ?_⟩
 rw[f3,f4]at c1
 rw[c1]
 exact hn
end
section
open Go Go.RowKit Go.Shelf Go.Lib
theorem Wb(a b2 bl nf ca c2 cl nl N fs at' ls dx dy w)(hE:mV w)(hf:fs.length=nf)(hl:at'.length=nf)(LD:ls.length=nl)(bv0:nl<=1000)(hN:(ls.flatMap Lp.ps).length=N)(LH:0 < N)(hN1:N<=1000)(hdx:dx=(ls.flatMap Lp.ps).map fun p=> (bA fs at' p).x)(hdy:dy=(ls.flatMap Lp.ps).map fun p=> (bA fs at' p).y)(Re:∀ s∈dx,Nm s)(hny:∀ s∈dy,Nm s)(hp:∀ p∈ls.flatMap Lp.ps,pV fs at' (aH dx) (aH dy) p)(rf:yA w a fs)(ra:Al w b2 at')(rl:CE w bl ls):
 aE γ 27 #[bQ #[Θ a nf ca,Θ b2 nf c2],Θ bl nl cl] w fun e w'=>(∃ G gx gy cx cy m2 m3 m4 S Nn I,e=σ (aB (ζ ⟨G,0,δ⟩))/\
  iJ w' G (Θ (ζ ⟨gx,0,δ⟩) (aH dx).length cx) (Θ (ζ ⟨gy,0,δ⟩) (aH dy).length cy) m2 m3 m4 S Nn I/\jE w' gx (aH dx)/\jE w' gy (aH dy)/\
  mI ((ls.flatMap Lp.ps).map (eP fs at' (aH dx) (aH dy))) S Nn/\∀ i j,mW I i j=dK (aH dx).length (aH dy).length ((ls.flatMap Lp.ps).map (eP fs at' (aH dx) (aH dy))) i j)/\Bw w w':=by
 have ij:=@run_makeMap γ
 have aT9:dx.length=N:=by rw [hdx,υ];exact hN
 have aU0:dy.length=N:=by rw [hdy,υ];exact hN
 obtain⟨hax,hmx⟩:=gR Re
 obtain⟨hay,hmy⟩:=gR hny
 have Yu:(aH dx).length<=N:=by
  have:=C4 dx;omega
 have hly:(aH dy).length<=N:=by
  have:=C4 dy;omega
 have HCo:aQ (∀ q k,q < nl->k < (ls.getD q Γ).ps.length->∀ W,Bw w W->aE γ 45 #[bQ #[Θ a nf ca,Θ b2 nf c2],((ls.getD q Γ).ps.getD k Γ).v] W (Rt ((bA fs at' ((ls.getD q Γ).ps.getD k Γ)).v) W)):=fun q k hq hk W hW=>by
  obtain⟨s,h1,h2⟩:=(hp _ (je (by rw [LD];exact hq) hk)).side
  exact BS a b2 nf ca c2 fs at' _ s W h1 oM hf hl (rf.below hW) (ra.below hW)
 have be4:aQ (∀ q k,q < nl->k < (ls.getD q Γ).ps.length->∀ W TB G gx gy cx cy m2 m3 m4 tc,Es m2 m3 m4->w.heap.size<=m2->w.heap.size<=m3->Ks w TB tc G gx gy cx cy m2 m3 m4 (aH dx) (aH dy) ((kM ls q k).map (eP fs at' (aH dx) (aH dy))) W->
  aE γ 66 #[bQ #[Θ a nf ca,Θ b2 nf c2],aB (ζ ⟨G,0,δ⟩),((ls.getD q Γ).ps.getD k Γ).v] W fun e w'=>(∃ v,e=σ v)/\Ks w TB tc G gx gy cx cy m2 m3 m4 (aH dx) (aH dy) ((kM ls q (k+1)).map (eP fs at' (aH dx) (aH dy))) w'):=fun q k hq hk W TB G gx gy cx cy m2 m3 m4 tc h1 h2 h3 hL=>by
  have Zy:(kM ls q k).length<=N:=by rw [<- hN];exact ZH oM
  rw [V9 hk,dV]
  exact aj3 a b2 nf ca c2 fs at' _ w W TB G gx gy cx cy m2 m3 m4 tc (aH dx) (aH dy) _ hE hf hl rf ra hax hay (fun s hs=>Re s ((hmx s).1 hs)) (fun s hs=>hny s ((hmy s).1 hs)) oM oM (by rw [υ];omega) (hp _ (je oM hk)) h1 h2 h3 hL
 have Tz:aQ (∀ W,Bw w W->CE W bl ls):=fun W hW=>rl.below hW
 have HSx:aQ (∀ B g c W,w.heap.size<=B->Bw w W->W.ownsRow B 29 1 (Θ (ζ ⟨g,0,δ⟩) N c) N (dQ dx)->
  aE γ 64 #[Θ (ζ ⟨g,0,δ⟩) N c,.func (.func 37) #[] #[]] W fun e w'=>(∃ v,e=σ v)/\w'.ownsRow B 29 1 (Θ (ζ ⟨g,0,δ⟩) N c) N (dQ (dx.mergeSort leQ))/\W.grownBy w' (ζ g)):=
  fun B g c W hb hW ho=>NV B g N c dx w W hE hW hb LH hN1 aT9 Re ho
 have HSy:aQ (∀ B g c W,w.heap.size<=B->Bw w W->W.ownsRow B 29 1 (Θ (ζ ⟨g,0,δ⟩) N c) N (dQ dy)->
  aE γ 64 #[Θ (ζ ⟨g,0,δ⟩) N c,.func (.func 37) #[] #[]] W fun e w'=>(∃ v,e=σ v)/\w'.ownsRow B 29 1 (Θ (ζ ⟨g,0,δ⟩) N c) N (dQ (dy.mergeSort leQ))/\W.grownBy w' (ζ g)):=
  fun B g c W hb hW ho=>NV B g N c dy w W hE hW hb LH hN1 aU0 hny ho
 have HCx:aQ (∀ B g c W,W.ownsRow B 29 1 (Θ (ζ ⟨g,0,δ⟩) N c) N (dQ (dx.mergeSort leQ))->
  aE γ 65 #[Θ (ζ ⟨g,0,δ⟩) N c] W fun e w'=>e=σ (Θ (ζ ⟨g,0,δ⟩) (aH dx).length c)/\jE w' g (aH dx)/\W.grownBy w' (ζ g)):=
  fun B g c W ho=>Gx B g N c dx W hN1 aT9 ho
 have HCy:aQ (∀ B g c W,W.ownsRow B 29 1 (Θ (ζ ⟨g,0,δ⟩) N c) N (dQ (dy.mergeSort leQ))->
  aE γ 65 #[Θ (ζ ⟨g,0,δ⟩) N c] W fun e w'=>e=σ (Θ (ζ ⟨g,0,δ⟩) (aH dy).length c)/\jE w' g (aH dy)/\W.grownBy w' (ζ g)):=
  fun B g c W ho=>Gx B g N c dy W hN1 aU0 ho
 have HIn:aQ (∀ s∈(ls.flatMap Lp.ps).map (eP fs at' (aH dx) (aH dy)),s.line < ((aH dx).length:Int)\/s.up=ν):=fun s hs=>by
  obtain⟨p,hpm,rfl⟩:=List.mem_map.1 hs
  obtain⟨k,h1,h2⟩:=(hp p hpm).side
  obtain⟨-,-,-,f4,⟨f5,f5'⟩,-⟩:=Fy h1 (hp p hpm)
  by_cases hu:(fs.getD k Γ).up=ι
  .rw [ip hu] at f5';exact .inl f5'
  .rw [f4];exact .inr (by simpa using hu)
 have VU:aQ (kM ls nl 0=ls.flatMap Lp.ps):=by rw [<- LD];exact aB8
 have aN2:aQ (∀ q,q < nl->kM ls q (ls.getD q Γ).ps.length=kM ls (q+1) 0):=fun q hq=>ai8 oM
 have HPn:aQ (∀ q k,q < nl->k < (ls.getD q Γ).ps.length->kM ls q (k+1)=kM ls q k ++ [(ls.getD q Γ).ps.getD k Γ]):=fun q k _ hk=>V9 hk
 have ir:aQ (∀ q k,q < nl->(kM ls q k).length<=1000):=fun q k hq=>aA (ZH oM) oM
 have HNp:aQ (∀ q,q < nl->(ls.getD q Γ).ps.length<=1000):=fun q hq=>by
  have h1:=ZH (ls:=ls) (k:=(ls.getD q Γ).ps.length) (q:=q) oM
  unfold kM at h1
  rw [aJ,DM] at h1
  omega
 have HDx:=zq hdx
 have HDy:=zq hdy
 have HDl:aQ (N=(ls.flatMap Lp.ps).length):=hN.symm
 have HLx:aQ ((aH dx).length<=1000):=aA Yu hN1
 have HLy:aQ ((aH dy).length<=1000):=aA hly hN1
 have Hnl:=zq LD
 have HN0:=zq LH
 have Uz:aQ (((ls.flatMap Lp.ps).map (eP fs at' (aH dx) (aH dy))).length<=100000):=by rw [υ];show _<=_;omega
 clear hE hf hl LD hN LH hN1 hdx hdy Re hny hp rf ra rl aT9 aU0 hax hmx hay hmy Yu hly
 generalize aH dx=LX at *
 generalize aH dy=LY at *
 generalize hSG:eP fs at' LX LY=SG at be4 HIn Uz |-
 clear hSG
 generalize hCR:bA fs at' =CR at HCo HDx HDy
 clear hCR
 obtain⟨W0,fI,hT0,Uy,fL⟩:=Q9 w #[Θ a nf ca,Θ b2 nf c2]
 have jg:=zq hT0
 have VG:=zq Uy
 have gH:=zq fL
 have HwG:aQ (w.heap.size<=w.heap.size+1+1+1+1):=by show _<=_;omega
 have HM2:aQ (w.heap.size<=w.heap.size+1):=by show _<=_;omega
 have HM3:aQ (w.heap.size<=w.heap.size+1+1):=by show _<=_;omega
 have HM4:aQ (w.heap.size<=w.heap.size+1+1+1):=by show _<=_;omega
 have HAp:aQ (Es (w.heap.size+1) (w.heap.size+1+1) (w.heap.size+1+1+1)):=⟨oM,oM,oM⟩
 have HX0:aQ (Wa W0.heap.size W0 (w.heap.size+1+1+1+1) (w.heap.size+1) (w.heap.size+1+1) (w.heap.size+1+1+1) ((kM ls 0 0).map CR)):=⟨_,_,Uy,rN ..,rN ..,.inl rfl⟩
 have HwB:aQ (w.heap.size<=W0.heap.size):=fL.size
 clear hT0 Uy fL VG
 go_enter func27,ntmps27
 go_upto_if 22 with (fail)
 try rw [fI]
 clear fI
 generalize w.heap.size+1+1+1+1=G at *
 generalize hm4:w.heap.size+1+1+1=m4 at HM4 HAp HX0
 generalize hm3:w.heap.size+1+1=m3 at HM3 HAp HX0
 generalize Bo:w.heap.size+1=m2 at HM2 HAp HX0
 clear Bo hm3 hm4
 generalize bp3:w.heap.size=TB at jg |-
 obtain⟨B,hB⟩:=nm W0.heap.size
 have be5:aQ (B<=W0.heap.size):=by rw [<- hB];exact θ _
 rw [hB] at HX0 HwB
 clear hB
 go_loopw [24] (fun i wr=>(∃ q:Nat,q<=nl/\i=Υ Ξ (q:Int)/\aQ (Wa B wr G m2 m3 m4 ((kM ls q 0).map CR)))/\aQ (bE wr TB #[Θ a nf ca,Θ b2 nf c2] 70)/\aQ (Bw w wr)/\aQ (B<=wr.heap.size)) (fun i _=>nl - (ξ i).toNat)
 case atStart=>exact⟨⟨0,oM,rfl,HX0⟩,jg,gH,be5⟩
 case round=>
  clear HX0 jg gH be5
  obtain⟨⟨q,hq,rfl,HX⟩,HT,HB,HBs⟩:=hrel
  rename η=>wo
  by_cases hq1:q < nl
  .obtain⟨l,TA⟩:=nm (ls.getD q Γ)
   obtain⟨lb,lo,rfl,l0,-⟩:=(Tz.o _ HB.o).at (i:=q) (by rw [Hnl.o];exact hq1) TA
   have hco:=fun k=>HCo.o q k hq1
   have hpn:=fun k=>HPn.o q k hq1
   have hln:=aN2.o q hq1
   rw [TA] at hco hpn hln
   have bp4:=zq hco
   have bp5:=zq hpn
   have aU1:=zq hln
   clear hco hpn hln
   have hqI:(q:Int) < nl:=oM
   have q0:(0:Int)<=(q:Int):=oM
   have Hq1:=zq hq1
   obtain⟨np,PO⟩:=nm l.ps.length
   have bp6:np<=1000:=by rw [<- PO,<- TA];exact HNp.o q hq1
   rw [PO] at l0
   have Rh:=zq PO
   have Hlq:=zq TA
   clear PO hq1 hq TA
   go_wp2
   go_loopw [30] (fun i wr=>(∃ k:Nat,k<=np/\i=Υ Ξ (k:Int)/\aQ (Wa B wr G m2 m3 m4 ((kM ls q k).map CR)))/\aQ (bE wr TB #[Θ a nf ca,Θ b2 nf c2] 70)/\aQ (Bw w wr)/\aQ (B<=wr.heap.size)) (fun i _=>np - (ξ i).toNat)
   case atStart=>exact⟨⟨0,oM,rfl,HX⟩,HT,HB,HBs⟩
   case round=>
    clear HX HT HB HBs l0
    obtain⟨⟨k,hk,rfl,HX⟩,HT,HB,HBs⟩:=hrel
    rename η=>wi
    by_cases hlt:k < np
    .obtain⟨lb',lo',hla,-,rp⟩:=(Tz.o _ HB.o).at (i:=q) (by rw [Hnl.o];exact Hq1.o) Hlq.o
     obtain⟨pb,po,NW,d0,d1,d2⟩:=rp.at (i:=k) (by rw [Rh.o];exact hlt) rfl
     have QD:=zq (bp4.o k (by rw [Rh.o];exact hlt))
     have hne:=bp5.o k (by rw [Rh.o];exact hlt)
     have Zy:=ir.o q k Hq1.o
     rw [NW]
     have be6:∀ W vx vy,iJ W G vx vy m2 m3 m4 [] [] []->W.ownsRow B 29 1 vx (((kM ls q k).map CR).length+1) (dQ (((kM ls q k).map CR).map Po.x) ++ [Δ (bs (CR (l.ps.getD k Γ)).x)])->W.ownsRow B 29 1 vy (((kM ls q k).map CR).length+1) (dQ (((kM ls q k).map CR).map Po.y) ++ [Δ (bs (CR (l.ps.getD k Γ)).y)])->(vx.ownBlock=δ\/vx.ownBlock≠vy.ownBlock)->Wa B W G m2 m3 m4 ((kM ls q (k+1)).map CR):=fun W vx vy h1 h2 h3 h4=>by
      rw [hne,dV]
      refine⟨vx,vy,h1,?_,?_,h4⟩
      .rw [dV,fN,wS,fN,wS,Kr,aJ];exact h2
      .rw [dV,fN,wS,fN,wS,Kr,aJ];exact h3
     have HGn:=zq be6
     have hX0:=HX.o
     unfold Wa at hX0
     have LB:((kM ls q k).map CR).length<=1000:=by rw [υ];exact Zy
     clear hla rp NW hne Zy be6 HX
     generalize dQ (((kM ls q k).map CR).map Po.x)=XS at *
     generalize dQ (((kM ls q k).map CR).map Po.y)=YS at *
     generalize ((kM ls q k).map CR).length=n at *
     generalize hGD:l.ps.getD k Γ=p at HGn QD d0 d1 d2
     clear hGD
     unfold Po.v Po.cells at QD
     generalize CR p=cr at HGn QD
     obtain⟨crx,cry⟩:=cr
     simp only [] at HGn QD
     generalize bs crx=TX at *
     generalize bs cry=TY at *
     obtain⟨sd,pf,pe⟩:=p
     unfold Pt.v Pt.cells at QD
     simp only [] at *
     have hkI:(k:Int) < np:=oM
     have k0:(0:Int)<=(k:Int):=oM
     obtain⟨t0,t1,-,-,lT⟩:=HT.o.two
     go_wp2_with fail
     refine ka (QD.o _ (HB.o.alloc HB.o.size _)) fun W2 hb2=>?_
     have hb:Bw wi W2:=(nA wi _).trans (hb2.mono sP)
     have hX2:∃ vx vy:χ,iJ W2 G vx vy m2 m3 m4 [] [] []/\W2.ownsRow B 29 1 vx n XS/\W2.ownsRow B 29 1 vy n YS/\(vx.ownBlock=δ\/vx.ownBlock≠vy.ownBlock):=by
      obtain⟨vx,vy,h1,h2,h3,h4⟩:=hX0
      exact⟨vx,vy,h1.below hb,aR h2 hb,aR h3 hb,h4⟩
     have Yv:=HT.bb hb
     have eU:=HB.bS hb
     have be7:aQ (B<=W2.heap.size):=aA HBs.o hb.size
     clear hb hb2 d0 d1 d2 t0 t1 lT hX0 HT HB HBs QD
     obtain⟨vx,vy,hG,hox,hoy,NO⟩:=hX2
     obtain⟨ax,cx,rfl⟩:=kU hox
     obtain⟨ay,cy,rfl⟩:=kU hoy
     obtain⟨W9,hW9⟩:=nm (W2.alloc (π #[Δ TX,Δ TY] 59))
     have hb:Bw W2 W9:=by rw [<- hW9];exact nA _ _
     obtain⟨C,hC⟩:=nm W2.heap.size
     have HR0:aQ (Tw w TB #[Θ a nf ca,Θ b2 nf c2] B G C m2 m3 m4 TX TY W9.drew (Θ ax n cx) (Θ ay n cy) (Θ ax n cx) (Θ ay n cy) n n XS YS):=by
      have hp:bE W9 C #[Δ TX,Δ TY] 59:=by rw [<- hW9,<- hC];exact bE.new _ _ _
      have r9:Tw w TB #[Θ a nf ca,Θ b2 nf c2] B G C m2 m3 m4 TX TY W9 (Θ ax n cx) (Θ ay n cy) (Θ ax n cx) (Θ ay n cy) n n XS YS:=
       ⟨hG.below hb,hp,Yv.o.below hb Yv.o.lt,aR hox hb,aR hoy hb,NO,aW eU.o hb,aA be7.o hb.size,HwB.o⟩
      exact r9.below (μ _ _).drew
     clear hb hG hox hoy NO Yv eU be7
     go_upto_region 9 with (fail)
     try rw [hW9]
     try rw [hC]
     clear hW9 hC
     clear ij
     refine Ko (st:=fun L=>L.getD 20 ν) (S:=(fun w'=>w'.cell? ⟨G,0,δ⟩=ζ (Θ ax n cx)/\w'.cell? ⟨G,1,δ⟩=ζ (Θ ay n cy)/\w'.cell? ⟨C,0,δ⟩=ζ (Δ TX)/\w'.cell? ⟨C,1,δ⟩=ζ (Δ TY))) kF HR0.o.cells (fun hL hS=>?_)
     obtain⟨Wd,hWd⟩:=nm (W9.drew)
     rw [hWd] at hS HR0 |-
     clear hWd
     refine tT 0 rfl hL ?_ (fun _=>hS)
     clear hL;refine pu ?_;intro hL
     refine tT 1 rfl hL ?_ (fun _=>hS)
     clear hL;refine pu ?_;intro hL
     refine tT 2 rfl hL ?_ (fun _=>hS)
     clear hL;refine pu ?_;intro hL
     refine tT 3 rfl hL ?_ (fun _=>hS)
     clear hL;refine pu ?_;intro hL
     refine tT 4 rfl hL ?_ (fun _=>hS)
     clear hL;refine pu ?_;intro hL
     refine tU 5 rfl hL (fun L w h1 h2 h3=>h3 (h1.up (j:=20) (k:=5) kF h2)) ?_ (fun _=>hS)
     clear hL;refine pu ?_;intro hL
     refine tT 6 rfl hL ?_ (fun _=>hS)
     clear hL;refine pu ?_;intro hL
     refine tU 7 rfl hL (fun L w h1 h2 h3=>h3 (h1.up (j:=20) (k:=7) kF h2)) ?_ (fun _=>hS)
     clear hL;refine pu ?_;intro hL
     refine tT 10 rfl hL ?_ (fun _=>hS)
     clear hL;refine pu ?_;intro hL
     refine tT 11 rfl hL ?_ (fun _=>hS)
     clear hL;refine pu ?_;intro hL
     refine tT 12 rfl hL ?_ (fun _=>hS)
     clear hL;refine pu ?_;intro hL
     refine tU 13 rfl hL (fun L w h1 h2 h3=>h3 (h1.up (j:=20) (k:=13) kF h2)) ?_ (fun _=>hS)
     clear hL;refine pu ?_;intro hL
     refine tT 14 rfl hL ?_ (fun _=>hS)
     clear hL;refine pu ?_;intro hL
     refine tU 15 rfl hL (fun L w h1 h2 h3=>h3 (h1.up (j:=20) (k:=17) kF (h1.up (j:=17) (k:=16) kF (h1.up (j:=16) (k:=15) kF h2)))) ?_ (fun _=>hS)
     clear hL;refine pu ?_;intro hL
     refine jD (rs:=[8,16]) kF sP hL ?_
     refine uC.cons rfl (fun hL K hK=>?_) (uC.cons rfl (fun hL K hK=>?_) uC.nil)
     focus
      go_simp
      show K _ _
      obtain⟨V1,hW⟩:=nm (Wd.alloc (π #[Δ TX] 29))
      rw [hW]
      have hb:Bw Wd V1:=by rw [<- hW];exact nA _ _
      have CG:=zq (HR0.o.below hb)
      have PD:aQ (bE V1 Wd.heap.size #[Δ TX] 29):=by rw [<- hW];exact bE.new _ _ _
      clear hb hW
      refine hK.o _ _ (fun _=>CG.o.cells) ?_
      clear hK K hS
      have hS:=CG.o.cells
      revert hL;refine pu ?_;intro hL
      refine jD (rs:=[9,16]) kF sP hL ?_
      refine uC.cons rfl (fun hL K hK=>?_) (uC.cons rfl (fun hL K hK=>?_) uC.nil)
      focus
       refine Ce (by rfl) _ _ (by rfl) B (Θ ax n cx) n _ (by rfl) CG.o.ox Wd.heap.size TX (by rfl) PD.o oM CG.o.bs ?_
       intro gx PP V2 cT Et uE
       have IX:=zq (CG.o.appX cT Et uE)
       clear cT Et uE
       show K _ _
       refine hK.o _ _ (fun _=>IX.o.cells) ?_
       clear hK K hS
       have hS:=IX.o.cells
       revert hL;refine pu ?_;intro hL
       refine jD (rs:=[16]) kF sP hL ?_
       refine uC.cons rfl (fun hL K hK=>?_) uC.nil
       go_simp
       show K _ _
       obtain⟨V3,hW⟩:=nm (V2.alloc (π #[Δ TY] 29))
       rw [hW]
       have hb:Bw V2 V3:=by rw [<- hW];exact nA _ _
       have FX:=zq (IX.o.below hb)
       have HNy:aQ (bE V3 V2.heap.size #[Δ TY] 29):=by rw [<- hW];exact bE.new _ _ _
       have HFy:=zq IX.o.freshX
       clear hb hW
       refine hK.o _ _ (fun _=>FX.o.cells) ?_
       clear hK K hS
       have hS:=FX.o.cells
       revert hL;refine pu ?_;intro hL
       refine jD (rs:=[17]) kF sP hL ?_
       refine uC.cons rfl (fun hL K hK=>?_) uC.nil
       refine Ce (by rfl) _ _ (by rfl) B (Θ ay n cy) n _ (by rfl) FX.o.oy V2.heap.size TY (by rfl) HNy.o oM FX.o.bs ?_
       intro gy aC1 W5 cT Et uE
       have HR5:=zq (FX.o.appY cT Et uE)
       clear cT Et uE
       show K _ _
       refine hK.o _ _ (fun _=>HR5.o.cells) ?_
       clear hK K hS
       have hS:=HR5.o.cells
       revert hL;refine pu ?_;intro hL
      rotate_right
      focus
       go_simp
       show K _ _
       obtain⟨V2,hW⟩:=nm (V1.alloc (π #[Δ TY] 29))
       rw [hW]
       have hb:Bw V1 V2:=by rw [<- hW];exact nA _ _
       have IX:=zq (CG.o.below hb)
       have HNy:aQ (bE V2 V1.heap.size #[Δ TY] 29):=by rw [<- hW];exact bE.new _ _ _
       have HFy:=zq CG.o.freshX
       have PD:=PD.bb hb
       clear hb hW
       refine hK.o _ _ (fun _=>IX.o.cells) ?_
       clear hK K hS
       have hS:=IX.o.cells
       revert hL;refine pu ?_;intro hL
       refine jD (rs:=[9]) kF sP hL ?_
       refine uC.cons rfl (fun hL K hK=>?_) uC.nil
       refine Ce (by rfl) _ _ (by rfl) B (Θ ax n cx) n _ (by rfl) IX.o.ox Wd.heap.size TX (by rfl) PD.o oM IX.o.bs ?_
       intro gx PP V3 cT Et uE
       have FX:=zq (IX.o.appX cT Et uE)
       have HNy:=zq (kT HNy.o Et HFy.o)
       clear cT Et uE
       show K _ _
       refine hK.o _ _ (fun _=>FX.o.cells) ?_
       clear hK K hS
       have hS:=FX.o.cells
       revert hL;refine pu ?_;intro hL
       refine jD (rs:=[17]) kF sP hL ?_
       refine uC.cons rfl (fun hL K hK=>?_) uC.nil
       refine Ce (by rfl) _ _ (by rfl) B (Θ ay n cy) n _ (by rfl) FX.o.oy V1.heap.size TY (by rfl) HNy.o oM FX.o.bs ?_
       intro gy aC1 W5 cT Et uE
       have HR5:=zq (FX.o.appY cT Et uE)
       clear cT Et uE
       show K _ _
       refine hK.o _ _ (fun _=>HR5.o.cells) ?_
       clear hK K hS
       have hS:=HR5.o.cells
       revert hL;refine pu ?_;intro hL
     rotate_right
     focus
      go_simp
      show K _ _
      obtain⟨V1,hW⟩:=nm (Wd.alloc (π #[Δ TY] 29))
      rw [hW]
      have hb:Bw Wd V1:=by rw [<- hW];exact nA _ _
      have CG:=zq (HR0.o.below hb)
      have HNy:aQ (bE V1 Wd.heap.size #[Δ TY] 29):=by rw [<- hW];exact bE.new _ _ _
      have HFy:=zq HR0.o.freshX
      clear hb hW
      refine hK.o _ _ (fun _=>CG.o.cells) ?_
      clear hK K hS
      have hS:=CG.o.cells
      revert hL;refine pu ?_;intro hL
      refine jD (rs:=[8]) kF sP hL ?_
      refine uC.cons rfl (fun hL K hK=>?_) uC.nil
      go_simp
      show K _ _
      obtain⟨V2,hW⟩:=nm (V1.alloc (π #[Δ TX] 29))
      rw [hW]
      have hb:Bw V1 V2:=by rw [<- hW];exact nA _ _
      have IX:=zq (CG.o.below hb)
      have PD:aQ (bE V2 V1.heap.size #[Δ TX] 29):=by rw [<- hW];exact bE.new _ _ _
      have HNy:=HNy.bb hb
      clear hb hW
      refine hK.o _ _ (fun _=>IX.o.cells) ?_
      clear hK K hS
      have hS:=IX.o.cells
      revert hL;refine pu ?_;intro hL
      refine jD (rs:=[9]) kF sP hL ?_
      refine uC.cons rfl (fun hL K hK=>?_) uC.nil
      refine Ce (by rfl) _ _ (by rfl) B (Θ ax n cx) n _ (by rfl) IX.o.ox V1.heap.size TX (by rfl) PD.o oM IX.o.bs ?_
      intro gx PP V3 cT Et uE
      have FX:=zq (IX.o.appX cT Et uE)
      have HNy:=zq (kT HNy.o Et HFy.o)
      clear cT Et uE
      show K _ _
      refine hK.o _ _ (fun _=>FX.o.cells) ?_
      clear hK K hS
      have hS:=FX.o.cells
      revert hL;refine pu ?_;intro hL
      refine jD (rs:=[17]) kF sP hL ?_
      refine uC.cons rfl (fun hL K hK=>?_) uC.nil
      refine Ce (by rfl) _ _ (by rfl) B (Θ ay n cy) n _ (by rfl) FX.o.oy Wd.heap.size TY (by rfl) HNy.o oM FX.o.bs ?_
      intro gy aC1 W5 cT Et uE
      have HR5:=zq (FX.o.appY cT Et uE)
      clear cT Et uE
      show K _ _
      refine hK.o _ _ (fun _=>HR5.o.cells) ?_
      clear hK K hS
      have hS:=HR5.o.cells
      revert hL;refine pu ?_;intro hL
     all_goals
      refine tT 18 rfl hL ?_ (fun _=>hS)
      clear hL;refine pu ?_;intro hL
      refine tT 19 rfl hL ?_ (fun _=>hS)
      clear hL;refine pu ?_;intro hL
      obtain⟨g0,g1,z0,z1,lG⟩:=HR5.o.grd.five
      refine jD (rs:=[20]) kF sP hL ?_
      refine uC.cons rfl (fun hL K hK=>?_) uC.nil
      go_simp
      show K _ _
      obtain⟨W6,hW⟩:=nm (W5.setCell ⟨G,0,δ⟩ (Θ (ζ ⟨gx,0,δ⟩) (n+1) PP))
      rw [hW]
      have HR6:=zq (HR5.o.set HwG.o (Θ (ζ ⟨gx,0,δ⟩) (n+1) PP)).1
      rw [hW] at HR6
      refine hK.o _ _ (fun h=>absurd h dD) ?_
      clear hK K hW g0 g1 z0 z1 lG
      revert hL;refine pu ?_;intro hL
      refine AN (i:=21) (v:=?_) (S':=fun _=>True) rfl kF kF kF (fun _ _ _ h=>h) (fun _ _ _ _ _=>trivial) (fun _=>qQ ν dD) hL (Or.inl ⟨kF,?_⟩) (fun h=>absurd h dD) ?_
      rotate_left
      focus (intro w hSw;(try dsimp only at hSw);go_simp;(first | done | with_reducible rfl))
      clear hL;refine pu ?_;intro hL
      refine AN (i:=22) (v:=?_) (S':=fun _=>True) rfl kF kF kF (fun _ _ _ h=>h) (fun _ _ _ _ _=>trivial) (fun _=>qQ ν dD) hL (Or.inl ⟨kF,?_⟩) (fun h=>absurd h dD) ?_
      rotate_left
      focus (intro w hSw;(try dsimp only at hSw);go_simp;(first | done | with_reducible rfl))
      clear hL;refine pu ?_;intro hL
      obtain⟨g0,g1,z0,z1,lG⟩:=HR6.o.grd.five
      refine jD (rs:=[23]) kF sP hL ?_
      refine uC.cons rfl (fun hL K hK=>?_) uC.nil
      go_simp
      show K _ _
      obtain⟨W7,hW⟩:=nm (W6.setCell ⟨G,1,δ⟩ (Θ (ζ ⟨gy,0,δ⟩) (n+1) aC1))
      rw [hW]
      have HR7:=zq (HR6.o.set HwG.o (Θ (ζ ⟨gy,0,δ⟩) (n+1) aC1)).2
      rw [hW] at HR7
      refine hK.o _ _ (fun h=>absurd h dD) ?_
      clear hK K hW g0 g1 z0 z1 lG
      revert hL;refine pu ?_;intro hL
      refine VZ kF ?_ _
      have HX7:=zq (HGn.o _ _ _ HR7.o.grd HR7.o.ox HR7.o.oy HR7.o.sep)
      have HT7:=zq HR7.o.tr
      have Dx:=zq HR7.o.bel
      have HS7:=zq HR7.o.bs
      go_wp2
      go_roundw
      case rel=>exact⟨⟨k+1,oM,by go_num,HX7⟩,HT7,Dx,HS7⟩
      case measure=>simp only [ξ];omega
    .obtain rfl:k=np:=oM
     have hln:=aU1.o
     rw [Rh.o] at hln
     rw [hln] at HX
     clear hln
     have be8:¬ ((k:Int) < (k:Int)):=oM
     go_wp2
     go_roundw
     case rel=>exact⟨⟨q+1,by have:=Hq1.o;omega,by go_num,HX⟩,HT,HB,HBs⟩
     case measure=>have:=Hq1.o;simp only [ξ];omega
  .obtain rfl:q=nl:=oM
   have hX:=HX.o
   rw [VU.o] at hX
   have hX1:∃ vx vy:χ,iJ wo G vx vy m2 m3 m4 [] [] []/\wo.ownsRow B 29 1 vx N (dQ dx)/\wo.ownsRow B 29 1 vy N (dQ dy)/\(vx.ownBlock=δ\/vx.ownBlock≠vy.ownBlock):=by
    obtain⟨vx,vy,h1,h2,h3,h4⟩:=hX
    rw [eH,υ,<- HDl.o] at h2 h3
    rw [HDx.o,HDy.o]
    exact⟨vx,vy,h1,h2,h3,h4⟩
   have HX1:=zq hX1
   have hqI:¬ ((q:Int) < (q:Int)):=oM
   clear hq1 hq hX hX1 HX HDx HDy HDl HCo HPn ir ij
   go_wp2
   go_cut [67,68,69] (fun v n i W=>v=Θ (ζ ⟨wo.heap.size,0,δ⟩) 2 2/\n=Υ Ξ 2/\i=Υ Ξ 0/\aQ (bE W wo.heap.size #[aB (ζ ⟨G,0,δ⟩),aB (ζ ⟨G,1,δ⟩)] 118)/\aQ (Bw wo W))
   case first=>
    go_region
    all_goals
     go_wp2
     go_meet
     case rel=>
      first
       | exact⟨rfl,rfl,rfl,bE.new wo _ _,(nA wo _).drew⟩
       | exact⟨rfl,rfl,rfl,bE.new wo.drew _ _,(μ _ wo).drew.alloc (θ _) _⟩
       | fail
   case rest=>
   obtain⟨rfl,rfl,rfl,HA,Do⟩:=hcut
   have HX2:aQ (∃ vx vy,Yt w TB #[Θ a nf ca,Θ b2 nf c2] B G wo.heap.size m2 m3 m4 wc vx vy/\wc.ownsRow B 29 1 vx N (dQ dx)/\wc.ownsRow B 29 1 vy N (dQ dy)/\(vx.ownBlock=δ\/vx.ownBlock≠vy.ownBlock)):=by
    obtain⟨vx,vy,h1,h2,h3,h4⟩:=HX1.o
    exact⟨vx,vy,⟨h1.below Do.o,HA.o,HT.o.below Do.o HT.o.lt,aW HB.o Do.o,aA HBs.o Do.o.size,HwB.o⟩,aR h2 Do.o,aR h3 Do.o,h4⟩
   clear HX1 HT HB HBs HA Do
   generalize wo.heap.size=A at *
   go_wp2
   go_loopw [69] (fun i wr=>(i=Υ Ξ 0/\aQ (∃ vx vy,Yt w TB #[Θ a nf ca,Θ b2 nf c2] B G A m2 m3 m4 wr vx vy/\wr.ownsRow B 29 1 vx N (dQ dx)/\wr.ownsRow B 29 1 vy N (dQ dy)/\(vx.ownBlock=δ\/vx.ownBlock≠vy.ownBlock)))\/
    (i=Υ Ξ 1/\aQ (∃ gx cx vy,Yt w TB #[Θ a nf ca,Θ b2 nf c2] B G A m2 m3 m4 wr (Θ (ζ ⟨gx,0,δ⟩) LX.length cx) vy/\jE wr gx LX/\wr.ownsRow B 29 1 vy N (dQ dy)/\ζ gx≠vy.ownBlock/\gx≠G))\/
    (i=Υ Ξ 2/\aQ (∃ gx cx gy cy,Yt w TB #[Θ a nf ca,Θ b2 nf c2] B G A m2 m3 m4 wr (Θ (ζ ⟨gx,0,δ⟩) LX.length cx) (Θ (ζ ⟨gy,0,δ⟩) LY.length cy)/\jE wr gx LX/\jE wr gy LY))) (fun i _=>2 - (ξ i).toNat)
   case atStart=>exact .inl ⟨rfl,HX2⟩
   case round=>
    clear HX2
    rename η=>wj
    rcases hrel with ⟨rfl,HX⟩ | ⟨rfl,HX⟩ | ⟨rfl,HX⟩
    .obtain⟨vx,vy,hR,hox,hoy,NO⟩:=HX.o
     obtain⟨gx,cx,rfl⟩:=qV HN0.o hox
     have HR:=zq hR
     have HOx:=zq hox
     have HOy:=zq hoy
     have hgy:ζ gx≠vy.ownBlock:=NO.elim (fun h=>by cases h) (fun h=>h)
     have HGy:=zq hgy
     have a0:=hR.arr.ce 0
     obtain⟨g0,g1,z0,z1,lG⟩:=hR.grd.five
     clear HX hR hox hoy NO hgy
     go_wp2_with fail
     refine(HSx.o B gx cx wj HwB.o HR.o.bel HOx.o).mono ?_
     rintro e W1 ⟨⟨v,rfl⟩,hox1,hg1⟩
     have CG:=zq (HR.o.grown HOx.o hg1)
     have ZI:=zq (HOy.o.kept hg1 (.inr (Ne.symm HGy.o)))
     have aC2:=zq hox1
     clear hox1 hg1 HR HOx HOy a0 g0 g1 z0 z1 lG
     obtain⟨g0,g1,z0,z1,lG⟩:=CG.o.grd.five
     go_wp2_with fail
     refine(HCx.o B gx cx W1 aC2.o).mono ?_
     rintro e W2 ⟨rfl,hc2,hg2⟩
     have IX:=zq (CG.o.grown aC2.o hg2)
     have be9:=zq (ZI.o.kept hg2 (.inr (Ne.symm HGy.o)))
     have Ny:=zq hc2
     have HnG:aQ (gx≠G):=fun e=>Ex CG.o.grd aC2.o (by rw [e];rfl)
     clear hc2 hg2 CG ZI aC2 g0 g1 z0 z1 lG
     obtain⟨g0,g1,z0,z1,lG⟩:=IX.o.grd.five
     have FX:=zq (IX.o.set HwG.o (Θ (ζ ⟨gx,0,δ⟩) LX.length cx)).1
     have bp7:=zq (be9.o.kept (Kq W2 ⟨G,0,δ⟩ (Θ (ζ ⟨gx,0,δ⟩) LX.length cx)) (.inr (Ne.symm (Ex IX.o.grd be9.o))))
     have HC3:aQ (jE (W2.setCell ⟨G,0,δ⟩ (Θ (ζ ⟨gx,0,δ⟩) LX.length cx)) gx LX):=Ny.o.set HnG.o
     go_wp2
     go_roundw
     case rel=>exact .inr (.inl ⟨by go_num,⟨gx,cx,vy,FX.o,HC3.o,bp7.o,HGy.o,HnG.o⟩⟩)
     case measure=>simp only [ξ];omega
    .obtain⟨gx,cx,vy,hR,gh,hoy,NO,hnG⟩:=HX.o
     obtain⟨gy,cy,rfl⟩:=qV HN0.o hoy
     have HR:=zq hR
     have HOy:=zq hoy
     have bf0:=zq gh
     have HGy:=zq NO
     have HnX:=zq hnG
     have a0:=hR.arr.ce 1
     obtain⟨g0,g1,z0,z1,lG⟩:=hR.grd.five
     clear HX hR hoy gh NO hnG
     go_wp2_with fail
     refine(HSy.o B gy cy wj HwB.o HR.o.bel HOy.o).mono ?_
     rintro e W1 ⟨⟨v,rfl⟩,hoy1,hg1⟩
     have CG:=zq (HR.o.grown HOy.o hg1)
     have aN3:=zq (bf0.o.far hg1 HGy.o)
     have ZI:=zq hoy1
     clear hoy1 hg1 HR HOy bf0 a0 g0 g1 z0 z1 lG
     obtain⟨g0,g1,z0,z1,lG⟩:=CG.o.grd.five
     go_wp2_with fail
     refine(HCy.o B gy cy W1 ZI.o).mono ?_
     rintro e W2 ⟨rfl,hc2,hg2⟩
     have IX:=zq (CG.o.grown ZI.o hg2)
     have bf1:=zq (aN3.o.far hg2 HGy.o)
     have Ny:=zq hc2
     have HnG:aQ (gy≠G):=fun e=>Ex CG.o.grd ZI.o (by rw [e];rfl)
     clear hc2 hg2 CG ZI aN3 g0 g1 z0 z1 lG
     obtain⟨g0,g1,z0,z1,lG⟩:=IX.o.grd.five
     have FX:=zq (IX.o.set HwG.o (Θ (ζ ⟨gy,0,δ⟩) LY.length cy)).2
     have HC3:aQ (jE (W2.setCell ⟨G,1,δ⟩ (Θ (ζ ⟨gy,0,δ⟩) LY.length cy)) gy LY):=Ny.o.set HnG.o
     have HC4:aQ (jE (W2.setCell ⟨G,1,δ⟩ (Θ (ζ ⟨gy,0,δ⟩) LY.length cy)) gx LX):=bf1.o.set HnX.o
     go_wp2
     go_roundw
     case rel=>exact .inr (.inr ⟨by go_num,⟨gx,cx,gy,cy,FX.o,HC4.o,HC3.o⟩⟩)
     case measure=>simp only [ξ];omega
    .obtain⟨gx,cx,gy,cy,hR,gh,hcy⟩:=HX.o
     have HL0:aQ (Ks w TB #[Θ a nf ca,Θ b2 nf c2] G gx gy cx cy m2 m3 m4 LX LY ((kM ls 0 0).map SG) wj):=⟨hR.bel,hR.tr,gh,hcy,[],[],hR.grd,mI.nil⟩
     clear HX hR gh hcy HSx HSy HCx HCy
     go_wp2
     go_loopw [86] (fun i wr=>∃ p:Nat,p<=q/\i=Υ Ξ (p:Int)/\aQ (Ks w TB #[Θ a nf ca,Θ b2 nf c2] G gx gy cx cy m2 m3 m4 LX LY ((kM ls p 0).map SG) wr)) (fun i _=>q - (ξ i).toNat)
     case atStart=>exact⟨0,oM,rfl,HL0⟩
     case round=>
      clear HL0
      obtain⟨p,hp,rfl,HL⟩:=hrel
      rename η=>wo
      by_cases hp1:p < q
      .obtain⟨l,TA⟩:=nm (ls.getD p Γ)
       obtain⟨lb,lo,hbl,l0,-⟩:=(Tz.o _ HL.o.bel).at (i:=p) (by rw [Hnl.o];exact hp1) TA
       subst hbl
       have hly:=fun k=>be4.o p k hp1
       have hln:=aN2.o p hp1
       rw [TA] at hly hln
       have bf2:=zq hly
       have aU1:=zq hln
       clear hly hln
       have hpI:(p:Int) < q:=oM
       have p0:(0:Int)<=(p:Int):=oM
       have Hp1:=zq hp1
       obtain⟨np,PO⟩:=nm l.ps.length
       have bp6:np<=1000:=by rw [<- PO,<- TA];exact HNp.o p hp1
       rw [PO] at l0
       have Rh:=zq PO
       have Hlq:=zq TA
       clear PO hp1 hp TA
       go_wp2
       go_loopw [92] (fun i wr=>∃ k:Nat,k<=np/\i=Υ Ξ (k:Int)/\aQ (Ks w TB #[Θ a nf ca,Θ b2 nf c2] G gx gy cx cy m2 m3 m4 LX LY ((kM ls p k).map SG) wr)) (fun i _=>np - (ξ i).toNat)
       case atStart=>exact⟨0,oM,rfl,HL⟩
       case round=>
        clear HL l0
        obtain⟨k,hk,rfl,HL⟩:=hrel
        rename η=>wi
        by_cases hlt:k < np
        .obtain⟨lb',lo',hla,-,rp⟩:=(Tz.o _ HL.o.bel).at (i:=p) (by rw [Hnl.o];exact Hp1.o) Hlq.o
         obtain⟨pb,po,NW,d0,d1,d2⟩:=rp.at (i:=k) (by rw [Rh.o];exact hlt) rfl
         have Zw:=zq (bf2.o k (by rw [Rh.o];exact hlt))
         rw [NW]
         clear hla rp NW
         generalize hGD:l.ps.getD k Γ=pp at Zw d0 d1 d2
         clear hGD
         obtain⟨sd,pf,pe⟩:=pp
         unfold Pt.v Pt.cells at Zw
         simp only [] at *
         have hkI:(k:Int) < np:=oM
         have k0:(0:Int)<=(k:Int):=oM
         obtain⟨t0,t1,-,-,lT⟩:=HL.o.tr.two
         go_wp2_with fail
         have hba:Bw wi (wi.alloc (π #[Υ Ξ sd,Δ (bs pf),Δ (bs pe)] 35)):=nA _ _
         refine(Zw.o _ TB G gx gy cx cy m2 m3 m4 _ HAp.o HM2.o HM3.o (HL.o.below hba)).mono ?_
         rintro e W2 ⟨⟨v,rfl⟩,hL2⟩
         have ri:=zq hL2
         clear hba hL2 d0 d1 d2 t0 t1 lT Zw
         go_wp2
         go_roundw
         case rel=>exact⟨k+1,oM,by go_num,ri⟩
         case measure=>simp only [ξ];omega
        .obtain rfl:k=np:=oM
         have hln:=aU1.o
         rw [Rh.o] at hln
         rw [hln] at HL
         clear hln
         have be8:¬ ((k:Int) < (k:Int)):=oM
         go_wp2
         go_roundw
         case rel=>exact⟨p+1,by have:=Hp1.o;omega,by go_num,HL⟩
         case measure=>have:=Hp1.o;simp only [ξ];omega
      .obtain rfl:p=q:=oM
       have hpI:¬ ((p:Int) < (p:Int)):=oM
       rw [VU.o] at HL
       obtain⟨S,Nn,hg,hI⟩:=HL.o.g
       have HGw:=zq hg
       have bf3:=zq hI
       clear hp1 hp hg hI
       go_wp2_with fail
       refine(QW G _ _ LX.length LY.length cx cy m2 m3 m4 S Nn (((ls.flatMap Lp.ps)).map SG) wo (aA HLx.o dD) (aA HLy.o dD) Uz.o HAp.o (fun x y=>bf3.o.net x y) HIn.o HGw.o).mono ?_
       rintro e W2 ⟨⟨v,rfl⟩,hk2,I,hg2,hc2⟩
       have eU:aQ (Bw w W2):=HL.o.bel.trans (hk2.below HL.o.bel.size (fun k e=>by rw [e];exact HM4.o))
       have HG2:=zq hg2
       have Ny:=zq hc2
       have ne4:∀ {a:bW} {v:χ},wo.cell? a=ζ v->¬ (a.block=m4):=fun hv=>Ey hv HGw.o.i
       have HX2:aQ (jE W2 gx LX):=fun i hi=>hk2.cell (HL.o.x i hi) (ne4 (HL.o.x i hi))
       have HY2:aQ (jE W2 gy LY):=fun i hi=>hk2.cell (HL.o.y i hi) (ne4 (HL.o.y i hi))
       clear hk2 hg2 hc2 ne4
       go_wp2
       go_ret
       exact⟨⟨G,gx,gy,cx,cy,m2,m3,m4,S,Nn,I,rfl,HG2.o,HX2.o,HY2.o,bf3.o,Ny.o⟩,eU.o⟩
theorem IY(a c w):aE γ 65 #[Θ a 0 c] w (Rt (Θ a 0 c) w):=by
 go_enter func65,ntmps65;go_wp2;go_ret;exact⟨rfl,μ _ _⟩
theorem Ri(a c fv w):aE γ 64 #[Θ a 0 c,fv] w fun e w'=>(∃v,e=σ v)/\Bw w w':=by
 refine(AnyF.slices_SortFunc_none (P:=γ) (ρ:=Tryz.sortN_ren) {Tryz.sortN with} a c fv w).mono ?_;rintro e w'⟨rfl,rfl⟩;exact⟨⟨_,rfl⟩,μ _ _⟩
def NX(W:η)(G:Nat)(xs ys:List (List UInt8))(E:List Sg):Prop:=∃(xa ya:Option bW)(gx gy cx cy m2 m3 m4:Nat)(S Nn:WL)(I:SL),
 iJ W G (Θ xa xs.length cx) (Θ ya ys.length cy) m2 m3 m4 S Nn I/\(0<xs.length->xa=ζ ⟨gx,0,δ⟩)/\(0<ys.length->ya=ζ ⟨gy,0,δ⟩)/\jE W gx xs/\jE W gy ys/\mI E S Nn/\∀i j,mW I i j=dK xs.length ys.length E i j
theorem Wc(a b2 bl nf ca c2 cl w):
 aE γ 27 #[bQ #[Θ a nf ca,Θ b2 nf c2],Θ bl 0 cl] w fun e w'=>(∃G,e=σ (aB (ζ ⟨G,0,δ⟩))/\NX w' G [] [] [])/\Bw w w':=by
 have ij:=@run_makeMap γ;obtain⟨W0,fI,hT0,Uy,fL⟩:=Q9 w #[Θ a nf ca,Θ b2 nf c2];have jg:=zq hT0;have VG:=zq Uy;have gH:=zq fL;have HwG:aQ (w.heap.size<=w.heap.size+1+1+1+1):=by show _<=_;omega
 have HM4:aQ (w.heap.size<=w.heap.size+1+1+1):=by show _<=_;omega
 have HAp:aQ (Es (w.heap.size+1) (w.heap.size+1+1) (w.heap.size+1+1+1)):=⟨oM,oM,oM⟩;clear hT0 Uy fL;go_enter func27,ntmps27;go_upto_if 22 with(fail);try rw[fI]
 clear fI;generalize w.heap.size+1+1+1+1=G at *;generalize hm4:w.heap.size+1+1+1=m4 at HM4 HAp VG;generalize hm3:w.heap.size+1+1=m3 at HAp VG;generalize Bo:w.heap.size+1=m2 at HAp VG;clear Bo hm3 hm4;generalize bp3:w.heap.size=TB at jg|-;go_loopw[24] (fun i wr=>i=Υ Ξ 0/\wr=W0) (fun i _=>0);case atStart=>exact⟨rfl,rfl⟩
 case round=>
  obtain⟨rfl,rfl⟩:=hrel;rename η=>W0;clear ij;go_wp2;go_cut[67,68,69] (fun v n i W=>v=Θ (ζ ⟨W0.heap.size,0,δ⟩) 2 2/\n=Υ Ξ 2/\i=Υ Ξ 0/\aQ (bE W W0.heap.size #[aB (ζ ⟨G,0,δ⟩),aB (ζ ⟨G,1,δ⟩)] 118)/\aQ (Bw W0 W));case first =>
   go_region;all_goals
    go_wp2;go_meet;case rel=>
     first
      |exact⟨rfl,rfl,rfl,bE.new W0 _ _,(nA W0 _).drew⟩
      |exact⟨rfl,rfl,rfl,bE.new W0.drew _ _,(μ _ W0).drew.alloc (θ _) _⟩
      |fail
  case rest=>
  obtain⟨rfl,rfl,rfl,HA,Do⟩:=hcut;have HR:aQ (Yt w TB #[Θ a nf ca,Θ b2 nf c2] w.heap.size G W0.heap.size m2 m3 m4 wc (Θ δ 0 0) (Θ δ 0 0)):=
   ⟨VG.o.below Do.o,HA.o,jg.o.below Do.o jg.o.lt,aW gH.o Do.o,aA gH.o.size Do.o.size,θ _⟩
  clear jg VG gH HA Do;generalize W0.heap.size=A at *;go_wp2;go_loopw[69] (fun i wr=>∃j:Nat,j<=2/\i=Υ Ξ (j:Int)/\aQ (Yt w TB #[Θ a nf ca,Θ b2 nf c2] w.heap.size G A m2 m3 m4 wr (Θ δ 0 0) (Θ δ 0 0))) (fun i _=>2-(ξ i).toNat);case atStart=>exact⟨0,oM,rfl,HR⟩
  case round=>
   clear HR;rename η=>wj;obtain⟨j,hj,rfl,HR⟩:=hrel;have bf4:j=0\/j=1\/j=2:=oM;clear hj;rcases bf4 with rfl|rfl|rfl
   .have a0:=HR.o.arr.ce 0;obtain⟨g0,g1,z0,z1,lG⟩:=HR.o.grd.five;go_wp2_with fail
    refine(Ri δ 0 _ wj).mono ?_;rintro e W1⟨⟨v,rfl⟩,hb1⟩;have CG:=zq (HR.o.below hb1);clear hb1 HR a0 g0 g1 z0 z1 lG;obtain⟨g0,g1,z0,z1,lG⟩:=CG.o.grd.five;go_wp2_with fail
    refine ka (IY δ 0 W1) fun W2 hb2=>?_;have IX:=zq (CG.o.below hb2);clear hb2 CG g0 g1 z0 z1 lG;obtain⟨g0,g1,z0,z1,lG⟩:=IX.o.grd.five;have FX:=zq (IX.o.set HwG.o (Θ δ 0 0)).1;go_wp2;go_roundw;case rel=>exact⟨1,oM,by go_num,FX⟩
    case measure=>simp only[ξ];omega
   .have a0:=HR.o.arr.ce 1;obtain⟨g0,g1,z0,z1,lG⟩:=HR.o.grd.five;go_wp2_with fail
    refine(Ri δ 0 _ wj).mono ?_;rintro e W1⟨⟨v,rfl⟩,hb1⟩;have CG:=zq (HR.o.below hb1);clear hb1 HR a0 g0 g1 z0 z1 lG;obtain⟨g0,g1,z0,z1,lG⟩:=CG.o.grd.five;go_wp2_with fail
    refine ka (IY δ 0 W1) fun W2 hb2=>?_;have IX:=zq (CG.o.below hb2);clear hb2 CG g0 g1 z0 z1 lG;obtain⟨g0,g1,z0,z1,lG⟩:=IX.o.grd.five;have FX:=zq (IX.o.set HwG.o (Θ δ 0 0)).2;go_wp2;go_roundw;case rel=>exact⟨2,oM,by go_num,FX⟩
    case measure=>simp only[ξ];omega
   .go_wp2;go_loopw[86] (fun i wr=>i=Υ Ξ 0/\wr=wj) (fun i _=>0);case atStart=>exact⟨rfl,rfl⟩
    case round=>
     obtain⟨rfl,rfl⟩:=hrel;rename η=>wj;go_wp2_with fail
     refine(QW G _ _ 0 0 0 0 m2 m3 m4 [] [] [] wj dD dD sP HAp.o (fun x y=>mI.nil.net x y) (fun s h=>by cases h) HR.o.grd).mono ?_;rintro e W2⟨⟨v,rfl⟩,hk2,I,hg2,hc2⟩;have eU:aQ (Bw w W2):=HR.o.bel.trans (hk2.below HR.o.bel.size (fun k e=>by rw[e];exact HM4.o));have HG2:=zq hg2;have Ny:=zq hc2;clear hk2 hg2 hc2;go_wp2;go_ret;exact⟨⟨G,rfl,δ,δ,0,0,0,0,m2,m3,m4,[],[],I,HG2.o,sP,sP,fun i hi=>by simp at hi,fun i hi=>by simp at hi,mI.nil,Ny.o⟩,eU.o⟩
structure wW(fs:List Fr)(at':List (List UInt8))(ls:List Lp)(dx dy:List (List UInt8)):Prop where
 nl:ls.length<=1000
 n:(ls.flatMap Lp.ps).length<=1000
 ex:dx=(ls.flatMap Lp.ps).map fun p=>(bA fs at' p).x
 ey:dy=(ls.flatMap Lp.ps).map fun p=>(bA fs at' p).y
 nx:∀s∈dx,Nm s
 ny:∀s∈dy,Nm s
 p:∀p∈ls.flatMap Lp.ps,pV fs at' (aH dx) (aH dy) p
 four:∀l∈ls,0<l.ps.length
theorem We(a b2 bl nf ca c2 cl nl fs at' ls dx dy w)(hE:mV w)(hf:fs.length=nf)(hl:at'.length=nf)(LD:ls.length=nl)(h:wW fs at' ls dx dy)(rf:yA w a fs)(ra:Al w b2 at')(rl:CE w bl ls):
 aE γ 27 #[bQ #[Θ a nf ca,Θ b2 nf c2],Θ bl nl cl] w fun e w'=>(∃G,e=σ (aB (ζ ⟨G,0,δ⟩))/\NX w' G (aH dx) (aH dy) ((ls.flatMap Lp.ps).map (eP fs at' (aH dx) (aH dy))))/\Bw w w':=by
 by_cases h0:ls=[]
 .obtain⟨-,-,e1,e2,-,-,-,-⟩:=h;subst h0;rw[List.flatMap_nil,wS]at e1 e2;subst e1;subst e2;simp only[bB]at LD;subst LD;exact Wc a b2 bl nf ca c2 cl w
 .have hpos:0<(ls.flatMap Lp.ps).length:=by
   cases ls with
   |nil=>exact absurd rfl h0
   |cons l ls=>
    rw[gS,aJ];have:=h.four l (bO ..);omega
  refine(Wb a b2 bl nf ca c2 cl nl _ fs at' ls dx dy w hE hf hl LD (by rw[<-LD];exact h.nl) rfl hpos h.n h.ex h.ey h.nx h.ny h.p rf ra rl).mono ?_;rintro e w'⟨⟨G,gx,gy,cx,cy,m2,m3,m4,S,Nn,I,he,hg,gh,hcy,hI,hc⟩,hb⟩;exact⟨⟨G,he,ζ ⟨gx,0,δ⟩,ζ ⟨gy,0,δ⟩,gx,gy,cx,cy,m2,m3,m4,S,Nn,I,hg,fun _=>rfl,fun _=>rfl,gh,hcy,hI,hc⟩,hb⟩
end
section
open Go Go.RowKit Go.Lib
theorem yQ{s:Nat}(hs:s<fs.length):(dL fs z).getD s []=J0 (fs.getD s Γ) z:=by
 unfold dL;simp[Ω,hs]
theorem wZ{right:Bool}(h:oI fs at' ls right =ι):∀l∈ls,oH fs at' l.ps right =ι:=by
 intro l hl;obtain⟨i,hi,rfl⟩:=List.mem_iff_getElem.1 hl;unfold oI at h;have h2:=bJ.1 (by simpa using h:anyN (Zd fs at' ls right) ls.length=ν) i hi;unfold Zd at h2;rw[Ω,aS hi,bK]at h2;simpa using h2
theorem sU{right:Bool}(h:oH fs at' ps right=ι):4<=ps.length/\(∀ i,i < ps.length->BN fs right (ps.getD i Γ)=ι)/\∀ i,i < ps.length->AH fs at' (ps.getD i Γ) (ps.getD ((i+1) % ps.length) Γ)=ι:=by
 unfold oH at h;simp only [aI,decide_eq_true_eq,bX] at h;refine⟨h.1.1,fun i hi=>J8 h.1.2 hi,fun i hi=>?_⟩;have:=bJ.1 h.2 i hi;unfold Zb at this;simpa using this
theorem Wf{right:Bool}(h:BN fs right p=ι):(∃s:Nat,p.side=s/\s<fs.length)/\0<=uA fs p:=by
 refine⟨GQ h,?_⟩;unfold BN at h;simp only[aI,decide_eq_true_eq,bX,decide_eq_false_iff_not]at h;have:=h.2.1;omega
theorem Wg{q:Pt}(h:AH fs at' p q=ι):p.en=if(fs.getD p.side.toNat Γ).up=ι then(bA fs at' q).y else(bA fs at' q).x:=by
 unfold AH at h;unfold bA;generalize fs.getD q.side.toNat Γ=g,fs.getD p.side.toNat Γ=f at *;cases hf:f.up<;>cases hg:g.up<;>simp[hf,hg]at h|-
 .exact h.1.2
 .exact h.1
 .exact h.1
 .exact h.1.2
theorem aj4{q:Pt}(h:AH fs at' p q=ι):(eP fs at' xs ys p).en=(eP fs at' xs ys q).st:=by
 unfold AH at h;unfold eP;generalize fs.getD q.side.toNat Γ=g,fs.getD p.side.toNat Γ=f at *;cases hf:f.up<;>cases hg:g.up<;>simp[hf,hg,Sg.en,Sg.st]at h|-
 .exact⟨by rw[h.1.2],by rw[h.2]⟩
 .exact⟨by rw[h.1],by rw[h.2]⟩
 .exact⟨by rw[h.2],by rw[h.1]⟩
 .exact⟨by rw[h.2],by rw[h.1.2]⟩
theorem G3(sR:∀f∈fs,f.Ok)(My:Dw ls)(hz:Lz z)(h:oI fs (dL fs z) ls ν=ι)(LD:ls.length<=1000)(hn:(ls.flatMap Lp.ps).length<=1000):
 wW fs (dL fs z) ls ((ls.flatMap Lp.ps).map fun p=>(bA fs (dL fs z) p).x) ((ls.flatMap Lp.ps).map fun p=>(bA fs (dL fs z) p).y):=by
 have Ez:∀p∈ls.flatMap Lp.ps,BN fs ν p=ι:=fun p hp=>by
  obtain⟨l,hl,CW⟩:=List.mem_flatMap.1 hp;obtain⟨i,hi,rfl⟩:=List.mem_iff_getElem.1 CW;have:=(sU (wZ h l hl)).2.1 i hi;rwa[Ω,aS hi,bK]at this
 have hnm:∀p∈ls.flatMap Lp.ps,Nm (bA fs (dL fs z) p).x/\Nm (bA fs (dL fs z) p).y:=fun p hp=>by
  obtain⟨⟨s,hs,Jv⟩,-⟩:=Wf (Ez p hp);obtain⟨l,hl,CW⟩:=List.mem_flatMap.1 hp;have h1:=((My l hl).2 p CW).1;have es:p.side.toNat=s:=oM;have ha:Nm ((dL fs z).getD s []):=by
   rw[yQ Jv];refine Ta (sR _ ?_) hz;rw[Ω,aS Jv,bK];exact fJ _
  unfold bA;rw[es];split
  .exact⟨ha,h1⟩
  .exact⟨h1,ha⟩
 have nx:∀s∈(ls.flatMap Lp.ps).map fun p=>(bA fs (dL fs z) p).x,Nm s:=fun s hs=>by
  obtain⟨p,hp,rfl⟩:=List.mem_map.1 hs;exact(hnm p hp).1
 have ny:∀s∈(ls.flatMap Lp.ps).map fun p=>(bA fs (dL fs z) p).y,Nm s:=fun s hs=>by
  obtain⟨p,hp,rfl⟩:=List.mem_map.1 hs;exact(hnm p hp).2
 have mx:∀p∈ls.flatMap Lp.ps,(bA fs (dL fs z) p).x∈aH ((ls.flatMap Lp.ps).map fun p=>(bA fs (dL fs z) p).x):=fun p hp=>((gR nx).2 _).2 (List.mem_map.2 ⟨p,hp,rfl⟩);have my:∀p∈ls.flatMap Lp.ps,(bA fs (dL fs z) p).y∈aH ((ls.flatMap Lp.ps).map fun p=>(bA fs (dL fs z) p).y):=fun p hp=>((gR ny).2 _).2 (List.mem_map.2 ⟨p,hp,rfl⟩);refine⟨LD,hn,rfl,rfl,nx,ny,fun p hp=>?_,fun l hl=>by have:=(sU (wZ h l hl)).1;omega⟩;obtain⟨hs,ZJ⟩:=Wf (Ez p hp);refine⟨hs,mx p hp,my p hp,?_,?_,ZJ⟩
 .obtain⟨l,hl,CW⟩:=List.mem_flatMap.1 hp;obtain⟨i,hi,rfl⟩:=List.mem_iff_getElem.1 CW;have hw:=sU (wZ h l hl);have hj:=hw.2.2 i hi;have hi2:(i+1)%l.ps.length<l.ps.length:=aV _ oM;have hq:l.ps.getD ((i+1)%l.ps.length) Γ∈ls.flatMap Lp.ps:=List.mem_flatMap.2 ⟨l,hl,by
   rw[Ω,aS hi2,bK];exact fJ _⟩
  have he:=Wg hj;rw[Ω,aS hi,bK]at he;rw[he];split
  .exact my _ hq
  .exact mx _ hq
 .obtain⟨s,h1,h2⟩:=hs;have es:p.side.toNat=s:=oM;rw[es,Ω,aS h2,bK];exact(sR _ (fJ _)).dir
def eC(fs:List Fr)(at' xs ys:List (List UInt8))(ls:List Lp):List (List Sg):=ls.map fun l=>l.ps.map (eP fs at' xs ys)
theorem wM(fs at' xs ys ls):(eC fs at' xs ys ls).flatten=(ls.flatMap Lp.ps).map (eP fs at' xs ys):=by
 unfold eC;rw[List.map_flatMap,List.flatMap_def]
theorem G4(xs ys)(h:oI fs at' ls ν=ι):∀l∈eC fs at' xs ys ls,oZ l:=by
 intro r hr;obtain⟨l,hl,rfl⟩:=List.mem_map.1 hr;have hw:=sU (wZ h l hl);intro j hj;rw[υ]at hj|-;have Wh:(j+1)%l.ps.length<l.ps.length:=aV _ oM;have:=aj4 (xs:=xs) (ys:=ys) (hw.2.2 j hj);have e:∀i,i<l.ps.length->(l.ps.map (eP fs at' xs ys)).getD i Γ=eP fs at' xs ys (l.ps.getD i Γ):=fun i hi=>by
  simp[Ω,hi]
 rw[e j hj,e _ Wh];exact this
theorem NY{dx dy:List (List UInt8)}(h:wW fs at' ls dx dy):∀s∈(eC fs at' (aH dx) (aH dy) ls).flatten,iT (aH dx).length (aH dy).length s:=by
 intro s hs;rw[wM]at hs;obtain⟨p,hp,rfl⟩:=List.mem_map.1 hs;obtain⟨k,h1,h2⟩:=(h.p p hp).side;obtain⟨-,-,-,f4,⟨f5,f5'⟩,⟨f6,f6'⟩,⟨f7,f7'⟩⟩:=Fy h1 (h.p p hp);rw[<-f4]at f5' f6' f7';refine⟨f5,f6,f7,fun hu=>?_,fun hu=>?_⟩
 .rw[ip hu]at f5' f6' f7';exact⟨f5',f6',f7'⟩
 .rw[iN (by rw[hu];decide)]at f5' f6' f7';exact⟨f5',f6',f7'⟩
def kV(fs:List Fr)(at' xs ys:List (List UInt8))(ls:List Lp):Int->Int->Bool:=dK xs.length ys.length ((ls.flatMap Lp.ps).map (eP fs at' xs ys))
theorem Ae(fs at' xs ys ls):tG (kV fs at' xs ys ls) xs.length ys.length:=fun i j h=>by
 obtain⟨h1,h2,h3,h4,-⟩:=bw1 h
 exact⟨h1,h3,h2,h4⟩
theorem EA{dx dy:List (List UInt8)}(h:wW fs at' ls dx dy)(ha:oI fs at' ls ν=ι){w:Wy}(hw:eX (kV fs at' (aH dx) (aH dy) ls) w=ι):
 ∃t:Nat,nO ((ls.flatMap Lp.ps).map (eP fs at' (aH dx) (aH dy))) w=ζ (t:Int)/\t<fs.length/\∃p∈ls.flatMap Lp.ps,p.side=t/\A6 (eP fs at' (aH dx) (aH dy) p) w.x w.y w.d:=by
 unfold eX kV at hw;rw[aI]at hw;rw[<-wM]at hw|-;obtain⟨s,hs,PQ⟩:=YW (G4 (aH dx) (aH dy) ha) (NY h) hw.2;have h1:=QR hs PQ;obtain⟨t,ht⟩:=Option.isSome_iff_exists.1 h1;obtain⟨s',hs',bp8,AF⟩:=NI ht;rw[wM]at hs';obtain⟨p,hp,rfl⟩:=List.mem_map.1 hs';obtain⟨k,k1,k2⟩:=(h.p p hp).side;obtain⟨-,-,f3,-⟩:=Fy k1 (h.p p hp);refine⟨k,?_,k2,p,hp,k1,bp8⟩;rw[ht,<-AF,f3]
end
section
open Go
theorem zG(d0 k)(hd0:d0<4)(d:Nat->Nat)(f g:Nat->Int)(hk:0<k)(hd:∀j,d j<4)(hf:∀j,j<k->f (j+1)=f j+(if d j=d0 then 1 else if d j=(d0+2)%4 then -1 else 0))(hg:∀j,j<k->g (j+1)=g j+(if d j=(d0+1)%4 then 1 else if d j=(d0+3)%4 then -1 else 0))(ht:∀j,j<k->d (j+1)=d j\/d (j+1)=(d j+1)%4\/d (j+1)=(d j+3)%4)(f0:f k=f 0)(g0:g k=g 0)(e0:d k=d 0):∃j,j<k/\d (j+1)=d0/\d j≠d0:=by
 apply aG;intro Q8;have h:∀j,j<k->d (j+1)=d0->d j=d0:=fun j hj he=>aG fun c=>Q8 ⟨j,hj,he,c⟩;by_cases hA:∃p,p<=k/\d p=d0
 .obtain⟨p,hp,hpd⟩:=hA;have bf5:∀m p,p<=k->d p=d0->m<=p->d (p-m)=d0:=by
   intro m;induction m with
   |zero=>intro p _ h1 _;exact h1
   |succ m ih=>
    intro p hp h1 h2;have h3:=ih p hp h1 oM;have:=h (p-(m+1)) oM (by rw[show p-(m+1)+1=p-m by omega];exact h3);exact this
  have h00:d 0=d0:=by have:=bf5 p p hp hpd (θ _);rwa[CI]at this
  have hall:∀j,j<=k->d j=d0:=fun j hj=>by
   have:=bf5 (k-j) k (θ _) (e0.trans h00) oM;rwa[show k-(k-j)=j by omega]at this
  have hup:∀j,j<=k->f j=f 0+j:=by
   intro j;induction j with
   |zero=>intro _;simp
   |succ j ih=>
    intro hj;rw[hf j oM,ih oM,ip (hall j oM)];omega
  have:=hup k (θ _);omega
 .have hB:∀p,p<=k->d p≠d0:=fun p hp c=>hA ⟨p,hp,c⟩;have Zy:∀j,j<k->f (j+1)<=f j:=fun j hj=>by
   rw[hf j hj,iN (hB j oM)];split <;>omega
  have Wi:∀m j,j+m<=k->f (j+m)<=f j:=by
   intro m;induction m with
   |zero=>intro j _;exact Int.le_refl _
   |succ m ih=>
    intro j hj;have h1:=ih j oM;have h2:=Zy (j+m) oM;rw[LV]at h2;omega
  have aj5:∀j,j<k->d j≠(d0+2)%4:=fun j hj c=>by
   have h1:=hf j hj;rw[iN (hB j oM),ip c]at h1;have h2:=Wi j 0 oM;rw[bD]at h2;have h3:=Wi (k-(j+1)) (j+1) oM;rw[show j+1+(k-(j+1))=k by omega]at h3;omega
  have aj6:∀j,j<k->d j=d 0:=by
   intro j;induction j with
   |zero=>intro _;rfl
   |succ j ih=>
    intro hj;have h1:=ih oM;have h2:=ht j oM;have h3:=hB j oM;have h4:=hB (j+1) oM;have h5:=aj5 j oM;have h6:=aj5 (j+1) hj;have h7:=hd j;omega
  have h1:=hB 0 oM;have h2:=aj5 0 hk;have h3:=hd 0;by_cases hc:d 0=(d0+1)%4
  .have hup:∀j,j<=k->g j=g 0+j:=by
    intro j;induction j with
    |zero=>intro _;simp
    |succ j ih=>
     intro hj;rw[hg j oM,ih oM,aj6 j oM,ip hc];omega
   have:=hup k (θ _);omega
  .have hc3:d 0=(d0+3)%4:=oM;have hup:∀j,j<=k->g j=g 0-j:=by
    intro j;induction j with
    |zero=>intro _;simp
    |succ j ih=>
     intro hj;rw[hg j oM,ih oM,aj6 j oM,iN hc,ip hc3];omega
   have:=hup k (θ _);omega
theorem ZK:∀a b e f:Bool,∀d:Fin 4,oU a b e f d<4->oU a b e f d=d\/oU a b e f d=(d+1)%4\/oU a b e f d=(d+3)%4:=dD
theorem rE{c:Int->Int->Bool}{w:Wy}(h:eX c w=ι):w.d<4/\(eY c w).d<4/\(eY c w).x=fU w.x w.d/\(eY c w).y=fV w.y w.d/\((eY c w).d=w.d\/(eY c w).d=(w.d+1)%4\/(eY c w).d=(w.d+3)%4):=by
 have hd:w.d<4:=by
  unfold eX at h;rw[aI,decide_eq_true_eq]at h;exact h.1
 obtain⟨t,h1,h2,h3,-⟩:=rT h;rw[h3];refine⟨hd,h1,rfl,rfl,?_⟩;have:=ZK (c (fU w.x w.d) (fV w.y w.d)) (c (fU w.x w.d-1) (fV w.y w.d)) (c (fU w.x w.d-1) (fV w.y w.d-1)) (c (fU w.x w.d) (fV w.y w.d-1)) ⟨w.d,hd⟩;dsimp only at this;rw[<-h2]at this;exact this h1
theorem Rj{c:Int->Int->Bool}{w:Wy}(hb:eX c w=ι)(hk:0<k)(hp:fW (eY c) k w=w)(e)(he:e<2):∃j,j<k/\(fW (eY c) (j+1) w).d=e/\(fW (eY c) j w).d%2≠e:=by
 have hbj:=fun j=>AL hb j;have hs:∀j,fW (eY c) (j+1) w=eY c (fW (eY c) j w):=fun j=>rfl;have hN:=fun j=>rE (hbj j);have key:∃j,j<k/\(fW (eY c) (j+1) w).d=e/\(fW (eY c) j w).d≠e:=by
  have he2:e=0\/e=1:=oM;rcases he2 with rfl|rfl
  .refine zG 0 k dD (fun j=>(fW (eY c) j w).d) (fun j=>(fW (eY c) j w).x) (fun j=>(fW (eY c) j w).y) hk (fun j=>(hN j).1) (fun j _=>?_) (fun j _=>?_) (fun j _=>?_) (by rw[hp];rfl) (by rw[hp];rfl) (by rw[hp];rfl)
   .skip;rw[hs,(hN j).2.2.1];have:=(hN j).1;unfold fU;generalize(fW (eY c) j w).d=q at *;match q,this with
    |0,_=>simp
    |1,_=>simp
    |2,_=>simp;omega
    |3,_=>simp
   .skip;rw[hs,(hN j).2.2.2.1];have:=(hN j).1;unfold fV;generalize(fW (eY c) j w).d=q at *;match q,this with
    |0,_=>simp
    |1,_=>simp
    |2,_=>simp
    |3,_=>simp;omega
   .skip;rw[hs];exact(hN j).2.2.2.2
  .refine zG 1 k dD (fun j=>(fW (eY c) j w).d) (fun j=>(fW (eY c) j w).y) (fun j=>-(fW (eY c) j w).x) hk (fun j=>(hN j).1) (fun j _=>?_) (fun j _=>?_) (fun j _=>?_) (by rw[hp];rfl) (by rw[hp];rfl) (by rw[hp];rfl)
   .skip;rw[hs,(hN j).2.2.2.1];have:=(hN j).1;unfold fV;generalize(fW (eY c) j w).d=q at *;match q,this with
    |0,_=>simp
    |1,_=>simp
    |2,_=>simp
    |3,_=>simp;omega
   .skip;rw[hs,(hN j).2.2.1];have:=(hN j).1;unfold fU;generalize(fW (eY c) j w).d=q at *;match q,this with
    |0,_=>simp;omega
    |1,_=>simp
    |2,_=>simp;omega
    |3,_=>simp
   .skip;rw[hs];exact(hN j).2.2.2.2
 obtain⟨j,h1,h2,h3⟩:=key;refine⟨j,h1,h2,?_⟩;have h4:=(hN j).2.2.2.2;rw[<-hs,h2]at h4;have h5:=(hN j).1;omega
theorem ZL(c:Int->Int->Bool)(x y):¬(bor c x y 0=ι/\bor c x y 1=ι):=by
 rw[BD,BD];unfold bD5;generalize c x y=a;generalize c (x-1) y=b;generalize c (x-1) (y-1)=e;generalize c x (y-1)=f;cases a<;>cases b<;>cases e<;>cases f<;>decide
theorem TC{c:Int->Int->Bool}{x y:Int}{d:Nat}(h:eX c ⟨x,y,d⟩=ι):bor c x y d=ι:=by
 unfold eX at h;rw[aI]at h;exact h.2
theorem Rm{c:Int->Int->Bool}{M:List (Int×Int)}:∀ (L:List (List Wy)),(∀ l∈L,∀ w∈l,eX c w=ι)->L.flatten.Nodup->(∀ l∈L,∃ q0∈M,∃ q1∈M,(⟨q0.1,q0.2,0⟩:Wy)∈l/\(⟨q1.1,q1.2,1⟩:Wy)∈l)->
 ∃ Vi:List (Int×Int),Vi.length=2 * L.length/\Vi.Nodup/\∀ q∈Vi,q∈M/\((⟨q.1,q.2,0⟩:Wy)∈L.flatten\/(⟨q.1,q.2,1⟩:Wy)∈L.flatten)
 | [],_,_,_=>⟨[],rfl,List.nodup_nil,fun q h=>by cases h⟩
 | l ::L,hb,hn,h=> by
  rw [jP,List.nodup_append] at hn
  obtain⟨Vi,h1,h2,h3⟩:=Rm L (fun m hm=>hb m (cC _ hm)) hn.2.1 fun m hm=>h m (cC _ hm)
  obtain⟨q0,m0,q1,m1,k0,k1⟩:=h l (bO ..)
  have b0:=TC (hb l (bO ..) _ k0)
  have b1:=TC (hb l (bO ..) _ k1)
  have jh:∀ w∈L.flatten,eX c w=ι:=fun w hw=>by
   obtain⟨m,hm,hw⟩:=List.mem_flatten.1 hw
   exact hb m (cC _ hm) w hw
  have n0:q0 ∉ Vi:=fun hq=>by
   rcases(h3 _ hq).2 with h4 | h4
   .exact hn.2.2 _ k0 _ h4 rfl
   .exact ZL c _ _ ⟨b0,TC (jh _ h4)⟩
  have n1:q1 ∉ Vi:=fun hq=>by
   rcases(h3 _ hq).2 with h4 | h4
   .exact ZL c _ _ ⟨TC (jh _ h4),b1⟩
   .exact hn.2.2 _ k1 _ h4 rfl
  have n01:q0≠q1:=fun e=>by
   subst e
   exact ZL c _ _ ⟨b0,b1⟩
  refine⟨q0 ::q1 ::Vi,by rw [aC,aC,h1,aC];omega,?_,fun q hq=>?_⟩
  .rw [List.nodup_cons,List.nodup_cons,jT]
   exact⟨fun c=>c.elim n01 n0,n1,h2⟩
  .rw [jP,iV,iV]
   rcases List.mem_cons.1 hq with rfl | hq
   .exact⟨m0,.inl (.inl k0)⟩
   .rcases List.mem_cons.1 hq with rfl | hq
    .exact⟨m1,.inr (.inl k1)⟩
    .exact⟨(h3 q hq).1,(h3 q hq).2.elim (fun h=>.inl (.inr h)) fun h=>.inr (.inr h)⟩
theorem aj7{α:Type}(l:List α)(m:List β):(l.flatMap fun x=>m.map fun y=>(x,y)).length=l.length*m.length:=by
 induction l with
 |nil=>simp
 |cons x l ih=>rw[gS,aJ,ih,υ,aC,Nat.succ_mul,Nat.add_comm]
theorem aj8(p:Nat->Bool)(l:List Nat):(l.filter p).length+(l.filter fun s=>!p s).length=l.length:=by
 induction l with
 |nil=>rfl
 |cons x l ih=>
  cases h:p x<;>simp[List.filter_cons,h]<;>omega
theorem aC3:∀a b:Fin 13,a.1+b.1<=12->a.1*b.1<=36:=dD
theorem ue{dx dy:List (List UInt8)}(h:wW fs at' ls dx dy)(ha:oI fs at' ls ν=ι)(Vj:fs.length<=12)(ws):
 (jK (kV fs at' (aH dx) (aH dy) ls) ws).2.length<=18:=by
 have hc:=Ae fs at' (aH dx) (aH dy) ls;have yR:=wL hc ws;let ups:List Int:=((cI fs.length).filter fun s=>(fs.getD s Γ).up).map fun s=>((oK (aH dx) (at'.getD s []):Nat):Int);let lvs:List Int:=((cI fs.length).filter fun s=>!(fs.getD s Γ).up).map fun s=>((oK (aH dy) (at'.getD s []):Nat):Int);let M:List (Int×Int):=ups.flatMap fun x=>lvs.map fun y=>(x,y);have BO:∀w,eX (kV fs at' (aH dx) (aH dy) ls) w=ι->(w.d%2=1->w.x∈ups)/\(w.d%2=0->w.y∈lvs):=fun w hw=>by
  obtain⟨t,-,FU,p,-,hpt,PQ⟩:=EA h ha hw;have hd:=(rE hw).1;have ets:p.side.toNat=t:=oM;have hup:(eP fs at' (aH dx) (aH dy) p).up=ι->(fs.getD t Γ).up=ι/\(eP fs at' (aH dx) (aH dy) p).line=((oK (aH dx) (at'.getD t []):Nat):Int):=fun hu=>by
   unfold eP at hu|-;rw[ets]at hu|-;by_cases c:(fs.getD t Γ).up=ι
   .rw[ip c];exact⟨c,rfl⟩
   .rw[iN c]at hu;cases hu
  have hlv:(eP fs at' (aH dx) (aH dy) p).up=ν->(fs.getD t Γ).up=ν/\(eP fs at' (aH dx) (aH dy) p).line=((oK (aH dy) (at'.getD t []):Nat):Int):=fun hu=>by
   unfold eP at hu|-;rw[ets]at hu|-;by_cases c:(fs.getD t Γ).up=ι
   .rw[ip c]at hu;cases hu
   .rw[iN c];exact⟨by simpa using c,rfl⟩
  have mu:(fs.getD t Γ).up=ι->((oK (aH dx) (at'.getD t []):Nat):Int)∈ups:=fun hu=>List.mem_map.2 ⟨t,List.mem_filter.2 ⟨List.mem_range.2 FU,hu⟩,rfl⟩;have ml:(fs.getD t Γ).up=ν->((oK (aH dy) (at'.getD t []):Nat):Int)∈lvs:=fun hu=>List.mem_map.2 ⟨t,List.mem_filter.2 ⟨List.mem_range.2 FU,by rw[hu];rfl⟩,rfl⟩;unfold A6 at PQ;refine⟨fun h1=>?_,fun h1=>?_⟩
  .have:w.d=1\/w.d=3:=oM;rcases this with e|e<;>rw[e]at PQ
   .have:=hup PQ.1;rw[<-PQ.2.1,this.2];exact mu this.1
   .have:=hup PQ.1;rw[<-PQ.2.1,this.2];exact mu this.1
  .have:w.d=0\/w.d=2:=oM;rcases this with e|e<;>rw[e]at PQ
   .have:=hlv PQ.1;rw[<-PQ.2.1,this.2];exact ml this.1
   .have:=hlv PQ.1;rw[<-PQ.2.1,this.2];exact ml this.1
 have hq:∀l∈(jK (kV fs at' (aH dx) (aH dy) ls) ws).2,∃q0∈M,∃q1∈M,(⟨q0.1,q0.2,0⟩:Wy)∈l/\(⟨q1.1,q1.2,1⟩:Wy)∈l:=fun l hl=>by
  obtain⟨-,w,hw,rfl⟩:=yR.pos l hl;obtain⟨k,hk,-⟩:=GY hc hw;rw[uY hk];have one:∀e,e<2->∃q∈M,(⟨q.1,q.2,e⟩:Wy)∈jX (eY (kV fs at' (aH dx) (aH dy) ls)) w k:=fun e he=>by
   obtain⟨j,hj,h1,h2⟩:=Rj hw hk.1 hk.2.1 e he;have hb1:=AL hw (j+1);have Jt:=AL hw j;have mG:fW (eY (kV fs at' (aH dx) (aH dy) ls)) (j+1) w∈jX (eY (kV fs at' (aH dx) (aH dy) ls)) w k:=by
    rw[rC];rcases fO (j+1) k with c|c
    .exact⟨j+1,c,rfl⟩
    .obtain rfl:j+1=k:=oM;exact⟨0,hk.1,hk.2.1.symm⟩
   have hx:(fW (eY (kV fs at' (aH dx) (aH dy) ls)) (j+1) w).x=fU (fW (eY (kV fs at' (aH dx) (aH dy) ls)) j w).x (fW (eY (kV fs at' (aH dx) (aH dy) ls)) j w).d:=(rE Jt).2.2.1;have hy:(fW (eY (kV fs at' (aH dx) (aH dy) ls)) (j+1) w).y=fV (fW (eY (kV fs at' (aH dx) (aH dy) ls)) j w).y (fW (eY (kV fs at' (aH dx) (aH dy) ls)) j w).d:=(rE Jt).2.2.2.1;have hd0:=(rE Jt).1;generalize fW (eY (kV fs at' (aH dx) (aH dy) ls)) j w=u,fW (eY (kV fs at' (aH dx) (aH dy) ls)) (j+1) w=v at *;obtain⟨vx,vy,vd⟩:=v;obtain⟨ux,uy,ud⟩:=u;dsimp only at *;subst h1;refine⟨(vx,vy),?_,mG⟩;have sv:=BO _ hb1;have su:=BO _ Jt;dsimp only at sv su;rw[List.mem_flatMap];refine⟨vx,?_,List.mem_map.2 ⟨vy,?_,rfl⟩⟩
   .rcases(by omega:vd=0\/vd=1)with rfl|rfl
    .have h3:ud=1\/ud=3:=oM;have h4:=su.1 oM;rw[hx];rcases h3 with rfl|rfl<;>exact h4
    .exact sv.1 rfl
   .rcases(by omega:vd=0\/vd=1)with rfl|rfl
    .exact sv.2 rfl
    .have h3:ud=0\/ud=2:=oM;have h4:=su.2 oM;rw[hy];rcases h3 with rfl|rfl<;>exact h4
  obtain⟨q0,m0,k0⟩:=one 0 dD;obtain⟨q1,m1,k1⟩:=one 1 dD;exact⟨q0,m0,q1,m1,k0,k1⟩
 have hnd:=yR.nd;rw[yR.all]at hnd;obtain⟨Vi,p1,p2,p3⟩:=Rm (c:=kV fs at' (aH dx) (aH dy) ls) _ (fun l hl w hw=>yR.bor w (by rw[yR.all];exact List.mem_flatten.2 ⟨l,hl,hw⟩)) hnd hq;have Zy:=Fp p2 fun q hq=>(p3 q hq).1;have hM:M.length=ups.length*lvs.length:=aj7 ups lvs;have hs:ups.length+lvs.length=fs.length:=by
  show(oO _ _).length+(oO _ _).length=_;rw[υ,υ,aj8 (fun s=>(fs.getD s Γ).up),List.length_range]
 have:=aC3 ⟨ups.length,oM⟩ ⟨lvs.length,oM⟩ (by show ups.length+lvs.length<=12;omega);dsimp only at this;omega
end
section
open Go Go.RowKit Go.Lib
def UA:List Int->Int
 |[]=>0
 |x::l=>if x=0 then UA l else x
theorem aj9{l:List Int}(h:∀i,i<l.length->l.getD i 0=0):UA l=0:=by
 induction l with
 |nil=>rfl
 |cons x l ih=>
  rw[UA,ip (by simpa using h 0 sP)];exact ih fun i hi=>by simpa using h (i+1) (by simpa using hi)
theorem aU2{l:List Int}(hk:k<l.length)(h:∀i,i<k->l.getD i 0=0)(h0:l.getD k 0≠0):UA l=l.getD k 0:=by
 induction l generalizing k with
 |nil=>simp at hk
 |cons x l ih=>
  cases k with
  |zero=>rw[UA,iN (by simpa using h0)];simp
  |succ k=>
   rw[UA,ip (by simpa using h 0 oM)];rw[ih (k:=k) (by simpa using hk) (fun i hi=>by simpa using h (i+1) oM) (by simpa using h0)];simp
theorem ak0(b off n cap xs w)(hl:xs.length=n)(hn:n<=1000000)(hc:∀i,i<n->w.cell? ⟨b,off+i,δ⟩=ζ (Υ Ξ (xs.getD i 0))):
 aE γ 125 #[Θ (ζ ⟨b,off,δ⟩) n cap] w fun e w'=>e=σ (Υ Ξ (UA xs))/\w=w':=by
 have Hc:=zq hc;have Hl:=zq hl;clear hc hl;go_enter func125,ntmps125;go_wp2;go_loop [8] (fun i=>∃k:Nat,i=Υ Ξ k/\k<=n/\∀j,j<k->xs.getD j 0=0) (fun i=>n-(ξ i).toNat);case atStart=>exact⟨0,rfl,oM,fun j hj=>oM⟩
 case round=>
  obtain⟨k,rfl,hk,hz⟩:=hrel;have Hz:=zq hz;clear hz;by_cases hlt:k<n
  .have c0:=Hc.o k hlt;have hlt2:(k:Int)<n:=oM;obtain⟨x,hx⟩:=nm (xs.getD k 0);rw[hx]at c0;have Hx:=zq hx;clear hx;by_cases h0:x=0
   .subst h0;go_wp2;go_round;case rel=>exact⟨k+1,by go_num,oM,fun j hj=>by
     by_cases e:j=k
     .rw[e];exact Hx.o
     .exact Hz.o j oM⟩
    case measure=>simp only[ξ];omega
   .have E:=zq ((aU2 (by rw[Hl.o];exact hlt) Hz.o (by rw[Hx.o];exact h0)).trans Hx.o);have hne:(x !=0)=ι:=by rw[bne_iff_ne];exact h0
    go_wp2;go_ret;exact⟨by rw[E.o]<;>rfl,rfl⟩
  .obtain rfl:k=n:=oM;have E:=zq (aj9 (l:=xs) fun i hi=>Hz.o i (by rw[<-Hl.o];exact hi));go_wp2;go_ret;exact⟨by rw[E.o]<;>rfl,rfl⟩
theorem ak1(p q:Po)(w:η)(hE:mV w)(h1:Sm p.x)(h2:Sm p.y)(h3:Sm q.x)(h4:Sm q.y):
 aE γ 126 #[p.v,q.v] w (Rt (Υ Ξ (UA [(fQ p.x q.x).1,(fQ p.y q.y).1])) w):=by
 have HX:=zq fun W(hW:Bw w W)=>nK p.x q.x W (hE.below hW) h1 h3;have HY:=zq fun W(hW:Bw w W)=>nK p.y q.y W (hE.below hW) h2 h4;have HO:aQ (∀(a b:Int)(W:η),aE γ 125 #[Θ (ζ ⟨W.heap.size,0,δ⟩) 2 2] (W.alloc (π #[Υ Ξ a,Υ Ξ b] 3)) fun e w'=>e=σ (Υ Ξ (UA [a,b]))/\W.alloc (π #[Υ Ξ a,Υ Ξ b] 3)=w'):=fun a b W=>
  ak0 W.heap.size 0 2 2 [a,b] _ rfl dD fun i hi=>by
   have q:=bE.new W #[Υ Ξ a,Υ Ξ b] 3;match i,hi with
   |0,_=>exact q.cell 0
   |1,_=>exact q.cell 1
 obtain⟨b0,b1,hb⟩:=MB (w:=w) (c1:=p.cells) (c2:=q.cells) (T1:=59) (T2:=59) rfl;have k0:=b0.ce 0;have k1:=b0.ce 1;have k2:=b1.ce 0;have k3:=b1.ce 1;unfold Po.v Po.cells at *;have l1:=b0.lt;have l2:=b1.lt;have HB:=zq hb;clear hE h1 h2 h3 h4 hb b0 b1;generalize(fQ p.x q.x).1=c1 at *;generalize(fQ p.y q.y).1=c2 at *;generalize bs q.y=QY,bs q.x=QX,bs p.y=PY,bs p.x=PX at *;go_enter func126,ntmps126;go_wp2;obtain⟨W0,fI⟩:=nm ((w.alloc (π #[Δ PX,Δ PY] 59)).alloc (π #[Δ QX,Δ QY] 59));rw[fI]at k0 k1 k2 k3 l1 l2 HB|-;clear fI;go_region_held3 (fun w'=>(w'.cell? ⟨w.heap.size,0,δ⟩=ζ (Δ PX)/\w'.cell? ⟨w.heap.size,1,δ⟩=ζ (Δ PY))/\(w'.cell? ⟨w.heap.size+1,0,δ⟩=ζ (Δ QX)/\w'.cell? ⟨w.heap.size+1,1,δ⟩=ζ (Δ QY))) (go_keep)
  (first
   |(go_at_call 37;(with_reducible refine(HX.o _ HB.o.drew).mono ?_);rintro e w1 ⟨rfl,hb1⟩;have eG:=zq (HB.o.drew.trans (hb1.mono HB.o.size));have:=ck hb1 w.heap.size 0 (Δ PX);have:=ck hb1 w.heap.size 1 (Δ PY);have:=ck hb1 (w.heap.size+1) 0 (Δ QX);have:=ck hb1 (w.heap.size+1) 1 (Δ QY))
   |(go_at_call 37;(with_reducible refine(HY.o _ eG.o).mono ?_);rintro e w2 ⟨rfl,hb2⟩;have eU:=zq (eG.o.trans (hb2.mono eG.o.size));have:=ck hb2 w.heap.size 0 (Δ PX);have:=ck hb2 w.heap.size 1 (Δ PY);have:=ck hb2 (w.heap.size+1) 0 (Δ QX);have:=ck hb2 (w.heap.size+1) 1 (Δ QY))
   |(go_at_call 125;(with_reducible refine(HO.o _ _ _).mono ?_);rintro e w3 ⟨rfl,rfl⟩)
   |fail)
 go_wp2;go_ret;exact⟨rfl,eU.o.alloc eU.o.size _⟩
def Kt(a b:Int):Int:=if a<b then -1 else if b<a then 1 else 0
theorem Rn(a w):aE γ 176 #[Υ Ξ a] w fun e w'=>e=σ (ω ν)/\w=w':=by
 go_enter func176,ntmps176;go_wp2;go_ret;exact⟨by first |rfl|(simp;done),rfl⟩
theorem Wj(a b w):aE γ 127 #[Υ Ξ a,Υ Ξ b] w fun e w'=>e=σ (Υ Ξ (Kt a b))/\∃n,w'=w.drewN n:=by
 have H1:=zq (fun W=>Rn a W);have H2:=zq (fun W=>Rn b W);by_cases h:a<b
 .have E:aQ (Kt a b= -1):=ip h;go_enter XW,Un;go_wp2_with (first |(refine(H1.o _).mono ?_;rintro e w1 ⟨rfl,rfl⟩)|(refine(H2.o _).mono ?_;rintro e w1 ⟨rfl,rfl⟩))
  go_ret;exact⟨by rw[E.o]<;>rfl,0,rfl⟩
 .by_cases h2:b<a
  .have E:aQ (Kt a b=1):=by show _=_;rw[Kt,iN h,ip h2]
   go_enter XW,Un;go_wp2_with (first |(refine(H1.o _).mono ?_;rintro e w1 ⟨rfl,rfl⟩)|(refine(H2.o _).mono ?_;rintro e w1 ⟨rfl,rfl⟩))
   go_ret;exact⟨by rw[E.o]<;>rfl,0,rfl⟩
  .have E:aQ (Kt a b=0):=by show _=_;rw[Kt,iN h,iN h2]
   go_enter XW,Un;go_wp2_with (first |(refine(H1.o _).mono ?_;rintro e w1 ⟨rfl,rfl⟩)|(refine(H2.o _).mono ?_;rintro e w1 ⟨rfl,rfl⟩))
   go_ret;exact⟨by rw[E.o]<;>rfl,0,rfl⟩
def Dy(fs:List Fr)(at':List (List UInt8))(p q:Pt):Int:=
 UA [UA [(fQ (bA fs at' p).x (bA fs at' q).x).1,(fQ (bA fs at' p).y (bA fs at' q).y).1],Kt p.side q.side,(fQ p.en q.en).1]
theorem ak2{c1 c2 c3:Array χ}{T1 T2 T3:cS}:bE (((w.alloc (π c1 T1)).alloc (π c2 T2)).alloc (π c3 T3)) w.heap.size c1 T1/\bE (((w.alloc (π c1 T1)).alloc (π c2 T2)).alloc (π c3 T3)) (w.heap.size+1) c2 T2/\
 bE (((w.alloc (π c1 T1)).alloc (π c2 T2)).alloc (π c3 T3)) (w.heap.size+1+1) c3 T3/\Bw w (((w.alloc (π c1 T1)).alloc (π c2 T2)).alloc (π c3 T3)):=by
 refine⟨((bE.new w _ _).alloc _).alloc _,?_,?_,((nA w _).alloc sP _).alloc (by simp <;>omega) _⟩
 .have:=(bE.new (w.alloc (π c1 T1)) c2 T2).alloc (π c3 T3);rwa[aL]at this
 .have:=bE.new ((w.alloc (π c1 T1)).alloc (π c2 T2)) c3 T3;rwa[aL,aL]at this
theorem Ro(a b2:Option bW)(nf ca c2:Nat)(fs:List Fr)(at':List (List UInt8))(p q:Pt)(s t:Nat)(w:η)(hE:mV w)
 (hs:p.side=s)(Jv:s<nf)(ht:q.side=t)(FU:t<nf)(hf:fs.length=nf)(hl:at'.length=nf)(rf:yA w a fs)(ra:Al w b2 at')
 (h1:Sm (bA fs at' p).x)(h2:Sm (bA fs at' p).y)(h3:Sm (bA fs at' q).x)(h4:Sm (bA fs at' q).y)(h5:Sm p.en)(h6:Sm q.en):
 aE γ 75 #[bQ #[Θ a nf ca,Θ b2 nf c2],p.v,q.v] w (Rt (Υ Ξ (Dy fs at' p q)) w):=by
 have HP:=zq fun W(hW:Bw w W)=>BS a b2 nf ca c2 fs at' p s W hs Jv hf hl (rf.below hW) (ra.below hW);have HQ:=zq fun W(hW:Bw w W)=>BS a b2 nf ca c2 fs at' q t W ht FU hf hl (rf.below hW) (ra.below hW);have HOr:=zq fun W(hW:Bw w W)=>ak1 _ _ W (hE.below hW) h1 h2 h3 h4;have HZ:=zq (fun W=>Wj p.side q.side W);have HT:=zq fun W(hW:Bw w W)=>nK p.en q.en W (hE.below hW) h5 h6;have HO:aQ (∀(x y z:Int)(W:η),aE γ 125 #[Θ (ζ ⟨W.heap.size,0,δ⟩) 3 3] (W.alloc (π #[Υ Ξ x,Υ Ξ y,Υ Ξ z] 3)) fun e w'=>e=σ (Υ Ξ (UA [x,y,z]))/\W.alloc (π #[Υ Ξ x,Υ Ξ y,Υ Ξ z] 3)=w'):=fun x y z W=>
  ak0 W.heap.size 0 3 3 [x,y,z] _ rfl dD fun i hi=>by
   have q:=bE.new W #[Υ Ξ x,Υ Ξ y,Υ Ξ z] 3;match i,hi with
   |0,_=>exact q.cell 0
   |1,_=>exact q.cell 1
   |2,_=>exact q.cell 2
 obtain⟨b0,b1,b2',hb⟩:=ak2 (w:=w) (c1:=#[Θ a nf ca,Θ b2 nf c2]) (c2:=p.cells) (c3:=q.cells) (T1:=70) (T2:=35) (T3:=35);have k0:=b0.ce 0;have k1:=b0.ce 1;have k2:=b1.ce 0;have k3:=b1.ce 1;have k4:=b1.ce 2;have k5:=b2'.ce 0;have k6:=b2'.ce 1;have k7:=b2'.ce 2;have E:aQ (Dy fs at' p q=UA [UA [(fQ (bA fs at' p).x (bA fs at' q).x).1,(fQ (bA fs at' p).y (bA fs at' q).y).1],Kt p.side q.side,(fQ p.en q.en).1]):=rfl;unfold Pt.v Pt.cells at *;unfold Po.v Po.cells at *;have l1:=b0.lt;have l2:=b1.lt;have l3:=b2'.lt;have HB:=zq hb;clear hE hs Jv ht FU hf hl rf ra h1 h2 h3 h4 h5 h6 hb b0 b1 b2';generalize bA fs at' q=cq,bA fs at' p=cp,Dy fs at' p q=RES at *;generalize Kt p.side q.side=o2,UA [(fQ cp.x cq.x).1,(fQ cp.y cq.y).1]=o1 at *;generalize(fQ p.en q.en).1=o3 at *;obtain⟨ps,pf,pe⟩:=p;obtain⟨qs,qf,qe⟩:=q;simp only[]at *;generalize bs qe=QE,bs qf=QF,bs pe=PE,bs pf=PF,bs cq.y=QY,bs cq.x=QX,bs cp.y=PY,bs cp.x=PX at *;go_enter func75,ntmps75;go_wp2;obtain⟨W0,fI⟩:=nm (((w.alloc (π #[Θ a nf ca,Θ b2 nf c2] 70)).alloc (π #[Υ Ξ ps,Δ PF,Δ PE] 35)).alloc (π #[Υ Ξ qs,Δ QF,Δ QE] 35));rw[fI]at k0 k1 k2 k3 k4 k5 k6 k7 l1 l2 l3 HB|-;clear fI;go_region_held3 (fun w'=>(w'.cell? ⟨w.heap.size,0,δ⟩=ζ (Θ a nf ca)/\w'.cell? ⟨w.heap.size,1,δ⟩=ζ (Θ b2 nf c2))/\(w'.cell? ⟨w.heap.size+1,0,δ⟩=ζ (Υ Ξ ps)/\w'.cell? ⟨w.heap.size+1,1,δ⟩=ζ (Δ PF)/\w'.cell? ⟨w.heap.size+1,2,δ⟩=ζ (Δ PE))/\(w'.cell? ⟨w.heap.size+1+1,0,δ⟩=ζ (Υ Ξ qs)/\w'.cell? ⟨w.heap.size+1+1,1,δ⟩=ζ (Δ QF)/\w'.cell? ⟨w.heap.size+1+1,2,δ⟩=ζ (Δ QE))) (go_keep)
  (first
   |(go_at_call 45;(with_reducible refine(HP.o _ HB.o.drew).mono ?_);rintro e w1 ⟨rfl,hb1⟩;have eG:=zq (HB.o.drew.trans (hb1.mono HB.o.size));have:=ck hb1 w.heap.size 0 (Θ a nf ca);have:=ck hb1 w.heap.size 1 (Θ b2 nf c2);have:=ck hb1 (w.heap.size+1) 0 (Υ Ξ ps);have:=ck hb1 (w.heap.size+1) 1 (Δ PF);have:=ck hb1 (w.heap.size+1) 2 (Δ PE);have:=ck hb1 (w.heap.size+1+1) 0 (Υ Ξ qs);have:=ck hb1 (w.heap.size+1+1) 1 (Δ QF);have:=ck hb1 (w.heap.size+1+1) 2 (Δ QE))
   |(go_at_call 45;(with_reducible refine(HQ.o _ eG.o).mono ?_);rintro e w2 ⟨rfl,hb2⟩;have eU:=zq (eG.o.trans (hb2.mono eG.o.size));have:=ck hb2 w.heap.size 0 (Θ a nf ca);have:=ck hb2 w.heap.size 1 (Θ b2 nf c2);have:=ck hb2 (w.heap.size+1) 0 (Υ Ξ ps);have:=ck hb2 (w.heap.size+1) 1 (Δ PF);have:=ck hb2 (w.heap.size+1) 2 (Δ PE);have:=ck hb2 (w.heap.size+1+1) 0 (Υ Ξ qs);have:=ck hb2 (w.heap.size+1+1) 1 (Δ QF);have:=ck hb2 (w.heap.size+1+1) 2 (Δ QE))
   |(go_at_call 126;(with_reducible refine(HOr.o _ eU.o).mono ?_);rintro e w3 ⟨rfl,hb3⟩;have HB3:=zq (eU.o.trans (hb3.mono eU.o.size));have:=ck hb3 w.heap.size 0 (Θ a nf ca);have:=ck hb3 w.heap.size 1 (Θ b2 nf c2);have:=ck hb3 (w.heap.size+1) 0 (Υ Ξ ps);have:=ck hb3 (w.heap.size+1) 1 (Δ PF);have:=ck hb3 (w.heap.size+1) 2 (Δ PE);have:=ck hb3 (w.heap.size+1+1) 0 (Υ Ξ qs);have:=ck hb3 (w.heap.size+1+1) 1 (Δ QF);have:=ck hb3 (w.heap.size+1+1) 2 (Δ QE))
   |(go_at_call 127;(with_reducible refine(HZ.o _).mono ?_);rintro e w4 ⟨rfl,n4,rfl⟩)
   |(go_at_call 37;(with_reducible refine(HT.o _ (by first |exact dO HB3.o _|exact HB3.o)).mono ?_);rintro e w5 ⟨rfl,hb5⟩;have wG:=zq ((dO HB3.o n4).trans (hb5.mono (dO HB3.o n4).size));have:=ck hb5 w.heap.size 0 (Θ a nf ca);have:=ck hb5 w.heap.size 1 (Θ b2 nf c2);have:=ck hb5 (w.heap.size+1) 0 (Υ Ξ ps);have:=ck hb5 (w.heap.size+1) 1 (Δ PF);have:=ck hb5 (w.heap.size+1) 2 (Δ PE);have:=ck hb5 (w.heap.size+1+1) 0 (Υ Ξ qs);have:=ck hb5 (w.heap.size+1+1) 1 (Δ QF);have:=ck hb5 (w.heap.size+1+1) 2 (Δ QE))
   |(go_at_call 125;(with_reducible refine(HO.o _ _ _ _).mono ?_);rintro e w6 ⟨rfl,rfl⟩)
   |fail)
 go_wp2;go_ret;exact⟨by rw[E.o]<;>rfl,wG.o.alloc wG.o.size _⟩
end
end Go.Proofs.YtncclggcfgnhpaaGreatDoor
