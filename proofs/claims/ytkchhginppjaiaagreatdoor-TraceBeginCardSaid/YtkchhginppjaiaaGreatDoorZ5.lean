import Derived.Carry
import Derived.Test.YtkchhginppjaiaaGreatDoorZ0
import Derived.Test.YtkchhginppjaiaaGreatDoorZ2
import Derived.Test.YtkchhginppjaiaaGreatDoorZ3
import Derived.Test.YtkchhginppjaiaaGreatDoorZ4
namespace Go.Proofs.YtkchhginppjaiaaGreatDoor
set_option maxRecDepth 100000
set_option maxHeartbeats 8000000
set_option linter.all false
open Go.Proofs.Tryz
open _root_.Bool renaming and_eq_true->bQ,false_eq_true->bS,not_eq_true'->dP
open _root_.Go renaming World->aF,Value->aP,undef->aO,Calls->bE,Addr->cO,heap_setCell_other->eE,getD_set_ne->fN
open Go.Act renaming put->cS
open Go.Ending renaming returned->bA
open Go.Instr renaming lookup->iR,mapUpdate->oE,mapEntry->D6,entryStore->KB
open Go.IntKind renaming i64->aB
open Go.IntWalk renaming i64_in->bI
open Go.Obj renaming cells->aN
open Go.Proofs.Tryz renaming prog->aE
open Go.RowKit renaming intOf->aK,Hid->bK
open Go.RowKit.Below renaming refl->aL
open Go.Sem renaming run->eH
open Go.Value renaming string->aA,int->aC,slice->aD,bool->aV,pointer->aY,agg->cF,tuple->cK,ownBlock->jW
open Go.World renaming block_lt_of_cell?->bB,size_alloc->bH,size_setCell->rQ,ownsRow_nil->tG,cell?->vE,cell?_setCell_other->Oc
open _root_.List renaming getD_eq_getElem?_getD->aG,getElem?_cons_zero->aI,getElem?_toArray->aJ,setIfInBounds_toArray->aM,getElem_cons_succ->aR,getElem_cons_zero->aS,set_cons_zero->aT,set_cons_succ->aW,getElem_toArray->aX,length_map->aZ,getElem?_cons_succ->bC,getElem?_eq_getElem->bN,length_append->bO,take_succ_eq_append_getElem->cN,map_append->eV,getElem_mem->gL,flatMap_cons->kT,flatMap_append->lK,map_cons->nJ,append_nil->pZ,map_nil->yE,take_length->Cc,length_singleton->Wk
open _root_.Nat renaming le_refl->aH,le_trans->aU,zero_le->bM,zero_add->cC,mod_lt->dB
open _root_.Option renaming getD_some->bX,isSome_none->Fz,isSome_some->FA,getD_none->Ju
open _root_.Or renaming inl->rB
open _root_.Prod renaming fst->R9,snd->Sa
open _root_.Prod.mk renaming injEq->KG
section
open Go Go.RowKit Go.Lib
theorem QP{W:aF}{cL e size n:Nat}{v:aP}{us:List aP}(ho:W.ownsRow cL e size v n us){m c:Nat}{es:Array MapEntry}(hm:W.heap[m]? =some (.map es c)):some m≠v.ownBlock:=by
 rcases ho.2 with⟨h,_⟩|⟨g,c',oL,h,_,k,_⟩
 ·rw[h];simp[jW]
 ·rw[h];intro e;have e:m=g:=by simpa[jW]using e
  subst e;rw[hm]at k;cases k
section
variable{W W':aF}{G:Nat}{xv yv:aP}{m2 m3 m4:Nat}{S N:WL}{I:SL}
theorem gN.grown(h:gN W G xv yv m2 m3 m4 S N I){cL e size n:Nat}{v:aP}{us:List aP}(ho:W.ownsRow cL e size v n us)(iC:154≠e)(hg:W.grownBy W' v.ownBlock):gN W' G xv yv m2 m3 m4 S N I:=by
 obtain⟨h0,h2,h3,h4⟩:=h;exact⟨jQ h0 hg (gP h0 ho iC),(hg.block m2 (Array.getElem?_eq_some_iff.1 h2).1 (QP ho h2)).trans h2,(hg.block m3 (Array.getElem?_eq_some_iff.1 h3).1 (QP ho h3)).trans h3,(hg.block m4 (Array.getElem?_eq_some_iff.1 h4).1 (QP ho h4)).trans h4⟩
theorem gN.setXY(h:gN W G xv yv m2 m3 m4 S N I)(v:aP):gN (W.setCell ⟨G,0,none⟩ v) G v yv m2 m3 m4 S N I∧gN (W.setCell ⟨G,1,none⟩ v) G xv v m2 m3 m4 S N I:=by
 obtain⟨h0,h2,h3,h4⟩:=h;exact⟨⟨h0.set 0 v,(eE W ⟨G,0,none⟩ m2 v (kJ h0 h2)).trans h2,(eE W ⟨G,0,none⟩ m3 v (kJ h0 h3)).trans h3,(eE W ⟨G,0,none⟩ m4 v (kJ h0 h4)).trans h4⟩,
  ⟨h0.set 1 v,(eE W ⟨G,1,none⟩ m2 v (kJ h0 h2)).trans h2,(eE W ⟨G,1,none⟩ m3 v (kJ h0 h3)).trans h3,(eE W ⟨G,1,none⟩ m4 v (kJ h0 h4)).trans h4⟩⟩
theorem gN.five(h:gN W G xv yv m2 m3 m4 S N I):W.cell? ⟨G,0,none⟩=some xv∧W.cell? ⟨G,1,none⟩=some yv∧W.frozen? ⟨G,0,none⟩=false∧W.frozen? ⟨G,1,none⟩=false∧G<W.heap.size:=
 ⟨h.blk.cell 0,h.blk.cell 1,h.blk.fz 0,h.blk.fz 1,h.blk.lt⟩
end
structure QQ(w0:aF)(TB:Nat)(tc:Array aP)(B G C m2 m3 m4:Nat)(TX TY:ByteArray)(W:aF)(vx vy ux uy:aP)(kx ky:Nat)(xs ys:List aP):Prop where
 grd:gN W G vx vy m2 m3 m4 [] [] []
 pt:bT W C #[aA TX,aA TY] 53
 tr:bT W TB tc 64
 ox:W.ownsRow B 34 1 ux kx xs
 oy:W.ownsRow B 34 1 uy ky ys
 sep:ux.ownBlock=none∨ux.ownBlock≠uy.ownBlock
 bel:Below w0.heap.size w0 W
 bs:B≤W.heap.size
 hb:w0.heap.size≤B
section
variable{w0:aF}{TB:Nat}{tc:Array aP}{B G C m2 m3 m4:Nat}{TX TY:ByteArray}{W W':aF}{vx vy ux uy:aP}{kx ky:Nat}{xs ys:List aP}
theorem QQ.below(h:QQ w0 TB tc B G C m2 m3 m4 TX TY W vx vy ux uy kx ky xs ys)(hb:Below W.heap.size W W'):QQ w0 TB tc B G C m2 m3 m4 TX TY W' vx vy ux uy kx ky xs ys:=
 ⟨h.grd.below hb,h.pt.below hb h.pt.lt,h.tr.below hb h.tr.lt,bJ h.ox hb,bJ h.oy hb,h.sep,aQ h.bel hb,aU h.bs hb.size,h.hb⟩
theorem QQ.freshX(h:QQ w0 TB tc B G C m2 m3 m4 TX TY W vx vy ux uy kx ky xs ys):some W.heap.size≠ux.ownBlock:=fun e=>by
 have:=(h.ox.lt _ e.symm).2;omega
theorem QQ.appX(h:QQ w0 TB tc B G C m2 m3 m4 TX TY W vx vy ux uy kx ky xs ys){g cap:Nat}{xs':List aP}
 (ho:W'.ownsRow B 34 1 (aD (some ⟨g,0,none⟩) (kx+1) cap) (kx+1) xs')(hg:W.grownBy W' ux.ownBlock)(zG:ux.ownBlock=some g∨g=W.heap.size):
 QQ w0 TB tc B G C m2 m3 m4 TX TY W' vx vy (aD (some ⟨g,0,none⟩) (kx+1) cap) uy (kx+1) ky xs' ys:=by
 have hyk:uy.ownBlock=none∨uy.ownBlock≠ux.ownBlock:=by
  rcases h.sep with h1|h1
  ·rw[h1];cases uy.ownBlock with
   |none=>exact .inl rfl
   |some g=>exact .inr (by simp)
  ·exact .inr (Ne.symm h1)
 refine⟨h.grd.grown h.ox (by decide) hg,jQ h.pt hg (gP h.pt h.ox (by decide)),jQ h.tr hg (gP h.tr h.ox (by decide)),ho,h.oy.kept hg hyk,.inr ?_,
  dO h.bel hg h.ox h.hb h.bel.size,aU h.bs hg.size,h.hb⟩
 show some g≠uy.ownBlock;intro e;rcases zG with h1|h1
 ·rcases h.sep with h2|h2
  ·rw[h2]at h1;cases h1
  ·exact h2 (h1.trans e)
 ·have:=(h.oy.lt g e.symm).2;omega
theorem QQ.appY(h:QQ w0 TB tc B G C m2 m3 m4 TX TY W vx vy ux uy kx ky xs ys){g cap:Nat}{ys':List aP}
 (ho:W'.ownsRow B 34 1 (aD (some ⟨g,0,none⟩) (ky+1) cap) (ky+1) ys')(hg:W.grownBy W' uy.ownBlock)(zG:uy.ownBlock=some g∨g=W.heap.size):
 QQ w0 TB tc B G C m2 m3 m4 TX TY W' vx vy ux (aD (some ⟨g,0,none⟩) (ky+1) cap) kx (ky+1) xs ys':=by
 refine⟨h.grd.grown h.oy (by decide) hg,jQ h.pt hg (gP h.pt h.oy (by decide)),jQ h.tr hg (gP h.tr h.oy (by decide)),h.ox.kept hg h.sep,ho,?_,
  dO h.bel hg h.oy h.hb h.bel.size,aU h.bs hg.size,h.hb⟩
 by_cases hn:ux.ownBlock=none
 ·exact .inl hn
 ·right;show ux.ownBlock≠some g;intro e;rcases zG with h1|h1
  ·rcases h.sep with h2|h2
   ·exact hn h2
   ·exact h2 (e.trans h1.symm)
  ·have:=(h.ox.lt g e).2;omega
theorem QQ.set(h:QQ w0 TB tc B G C m2 m3 m4 TX TY W vx vy ux uy kx ky xs ys)(hG:w0.heap.size≤G)(v:aP):
 QQ w0 TB tc B G C m2 m3 m4 TX TY (W.setCell ⟨G,0,none⟩ v) v vy ux uy kx ky xs ys∧QQ w0 TB tc B G C m2 m3 m4 TX TY (W.setCell ⟨G,1,none⟩ v) vx v ux uy kx ky xs ys:=by
 have So:=h.grd.blk;have n1:C≠G:=xK h.pt So (by decide);have n2:TB≠G:=xK h.tr So (by decide);have kx':∀j,(W.setCell ⟨G,j,none⟩ v).ownsRow B 34 1 ux kx xs:=fun j=>h.ox.kept (I4 W ⟨G,j,none⟩ v) (.inr (Ne.symm (gP So h.ox (by decide))));have ky':∀j,(W.setCell ⟨G,j,none⟩ v).ownsRow B 34 1 uy ky ys:=fun j=>h.oy.kept (I4 W ⟨G,j,none⟩ v) (.inr (Ne.symm (gP So h.oy (by decide))));refine⟨⟨(h.grd.setXY v).1,h.pt.other v n1,h.tr.other v n2,kx' 0,ky' 0,h.sep,h.bel.setCell (p:=⟨G,0,none⟩) hG v,by rw[rQ];exact h.bs,h.hb⟩,
  ⟨(h.grd.setXY v).2,h.pt.other v n1,h.tr.other v n2,kx' 1,ky' 1,h.sep,h.bel.setCell (p:=⟨G,1,none⟩) hG v,by rw[rQ];exact h.bs,h.hb⟩⟩
theorem QQ.cells(h:QQ w0 TB tc B G C m2 m3 m4 TX TY W vx vy ux uy kx ky xs ys):W.cell? ⟨G,0,none⟩=some vx∧W.cell? ⟨G,1,none⟩=some vy∧W.cell? ⟨C,0,none⟩=some (aA TX)∧W.cell? ⟨C,1,none⟩=some (aA TY):=
 ⟨h.grd.cells.1,h.grd.cells.2.1,h.pt.cell 0,h.pt.cell 1⟩
end
def jJ(ls:List Lp)(q k:Nat):List Pt:=(ls.take q).flatMap Lp.ps++(ls.getD q default).ps.take k
section
variable{ls:List Lp}{q k:Nat}
theorem Uj(hk:k<(ls.getD q default).ps.length):jJ ls q (k+1)=jJ ls q k++[(ls.getD q default).ps.getD k default]:=by
 unfold jJ;generalize(ls.getD q default).ps=L at *;rw[cN hk,←List.append_assoc];simp[aG,bN hk]
theorem pts_line(hq:q<ls.length):jJ ls q (ls.getD q default).ps.length=jJ ls (q+1) 0:=by
 unfold jJ;rw[Cc,cN hq,List.take_zero,pZ,lK];simp[aG,bN hq]
theorem pts_all:jJ ls ls.length 0=ls.flatMap Lp.ps:=by
 unfold jJ;rw[Cc,List.take_zero,pZ]
theorem Xu(hq:q<ls.length):(jJ ls q k).length≤(ls.flatMap Lp.ps).length:=by
 have e:ls.flatMap Lp.ps=(ls.take q).flatMap Lp.ps++((ls.getD q default).ps++(ls.drop (q+1)).flatMap Lp.ps):=by
  conv=>lhs;rw[←List.take_append_drop q ls,List.drop_eq_getElem_cons hq]
  rw[lK,kT];simp[aG,bN hq]
 rw[e];unfold jJ;simp only[bO,List.length_take];omega
theorem ZD(hq:q<ls.length)(hk:k<(ls.getD q default).ps.length):(ls.getD q default).ps.getD k default∈ls.flatMap Lp.ps:=by
 rw[List.mem_flatMap];refine⟨ls.getD q default,?_,?_⟩
 ·rw[aG,bN hq,bX];exact gL _
 ·generalize(ls.getD q default).ps=L at *;rw[aG,bN hk,bX];exact gL _
end
def Uk(B:Nat)(W:aF)(G m2 m3 m4:Nat)(cs:List Po):Prop:=
 ∃vx vy:aP,gN W G vx vy m2 m3 m4 [] [] []∧W.ownsRow B 34 1 vx cs.length (dK (cs.map Po.x))∧W.ownsRow B 34 1 vy cs.length (dK (cs.map Po.y))∧(vx.ownBlock=none∨vx.ownBlock≠vy.ownBlock)
theorem I5(l:List (List UInt8))(t:List UInt8):dK (l++[t])=dK l++[aA (bs t)]:=by simp[dK]
theorem O6(w:aF)(tc:Array aP):∃W0,((((((w.alloc (aN tc 64)).alloc (.map #[] 0)).alloc (.map #[] 0)).alloc (.map #[] 0)).alloc
 (aN #[aD none 0 0,aD none 0 0,.map (some (w.heap.size+1)),.map (some (w.heap.size+1+1)),.map (some (w.heap.size+1+1+1))] 154)))=W0∧
 bT W0 w.heap.size tc 64∧gN W0 (w.heap.size+1+1+1+1) (aD none 0 0) (aD none 0 0) (w.heap.size+1) (w.heap.size+1+1) (w.heap.size+1+1+1) [] [] []∧Below w.heap.size w W0:=by
 have m (W:aF) (o:Obj):(W.alloc o).heap[W.heap.size]? =some o:=heap_alloc_new W o;have k (W:aF) (o:Obj) (b:Nat) (u:Obj) (h:W.heap[b]? =some u):(W.alloc o).heap[b]? =some u:=(Below.heap_alloc W o b (Array.getElem?_eq_some_iff.1 h).1).trans h;refine⟨_,rfl,?_,?_,?_⟩
 ·exact((((bT.new w _ _).alloc _).alloc _).alloc _).alloc _
 ·refine⟨?_,?_,?_,?_⟩
  ·have:=bT.new ((((w.alloc (aN tc 64)).alloc (.map #[] 0)).alloc (.map #[] 0)).alloc (.map #[] 0)) #[aD none 0 0,aD none 0 0,.map (some (w.heap.size+1)),.map (some (w.heap.size+1+1)),.map (some (w.heap.size+1+1+1))] 154;rwa[bH,bH,bH,bH]at this
  ·have:=m (w.alloc (aN tc 64)) (.map #[] 0);rw[bH]at this;exact k _ _ _ _ (k _ _ _ _ (k _ _ _ _ this))
  ·have:=m ((w.alloc (aN tc 64)).alloc (.map #[] 0)) (.map #[] 0);rw[bH,bH]at this;exact k _ _ _ _ (k _ _ _ _ this)
  ·have:=m (((w.alloc (aN tc 64)).alloc (.map #[] 0)).alloc (.map #[] 0)) (.map #[] 0);rw[bH,bH,bH]at this;exact k _ _ _ _ this
 ·exact(((((aL _ w).alloc (aH _) _).alloc (by simp) _).alloc (by simp <;>omega) _).alloc (by simp <;>omega) _).alloc (by simp <;>omega) _
structure VX(w0:aF)(TB:Nat)(tc:Array aP)(B G A m2 m3 m4:Nat)(W:aF)(vx vy:aP):Prop where
 grd:gN W G vx vy m2 m3 m4 [] [] []
 arr:bT W A #[aY (some ⟨G,0,none⟩),aY (some ⟨G,1,none⟩)] 155
 tr:bT W TB tc 64
 bel:Below w0.heap.size w0 W
 bs:B≤W.heap.size
 hb:w0.heap.size≤B
section
variable{w0:aF}{TB:Nat}{tc:Array aP}{B G A m2 m3 m4:Nat}{W W':aF}{vx vy:aP}
theorem VX.grown(h:VX w0 TB tc B G A m2 m3 m4 W vx vy){v:aP}{n:Nat}{xs:List aP}(ho:W.ownsRow B 34 1 v n xs)(hg:W.grownBy W' v.ownBlock):VX w0 TB tc B G A m2 m3 m4 W' vx vy:=
 ⟨h.grd.grown ho (by decide) hg,jQ h.arr hg (gP h.arr ho (by decide)),jQ h.tr hg (gP h.tr ho (by decide)),dO h.bel hg ho h.hb h.bel.size,aU h.bs hg.size,h.hb⟩
theorem VX.set(h:VX w0 TB tc B G A m2 m3 m4 W vx vy)(hG:w0.heap.size≤G)(v:aP):VX w0 TB tc B G A m2 m3 m4 (W.setCell ⟨G,0,none⟩ v) v vy∧VX w0 TB tc B G A m2 m3 m4 (W.setCell ⟨G,1,none⟩ v) vx v:=by
 have So:=h.grd.blk;have n1:A≠G:=xK h.arr So (by decide);have n2:TB≠G:=xK h.tr So (by decide);exact⟨⟨(h.grd.setXY v).1,h.arr.other v n1,h.tr.other v n2,h.bel.setCell (p:=⟨G,0,none⟩) hG v,by rw[rQ];exact h.bs,h.hb⟩,
  ⟨(h.grd.setXY v).2,h.arr.other v n1,h.tr.other v n2,h.bel.setCell (p:=⟨G,1,none⟩) hG v,by rw[rQ];exact h.bs,h.hb⟩⟩
theorem VX.below(h:VX w0 TB tc B G A m2 m3 m4 W vx vy)(hb:Below W.heap.size W W'):VX w0 TB tc B G A m2 m3 m4 W' vx vy:=
 ⟨h.grd.below hb,h.arr.below hb h.arr.lt,h.tr.below hb h.tr.lt,aQ h.bel hb,aU h.bs hb.size,h.hb⟩
end
theorem CW{W:aF}{G cL n m2 m3 m4:Nat}{S N:WL}{I:SL}{vx vy v:aP}{xs:List aP}(h:gN W G vx vy m2 m3 m4 S N I)(ho:W.ownsRow cL 34 1 v n xs):some G≠v.ownBlock:=gP h.blk ho (by decide)
theorem keepS2{W:aF}{p q:cO}{v u:aP}(iC:p≠q)(h:W.cell? p=some v):(W.setCell q u).cell? p=some v:=(Oc _ _ _ _ (Ne.symm iC)).trans h
def iJ(W:aF)(g:Nat)(xs:List (List UInt8)):Prop:=∀i,i<xs.length→W.cell? ⟨g,i,none⟩=some (aA (bs (xs.getD i [])))
theorem iJ.of_rd{W:aF}{g:Nat}{xs:List (List UInt8)}(h:KO W (some ⟨g,0,none⟩) (dK xs)):iJ W g xs:=fun i hi=>by
 obtain⟨b,off,e,hc⟩:=h i (by simp[dK];exact hi)
 cases e
 rw[cC]at hc
 rw[hc]
 simp[dK,aG,hi]
theorem iJ.far{W W':aF}{g:Nat}{xs:List (List UInt8)}{row:Option Nat}(h:iJ W g xs)(hg:W.grownBy W' row)(iC:some g≠row):iJ W' g xs:=fun i hi=>(hg.cell_far ⟨g,i,none⟩ (bB W ⟨g,i,none⟩ (h i hi)) iC).trans (h i hi)
theorem iJ.set{W:aF}{g b j:Nat}{xs:List (List UInt8)}{v:aP}(h:iJ W g xs)(iC:g≠b):iJ (W.setCell ⟨b,j,none⟩ v) g xs:=fun i hi=>keepS2 (by intro e;injection e with e1 e2;exact iC e1) (h i hi)
theorem iJ.below{W W':aF}{g:Nat}{xs:List (List UInt8)}(h:iJ W g xs)(hb:Below W.heap.size W W'):iJ W' g xs:=fun i hi=>(hb.cell (p:=⟨g,i,none⟩) (bB W _ (h i hi))).trans (h i hi)
theorem CZ{W:aF}{a:cO}{v:aP}{m c:Nat}{es:Array MapEntry}(h:W.cell? a=some v)(hm:W.heap[m]? =some (.map es c)):a.block≠m:=by
 intro e;unfold vE at h;rw[e,hm]at h;cases h
structure I6(w:aF)(TB:Nat)(tc:Array aP)(G gx gy cx cy m2 m3 m4:Nat)(xs ys:List (List UInt8))(E:List Sg)(W:aF):Prop where
 bel:Below w.heap.size w W
 tr:bT W TB tc 64
 x:iJ W gx xs
 y:iJ W gy ys
 g:∃S N,gN W G (aD (some ⟨gx,0,none⟩) xs.length cx) (aD (some ⟨gy,0,none⟩) ys.length cy) m2 m3 m4 S N []∧jI E S N
section
variable{w W W':aF}{TB:Nat}{tc:Array aP}{G gx gy cx cy m2 m3 m4:Nat}{xs ys:List (List UInt8)}{E E':List Sg}
theorem I6.below(h:I6 w TB tc G gx gy cx cy m2 m3 m4 xs ys E W)(hb:Below W.heap.size W W'):I6 w TB tc G gx gy cx cy m2 m3 m4 xs ys E W':=by
 obtain⟨h1,h2,h3,h4,S,N,h5,h6⟩:=h;exact⟨aQ h1 hb,h2.below hb h2.lt,h3.below hb,h4.below hb,S,N,h5.below hb,h6⟩
theorem I6.next(h:I6 w TB tc G gx gy cx cy m2 m3 m4 xs ys E W)(h2:w.heap.size≤m2)(h3:w.heap.size≤m3)(hk:fW (fun j=>j=m2∨j=m3) W W')
 (hn:∃S N,gN W' G (aD (some ⟨gx,0,none⟩) xs.length cx) (aD (some ⟨gy,0,none⟩) ys.length cy) m2 m3 m4 S N []∧jI E' S N):I6 w TB tc G gx gy cx cy m2 m3 m4 xs ys E' W':=by
 obtain⟨b1,b2,b3,b4,S,N,b5,-⟩:=h;have hc:∀{a:cO} {v:aP},W.cell? a=some v→¬(a.block=m2∨a.block=m3):=fun hv=>by
  rintro(e|e)
  ·exact CZ hv b5.s e
  ·exact CZ hv b5.n e
 refine⟨b1.trans (hk.below b1.size ?_),hk.blk b2 ?_,fun i hi=>hk.cell (b3 i hi) (hc (b3 i hi)),fun i hi=>hk.cell (b4 i hi) (hc (b4 i hi)),hn⟩
 ·rintro k (e|e)<;>omega
 ·rintro(e|e)
  ·exact kJ b2 b5.s e.symm
  ·exact kJ b2 b5.n e.symm
end
theorem Mo(cf:Nat)(eg:∀args w,(callFunc cf args).run aE w=.ok (.enter cf args) w)(hcf:∀(x y:List UInt8)(W:aF),mN W→Sm x→Sm y→bE aE cf #[aA (bs x),aA (bs y)] W (Rt (aC aB (fH x y).1) W))
 (a:Option cO)(n cap p:Nat)(xs:List (List UInt8))(t:List UInt8)(w:aF)(hE:mN w)(hn:n≤1000000)(hp:p≤n)(hs:∀s∈xs,Sm s)(hl:xs.length=n)(ht:Sm t)
 (Zz:∀i,i<p→(fH (xs.getD i []) t).1<0)(hhi:∀i,p≤i→i<n→0≤(fH (xs.getD i []) t).1)(hc:yJ w a xs):
 bE aE 142 #[aD a n cap,aA (bs t),.func (.func cf) #[] #[]] w (Rt (cK #[aC aB p,aV (decide (p<n∧(fH (xs.getD p []) t).1=0))]) w):=by
 have HC:bK (∀i,i<n→∀W,Below w.heap.size w W→bE aE cf #[aA (bs (xs.getD i [])),aA (bs t)] W (Rt (aC aB (fH (xs.getD i []) t).1) W)):=fun i hi W hW=>hcf _ t W (hE.below hW) (hs _ (bU (by rw[hl];exact hi) [])) ht;have Hc:=zq hc;have Hl:=zq hl;have Hlo:=zq Zz;have Hhi:=zq hhi;clear hE hs ht hc Zz hhi hl hcf;generalize hT:bs t=T at *;clear hT;obtain⟨R,hR⟩:∃b,decide (p<n∧(fH (xs.getD p []) t).1=0)=b:=⟨_,rfl⟩;have HR:=zq hR;rw[hR];clear hR;go_enter func142,ntmps142;go_wp2;go_loopw[9,10] (fun i j wr=>∃x y:Nat,i=aC aB x∧j=aC aB y∧x≤p∧p≤y∧y≤n∧bK (Below w.heap.size w wr)) (fun i j _=>(aK j-aK i).toNat);case atStart=>exact⟨0,n,rfl,rfl,by omega,by omega,by omega,aL _ _⟩
 case round=>
  obtain⟨x,y,rfl,rfl,hx,hy,hyn,HB⟩:=hrel;by_cases hxy:x<y
  ·obtain⟨h,hh⟩:∃h,(x+y)/2=h:=⟨_,rfl⟩;have hh1:x≤h:=by omega
   have hh2:h<y:=by omega
   have hhn:h<n:=by omega
   obtain⟨b,off,rfl,c0⟩:=(Hc.out.below HB.out) h (by rw[Hl.out];exact hhn);obtain⟨S,hS⟩:∃S,x+y=S:=⟨_,rfl⟩;have w1:IntKind.i64.wrap ((x:Int)+(y:Int))=(S:Int):=by rw[show(x:Int)+(y:Int)=(S:Int) by omega];exact bI _ (by omega)
   have w2:IntKind.u64.wrap (S:Int)=(S:Int):=IntWalk.u64_in _ ⟨by omega,by omega⟩;have e1:(S:Int)/2=h:=by omega
   have e2:S/2=h:=by omega
   have Hh:=zq hh;clear hh hS;have hcl:=HC.out h hhn _ HB.out;have HCL:=zq hcl;clear hcl;have lxy:(x:Int)<y:=by omega
   have lh:(h:Int)<n:=by omega
   have lh0:(0:Int)≤h:=by omega
   by_cases hph:h<p
   ·have hneg:=Hlo.out h hph;generalize(fH (xs.getD h []) t).1=c at *;go_wp2_with fail
    refine HCL.out.mono ?_;rintro e W1⟨rfl,hb1⟩;have eC:=zq (aQ HB.out hb1);clear hb1;go_wp2;go_roundw;case rel=>exact⟨h+1,y,by go_num,rfl,by omega,by omega,by omega,eC.out⟩
    case measure=>simp only[aK];omega
   ·have hneg:=Hhi.out h (by omega) hhn;have hneg2:¬(fH (xs.getD h []) t).1<0:=by omega
    generalize(fH (xs.getD h []) t).1=c at *;go_wp2_with fail
    refine HCL.out.mono ?_;rintro e W1⟨rfl,hb1⟩;have eC:=zq (aQ HB.out hb1);clear hb1;go_wp2;go_roundw;case rel=>exact⟨x,h,rfl,by go_num,by omega,by omega,by omega,eC.out⟩
    case measure=>simp only[aK];omega
  ·obtain rfl:x=p:=by omega
   obtain rfl:y=x:=by omega
   by_cases hyl:y<n
   ·obtain⟨b,off,rfl,c0⟩:=(Hc.out.below HB.out) y (by rw[Hl.out];exact hyl);have hc2:=HC.out y hyl _ HB.out;have L5:=zq hc2;have lt:(y:Int)<n:=by omega
    have hR2:decide ((fH (xs.getD y []) t).1=0)=R:=by rw[←HR.out];exact decide_eq_decide.2 ⟨fun h=>⟨hyl,h⟩,fun h=>h.2⟩
    clear hc2 hyl HR;have HR:=zq hR2;clear hR2;generalize(fH (xs.getD y []) t).1=c at *;go_wp2_with fail
    refine ka L5.out fun W1 hb1=>?_;have eC:=zq (aQ HB.out hb1);clear hb1;by_cases h0:c=0
    ·have e:R=true:=by rw[←HR.out];exact decide_eq_true h0
     subst h0;go_wp2;go_ret2;exact⟨by first |rfl|(rw[e];done)|(rw[e];rfl)|(simp[e];done),eC.out⟩
    ·have e:R=false:=by rw[←HR.out];exact decide_eq_false h0
     have h':(c==0)=false:=beq_false_of_ne h0;go_wp2;go_ret2;exact⟨by first |rfl|(rw[e];done)|(rw[e];rfl)|(simp[e];done),eC.out⟩
   ·have e:R=false:=by rw[←HR.out];exact decide_eq_false fun h=>hyl h.1
    have lt:¬(y:Int)<n:=by omega
    go_wp2;go_ret2;exact⟨by first |rfl|(rw[e];done)|(rw[e];rfl)|(simp[e];done),HB.out⟩
theorem place_at(b off n cap p:Nat)(xs:List (List UInt8))(t:List UInt8)(w:aF)(hE:mN w)(hn:n≤1000000)(hp:p<n)(hs:∀s∈xs,Sm s)(hl:xs.length=n)(ht:Sm t)
 (Zz:∀i,i<p→(fH (xs.getD i []) t).1<0)(hhi:∀i,p≤i→i<n→0≤(fH (xs.getD i []) t).1)(h0:(fH (xs.getD p []) t).1=0)(hc:∀i,i<n→w.cell? ⟨b,off+i,none⟩=some (aA (bs (xs.getD i [])))):
 bE aE 167 #[aD (some ⟨b,off,none⟩) n cap,aA (bs t)] w (Rt (aC aB p) w):=by
 have H:=zq (Mo 42 (enters_of func42 (by kernel_rfl) rfl) (fun x y W hE hx hy=>mL x y W hE hx hy) (some ⟨b,off,none⟩) n cap p xs t w hE hn (Nat.le_of_lt hp) hs hl ht Zz hhi (fun i hi=>⟨b,off,rfl,hc i (by rw[←hl];exact hi)⟩));rw[decide_eq_true (show p<n∧(fH (xs.getD p []) t).1=0 from⟨hp,h0⟩)]at H;clear hE hs ht h0 hc Zz hhi hl hn hp;generalize bs t=T at *;go_enter func167,ntmps167;go_wp2_with fail
 refine H.out.mono ?_;rintro e W1⟨rfl,hb1⟩;have eC:=zq hb1;clear hb1;go_wp2;go_ret;exact⟨rfl,eC.out⟩
theorem QR(x y:Int)(u:Bool)(w:aF):bE aE 168 #[cF #[aC aB x,aC aB y],aV u] w (Rt (aC aB (if u=true then y else x)) w):=by
 have fV:=zq ((aL w.heap.size w).alloc (aH _) (aN #[aC aB x,aC aB y] 165));obtain⟨e0,e1,-,-,lT⟩:=(bT.new w #[aC aB x,aC aB y] 165).two;obtain⟨W0,eY⟩:∃W,w.alloc (aN #[aC aB x,aC aB y] 165)=W:=⟨_,rfl⟩;rw[eY]at fV e0 e1 lT;cases u<;>
 ·go_enter func168,ntmps168;go_upto_if 5 with(fail);try rw[eY]
  go_wp2;go_ret;exact⟨rfl,fV.out⟩
end
section
open Go Go.RowKit Go.Shelf Go.Lib
section
attribute[local go_sem] Oper.semAt_some
theorem keepQ{W:aF}{p q:cO}{v u:aP}(iC:p≠q)(h:W.cell? p=some v):(W.setCell q u).cell? p=some v:=(Oc _ _ _ _ (Ne.symm iC)).trans h
theorem fW.setCell{X:Nat→Prop}{W W':aF}(h:fW X W W'){q:Nat}(hq:W.heap.size≤q)(j:Nat)(v:aP):fW X W (W'.setCell ⟨q,j,none⟩ v):=
 ⟨h.os,h.tape,h.output,by rw[rQ];exact h.size,fun k hk hn=>(eE W' ⟨q,j,none⟩ k v (by show k≠q;omega)).trans (h.block k hk hn)⟩
theorem gN.setCell{W:aF}{G:Nat}{xv yv:aP}{m2 m3 m4:Nat}{S N:WL}{I:SL}(h:gN W G xv yv m2 m3 m4 S N I){q:Nat}{cs:Array aP}{T:TypeId}(hq:bT W q cs T)(hT:154≠T)(j:Nat)(v:aP):gN (W.setCell ⟨q,j,none⟩ v) G xv yv m2 m3 m4 S N I:=
 ⟨h.blk.other v (Fe h.blk hq hT),(eE W ⟨q,j,none⟩ m2 v (kJ hq h.s)).trans h.s,(eE W ⟨q,j,none⟩ m3 v (kJ hq h.n)).trans h.n,(eE W ⟨q,j,none⟩ m4 v (kJ hq h.i)).trans h.i⟩
structure Mp(w:aF)(G:Nat)(xv yv:aP)(m2 m3 m4 q FB PB:Nat)(up:Bool)(fc pc:Array aP)(I:SL)(E:List Sg)(s line a0:Int)(back:Bool)(k:Nat)(W:aF):Prop where
 kept:fW (fun j=>j=m2∨j=m3) w W
 q:bT W q #[aC aB (rF up line (eQ a0 back k)).1,aC aB (rF up line (eQ a0 back k)).2] 165
 f:bT W FB fc 58
 p:bT W PB pc 68
 g:∃S N,gN W G xv yv m2 m3 m4 S N I∧jI (E++[sU s up line a0 back k]) S N
theorem Mp.below{w W W':aF}{G:Nat}{xv yv:aP}{m2 m3 m4 q FB PB:Nat}{up:Bool}{fc pc:Array aP}{I:SL}{E:List Sg}{s line a0:Int}{back:Bool}{k:Nat}(h:Mp w G xv yv m2 m3 m4 q FB PB up fc pc I E s line a0 back k W)(hb:Below W.heap.size W W'):Mp w G xv yv m2 m3 m4 q FB PB up fc pc I E s line a0 back k W':=by
 obtain⟨h1,h2,h3,h4,S,N,h5,h6⟩:=h;exact⟨h1.step hb,h2.below hb h2.lt,h3.below hb h3.lt,h4.below hb h4.lt,S,N,h5.below hb,h6⟩
structure oU(w:aF)(G:Nat)(xv yv:aP)(m2 m3 m4 q NB FB PB:Nat)(x y u v d:Int)(fc pc:Array aP)(I:SL)(S N:WL)(W:aF):Prop where
 kept:fW (fun j=>j=m2∨j=m3) w W
 q:bT W q #[aC aB u,aC aB v] 165
 n:bT W NB #[aC aB x,aC aB y,aC aB d] 167
 f:bT W FB fc 58
 p:bT W PB pc 68
 g:gN W G xv yv m2 m3 m4 S N I
section
variable{w W W':aF}{G:Nat}{xv yv:aP}{m2 m3 m4 q NB FB PB:Nat}{x y u v d:Int}{fc pc:Array aP}{I:SL}{S N:WL}
theorem oU.below(h:oU w G xv yv m2 m3 m4 q NB FB PB x y u v d fc pc I S N W)(hb:Below W.heap.size W W'):oU w G xv yv m2 m3 m4 q NB FB PB x y u v d fc pc I S N W':=
 ⟨h.kept.step hb,h.q.below hb h.q.lt,h.n.below hb h.n.lt,h.f.below hb h.f.lt,h.p.below hb h.p.lt,h.g.below hb⟩
theorem oU.drewN(h:oU w G xv yv m2 m3 m4 q NB FB PB x y u v d fc pc I S N W)(n:Nat):oU w G xv yv m2 m3 m4 q NB FB PB x y u v d fc pc I S N (W.drewN n):=
 ⟨⟨h.kept.os,h.kept.tape,h.kept.output,h.kept.size,h.kept.block⟩,h.q,h.n,h.f,h.p,⟨h.g.blk,h.g.s,h.g.n,h.g.i⟩⟩
theorem oU.putS(h:oU w G xv yv m2 m3 m4 q NB FB PB x y u v d fc pc I S N W)(ha:CQ m2 m3 m4)(J:WL):oU w G xv yv m2 m3 m4 q NB FB PB x y u v d fc pc I J N (W.putObj m2 (iU kW vI J)):=
 ⟨h.kept.trans (.putObj W (.inl rfl) _),(eW _ _ _ _ (kJ h.q h.g.s)).trans h.q,(eW _ _ _ _ (kJ h.n h.g.s)).trans h.n,(eW _ _ _ _ (kJ h.f h.g.s)).trans h.f,(eW _ _ _ _ (kJ h.p h.g.s)).trans h.p,h.g.putS ha J⟩
theorem oU.putN(h:oU w G xv yv m2 m3 m4 q NB FB PB x y u v d fc pc I S N W)(ha:CQ m2 m3 m4)(J:WL):oU w G xv yv m2 m3 m4 q NB FB PB x y u v d fc pc I S J (W.putObj m3 (iU kW vI J)):=
 ⟨h.kept.trans (.putObj W (.inr rfl) _),(eW _ _ _ _ (kJ h.q h.g.n)).trans h.q,(eW _ _ _ _ (kJ h.n h.g.n)).trans h.n,(eW _ _ _ _ (kJ h.f h.g.n)).trans h.f,(eW _ _ _ _ (kJ h.p h.g.n)).trans h.p,h.g.putN ha J⟩
theorem oU.setQ(h:oU w G xv yv m2 m3 m4 q NB FB PB x y u v d fc pc I S N W)(hq:w.heap.size≤q)(u' v':Int):oU w G xv yv m2 m3 m4 q NB FB PB x y u' v' d fc pc I S N ((W.setCell ⟨q,0,none⟩ (aC aB u')).setCell ⟨q,1,none⟩ (aC aB v')):=
 ⟨(h.kept.setCell hq 0 _).setCell hq 1 _,(h.q.set 0 (aC aB u')).set 1 (aC aB v'),(h.n.other _ (Fe h.n h.q (by decide))).other _ (Fe h.n h.q (by decide)),(h.f.other _ (Fe h.f h.q (by decide))).other _ (Fe h.f h.q (by decide)),(h.p.other _ (Fe h.p h.q (by decide))).other _ (Fe h.p h.q (by decide)),(h.g.setCell h.q (by decide) 0 _).setCell (h.q.set 0 _) (by decide) 1 _⟩
end
theorem GG(up:Bool)(line a:Int)(back:Bool){k:Nat}(hl:0≤line∧line≤100000)(ha:0≤a∧a≤100000)(hk:k≤100000):(-1000000≤(rF up line (eQ a back k)).1∧(rF up line (eQ a back k)).1≤1000000)∧(-1000000≤(rF up line (eQ a back k)).2∧(rF up line (eQ a back k)).2≤1000000):=by
 cases up<;>cases back<;>simp only[rF,eQ,bS,if_true,if_false]<;>omega
theorem DE(a:Int)(back:Bool):eQ a back 0=a:=by cases back<;>simp[eQ]
theorem KT(up:Bool)(line p:Int)(w:aF):bE aE 168 #[cF #[aC aB (rF up line p).1,aC aB (rF up line p).2],aV up] w (Rt (aC aB p) w):=by
 have:=QR (rF up line p).1 (rF up line p).2 up w;rwa[latS]at this
def Ul(S1 S2:WL)(v:Wy)(s:Int):Prop:=S2=S1∧(∃t,gV S1 v=some t∧t≤s)∨S2=gI S1 v s∧(∀t,gV S1 v=some t→s<t)
theorem zTF{p:Prop}(h:p:=by
 clear HLT HUp hmo n0 n1 n2 p0 lP g2 g3 lG ln;have p0:=HM8.out.p.cell 0;have lP:=HM8.out.p.lt;have s0:=HM8.out.q.cell 0;have s1:=HM8.out.q.cell 1;simp only[aJ,aI,bC]at s0 s1 p0;go_wp2_with fail
 (with_reducible refine(HSt.out _).mono ?_);rintro e W9⟨rfl,O7⟩;have Um:=zq (HM8.out.below O7);have Cg:=zq ((HM8.out.below O7).setQ hqge x2 y2);clear O7 s0 s1 p0 lP HM8;have s0:=Um.out.q.cell 0;have s1:=Um.out.q.cell 1;have z0:=Um.out.q.fz 0;have z1:=Um.out.q.fz 1;have lq:=Um.out.q.lt;simp only[aJ,aI,bC]at s0 s1;go_wp2;go_roundw;case rel=>exact⟨k+1,by omega,Cg.out.kept,by rw[HE2.out];exact Cg.out.q,Cg.out.f,Cg.out.p,S2,N1,Cg.out.g,HL7.out.next HS2.out (.inl ⟨rfl,rfl⟩)⟩
 case measure=>
  have c1:=Hwr.out;have c2:=Cg.out.q.cell 0;have e:=HE2.out;simp only[rF,bS,if_false,if_true,KG]at e;simp only[aJ,aI,bC]at c2;show(aK ((vE _ ⟨q,0,none⟩).getD aO)-eQ a0 _ n).natAbs<(aK ((vE wr ⟨q,0,none⟩).getD aO)-eQ a0 _ n).natAbs;rw[c1,c2,←e.1];simp only[bX,aK];have fg:k<n:=by omega
  unfold eQ;simp only[bS,if_false,if_true];omega):p:=h
theorem zLayF{p:Prop}(h:p:=by
 rcases mo with _|t
 ·simp only[Ju,Fz]at HLT;obtain⟨S2,uP⟩:=nm S3;have HS2:=zq (HN3.out S2 uP (by rw[hmo];intro t ht;cases ht));have Gq:=zq uP;clear HN3 HN1 uP;go_quiet (fail)
  go_upto_region 13 with(fail)
  go_region;all_goals
   obtain⟨W8,JW⟩:=nm ((W7.drewN (nq+1)).putObj m2 (iU kW vI S3));have HM8:=zq ((HM7.out.drewN (nq+1)).putS hA S3);rw[JW]at HM8⊢;rw[Gq.out]at HM8;clear JW Gq;exact zTF
 ·simp only[bX,FA]at HLT;by_cases hlt:(s:Int)<t
  ·obtain⟨S2,uP⟩:=nm S3;have HS2:=zq (HN3.out S2 uP (by rw[hmo];intro t' ht;cases ht;exact hlt));have Gq:=zq uP;clear HN3 HN1 uP;go_quiet (fail)
   go_upto_region 13 with(fail)
   go_region;all_goals
    obtain⟨W8,JW⟩:=nm ((W7.drewN (nq+1)).putObj m2 (iU kW vI S3));have HM8:=zq ((HM7.out.drewN (nq+1)).putS hA S3);rw[JW]at HM8⊢;rw[Gq.out]at HM8;clear JW Gq;exact zTF
  ·obtain⟨S2,uP⟩:=nm S1;have HS2:=zq (HN1.out S2 uP t hmo (by omega));have Gq:=zq uP;clear HN3 HN1 uP;go_quiet (fail)
   obtain⟨W8,JW⟩:=nm (W7.drewN nq);have HM8:=zq (HM7.out.drewN nq);rw[JW]at HM8⊢;rw[Gq.out]at HM8;clear JW Gq;exact zTF):p:=h
theorem zTU{p:Prop}(h:p:=by
 clear HLT HUp hmo n0 n1 n2 p0 lP g2 g3 lG ln;have p0:=HM8.out.p.cell 0;have lP:=HM8.out.p.lt;have s0:=HM8.out.q.cell 0;have s1:=HM8.out.q.cell 1;simp only[aJ,aI,bC]at s0 s1 p0;go_wp2_with fail
 (with_reducible refine(HSt.out _).mono ?_);rintro e W9⟨rfl,O7⟩;have Um:=zq (HM8.out.below O7);have Cg:=zq ((HM8.out.below O7).setQ hqge x2 y2);clear O7 s0 s1 p0 lP HM8;have s0:=Um.out.q.cell 0;have s1:=Um.out.q.cell 1;have z0:=Um.out.q.fz 0;have z1:=Um.out.q.fz 1;have lq:=Um.out.q.lt;simp only[aJ,aI,bC]at s0 s1;have n0:=Cg.out.n.cell 0;have n1:=Cg.out.n.cell 1;have n2:=Cg.out.n.cell 2;have a0':=Cg.out.q.cell 0;have a1':=Cg.out.q.cell 1;have g3:=Cg.out.g.blk.cell 3;have lG:=Cg.out.g.blk.lt;have ln:=Cg.out.n.lt;have lqa:=Cg.out.q.lt;simp only[aJ,aI,bC]at n0 n1 n2 g3 a0' a1';obtain⟨WA,NR⟩:∃V,(W9.setCell ⟨q,0,none⟩ (aC aB x2)).setCell ⟨q,1,none⟩ (aC aB y2)=V:=⟨_,rfl⟩;rw[NR]at Cg n0 n1 n2 g3 a0' a1' lG ln lqa;have HWA:=zq NR;obtain⟨z,hz⟩:∃z,(gV N1 ⟨x,y,1⟩).getD 0=z:=⟨_,rfl⟩;have hzb:=Ff (E++[sU s true line a0 false k]) x y;rw[←HL7.out.net x y,hz,bO,Wk]at hzb;have qz:eH aE (iR 151 (.map (some m3)) (cF #[aC aB x,aC aB y,aC aB 1]) false) WA.drew=.ok (aC aB z) WA.drew:=by
  rw[←hz];exact uJ (w:=WA.drew) Cg.out.g.n x y 1
 obtain⟨pe,he,Mq⟩:=YT (w:=WA.drew) (zero:=(0:Int)) Eh Cv YZ Cg.out.g.n ⟨x,y,1⟩;rw[hz]at he Mq;have he:eH aE (D6 151 (.map (some m3)) (cF #[aC aB x,aC aB y,aC aB 1])) WA.drew=.ok (cK #[aC aB z,aC aB pe]) (WA.drew.putObj m3 (iU kW vI (gI N1 ⟨x,y,1⟩ z))):=he;have HMB:=zq ((Cg.out.drewN 1).putN hA (gI N1 ⟨x,y,1⟩ z));have Un:=zq (HMB.out.putN hA (gI N1 ⟨x,y,1⟩ (z+1)));obtain⟨WB,hWB⟩:∃V,WA.drew.putObj m3 (iU kW vI (gI N1 ⟨x,y,1⟩ z))=V:=⟨_,rfl⟩;have HMB:bK (oU w G (aD (some ⟨gx,0,none⟩) X cx) (aD (some ⟨gy,0,none⟩) Y cy) m2 m3 m4 q NB FB (w.heap.size+1) x y x2 y2 1 #[aV true,aC aB fco,aC aB fdir,aA FSP,aA FST] #[aC aB s,aA PF,aA PE] I S2 (gI N1 ⟨x,y,1⟩ z) WB):=by rw[←hWB];exact HMB.out
 have Un:bK (oU w G (aD (some ⟨gx,0,none⟩) X cx) (aD (some ⟨gy,0,none⟩) Y cy) m2 m3 m4 q NB FB (w.heap.size+1) x y x2 y2 1 #[aV true,aC aB fco,aC aB fdir,aA FSP,aA FST] #[aC aB s,aA PF,aA PE] I S2 (gI N1 ⟨x,y,1⟩ (z+1)) (WB.putObj m3 (iU kW vI (gI N1 ⟨x,y,1⟩ (z+1))))):=by rw[←hWB];exact Un.out
 rw[hWB]at he;have HLk2:eH aE (iR 151 (.map (some m3)) (cF #[aC aB x,aC aB y,aC aB 1]) false) WB=.ok (aC aB z) WB:=by
  have h1:=uJ (w:=WB) HMB.out.g.n x y 1;unfold rR at h1;rw[Ai,ip rfl]at h1;exact h1
 have hes:eH aE (KB 151 (.map (some m3)) (aC aB pe) (aC aB (z+1))) WB=.ok () (WB.putObj m3 (iU kW vI (gI N1 ⟨x,y,1⟩ (z+1)))):=by
  have h1:=SN (P:=aE) (T:=151) (w:=WB) HMB.out.g.n Mq (z+1);rw[SJ]at h1;exact h1
 have wz:IntKind.i64.wrap (z+1)=z+1:=(bI _ (by omega)).trans (by omega);have HZ:=zq hz;have HEl:=zq hEl;clear hz Mq hWB NR Cg hzb;go_upto_region 17 with(fail)
 rw[HWA.out];clear HWA;go_region;all_goals
  go_wp2;go_roundw;case rel=>exact⟨k+1,by omega,Un.out.kept,by rw[HE2.out];exact Un.out.q,Un.out.f,Un.out.p,S2,_,Un.out.g,HL7.out.next HS2.out (.inr ⟨by simp only[bS,if_false,if_true];rw[HE1.out,HZ.out]<;>rfl,rfl⟩)⟩
  case measure=>
   have c1:=Hwr.out;have c2:=Un.out.q.cell 1;have e:=HE2.out;simp only[rF,bS,if_false,if_true,KG]at e;simp only[aJ,aI,bC]at c2;show(aK ((vE _ ⟨q,1,none⟩).getD aO)-eQ a0 _ n).natAbs<(aK ((vE wr ⟨q,1,none⟩).getD aO)-eQ a0 _ n).natAbs;rw[c1,c2,←e.2];simp only[bX,aK];have fg:k<n:=by omega
   unfold eQ;simp only[bS,if_false,if_true];omega):p:=h
theorem zLayU{p:Prop}(h:p:=by
 rcases mo with _|t
 ·simp only[Ju,Fz]at HLT;obtain⟨S2,uP⟩:=nm S3;have HS2:=zq (HN3.out S2 uP (by rw[hmo];intro t ht;cases ht));have Gq:=zq uP;clear HN3 HN1 uP;go_quiet (fail)
  go_upto_region 13 with(fail)
  go_region;all_goals
   obtain⟨W8,JW⟩:=nm ((W7.drewN (nq+1)).putObj m2 (iU kW vI S3));have HM8:=zq ((HM7.out.drewN (nq+1)).putS hA S3);rw[JW]at HM8⊢;rw[Gq.out]at HM8;clear JW Gq;exact zTU
 ·simp only[bX,FA]at HLT;by_cases hlt:(s:Int)<t
  ·obtain⟨S2,uP⟩:=nm S3;have HS2:=zq (HN3.out S2 uP (by rw[hmo];intro t' ht;cases ht;exact hlt));have Gq:=zq uP;clear HN3 HN1 uP;go_quiet (fail)
   go_upto_region 13 with(fail)
   go_region;all_goals
    obtain⟨W8,JW⟩:=nm ((W7.drewN (nq+1)).putObj m2 (iU kW vI S3));have HM8:=zq ((HM7.out.drewN (nq+1)).putS hA S3);rw[JW]at HM8⊢;rw[Gq.out]at HM8;clear JW Gq;exact zTU
  ·obtain⟨S2,uP⟩:=nm S1;have HS2:=zq (HN1.out S2 uP t hmo (by omega));have Gq:=zq uP;clear HN3 HN1 uP;go_quiet (fail)
   obtain⟨W8,JW⟩:=nm (W7.drewN nq);have HM8:=zq (HM7.out.drewN nq);rw[JW]at HM8⊢;rw[Gq.out]at HM8;clear JW Gq;exact zTU):p:=h
theorem zTD{p:Prop}(h:p:=by
 clear HLT HUp hmo n0 n1 n2 p0 lP g2 g3 lG ln;have p0:=HM8.out.p.cell 0;have lP:=HM8.out.p.lt;have s0:=HM8.out.q.cell 0;have s1:=HM8.out.q.cell 1;simp only[aJ,aI,bC]at s0 s1 p0;go_wp2_with fail
 (with_reducible refine(HSt.out _).mono ?_);rintro e W9⟨rfl,O7⟩;have Um:=zq (HM8.out.below O7);have Cg:=zq ((HM8.out.below O7).setQ hqge x2 y2);clear O7 s0 s1 p0 lP HM8;have s0:=Um.out.q.cell 0;have s1:=Um.out.q.cell 1;have z0:=Um.out.q.fz 0;have z1:=Um.out.q.fz 1;have lq:=Um.out.q.lt;simp only[aJ,aI,bC]at s0 s1;have n0:=Cg.out.n.cell 0;have n1:=Cg.out.n.cell 1;have n2:=Cg.out.n.cell 2;have a0':=Cg.out.q.cell 0;have a1':=Cg.out.q.cell 1;have g3:=Cg.out.g.blk.cell 3;have lG:=Cg.out.g.blk.lt;have ln:=Cg.out.n.lt;have lqa:=Cg.out.q.lt;simp only[aJ,aI,bC]at n0 n1 n2 g3 a0' a1';obtain⟨WA,NR⟩:∃V,(W9.setCell ⟨q,0,none⟩ (aC aB x2)).setCell ⟨q,1,none⟩ (aC aB y2)=V:=⟨_,rfl⟩;rw[NR]at Cg n0 n1 n2 g3 a0' a1' lG ln lqa;have HWA:=zq NR;obtain⟨z,hz⟩:∃z,(gV N1 ⟨x2,y2,1⟩).getD 0=z:=⟨_,rfl⟩;have hzb:=Ff (E++[sU s true line a0 true k]) x2 y2;rw[←HL7.out.net x2 y2,hz,bO,Wk]at hzb;have qz:eH aE (iR 151 (.map (some m3)) (cF #[aC aB x2,aC aB y2,aC aB 1]) false) WA.drew=.ok (aC aB z) WA.drew:=by
  rw[←hz];exact uJ (w:=WA.drew) Cg.out.g.n x2 y2 1
 obtain⟨pe,he,Mq⟩:=YT (w:=WA.drew) (zero:=(0:Int)) Eh Cv YZ Cg.out.g.n ⟨x2,y2,1⟩;rw[hz]at he Mq;have he:eH aE (D6 151 (.map (some m3)) (cF #[aC aB x2,aC aB y2,aC aB 1])) WA.drew=.ok (cK #[aC aB z,aC aB pe]) (WA.drew.putObj m3 (iU kW vI (gI N1 ⟨x2,y2,1⟩ z))):=he;have HMB:=zq ((Cg.out.drewN 1).putN hA (gI N1 ⟨x2,y2,1⟩ z));have Un:=zq (HMB.out.putN hA (gI N1 ⟨x2,y2,1⟩ (z+(-1))));obtain⟨WB,hWB⟩:∃V,WA.drew.putObj m3 (iU kW vI (gI N1 ⟨x2,y2,1⟩ z))=V:=⟨_,rfl⟩;have HMB:bK (oU w G (aD (some ⟨gx,0,none⟩) X cx) (aD (some ⟨gy,0,none⟩) Y cy) m2 m3 m4 q NB FB (w.heap.size+1) x y x2 y2 3 #[aV true,aC aB fco,aC aB fdir,aA FSP,aA FST] #[aC aB s,aA PF,aA PE] I S2 (gI N1 ⟨x2,y2,1⟩ z) WB):=by rw[←hWB];exact HMB.out
 have Un:bK (oU w G (aD (some ⟨gx,0,none⟩) X cx) (aD (some ⟨gy,0,none⟩) Y cy) m2 m3 m4 q NB FB (w.heap.size+1) x y x2 y2 3 #[aV true,aC aB fco,aC aB fdir,aA FSP,aA FST] #[aC aB s,aA PF,aA PE] I S2 (gI N1 ⟨x2,y2,1⟩ (z+(-1))) (WB.putObj m3 (iU kW vI (gI N1 ⟨x2,y2,1⟩ (z+(-1)))))):=by rw[←hWB];exact Un.out
 rw[hWB]at he;have HLk2:eH aE (iR 151 (.map (some m3)) (cF #[aC aB x2,aC aB y2,aC aB 1]) false) WB=.ok (aC aB z) WB:=by
  have h1:=uJ (w:=WB) HMB.out.g.n x2 y2 1;unfold rR at h1;rw[Ai,ip rfl]at h1;exact h1
 have hes:eH aE (KB 151 (.map (some m3)) (aC aB pe) (aC aB (z+(-1)))) WB=.ok () (WB.putObj m3 (iU kW vI (gI N1 ⟨x2,y2,1⟩ (z+(-1))))):=by
  have h1:=SN (P:=aE) (T:=151) (w:=WB) HMB.out.g.n Mq (z+(-1));rw[SJ]at h1;exact h1
 have wz:IntKind.i64.wrap (z-1)=z+(-1):=(bI _ (by omega)).trans (by omega);have HZ:=zq hz;have HEl:=zq hEl;clear hz Mq hWB NR Cg hzb;go_upto_region 19 with(fail)
 rw[HWA.out];clear HWA;go_region;all_goals
  go_wp2;go_roundw;case rel=>exact⟨k+1,by omega,Un.out.kept,by rw[HE2.out];exact Un.out.q,Un.out.f,Un.out.p,S2,_,Un.out.g,HL7.out.next HS2.out (.inr ⟨by simp only[bS,if_false,if_true];rw[HE2.out,HZ.out]<;>rfl,rfl⟩)⟩
  case measure=>
   have c1:=Hwr.out;have c2:=Un.out.q.cell 1;have e:=HE2.out;simp only[rF,bS,if_false,if_true,KG]at e;simp only[aJ,aI,bC]at c2;show(aK ((vE _ ⟨q,1,none⟩).getD aO)-eQ a0 _ n).natAbs<(aK ((vE wr ⟨q,1,none⟩).getD aO)-eQ a0 _ n).natAbs;rw[c1,c2,←e.2];simp only[bX,aK];have fg:k<n:=by omega
   unfold eQ;simp only[bS,if_false,if_true];omega):p:=h
theorem zLayD{p:Prop}(h:p:=by
 rcases mo with _|t
 ·simp only[Ju,Fz]at HLT;obtain⟨S2,uP⟩:=nm S3;have HS2:=zq (HN3.out S2 uP (by rw[hmo];intro t ht;cases ht));have Gq:=zq uP;clear HN3 HN1 uP;go_quiet (fail)
  go_upto_region 13 with(fail)
  go_region;all_goals
   obtain⟨W8,JW⟩:=nm ((W7.drewN (nq+1)).putObj m2 (iU kW vI S3));have HM8:=zq ((HM7.out.drewN (nq+1)).putS hA S3);rw[JW]at HM8⊢;rw[Gq.out]at HM8;clear JW Gq;exact zTD
 ·simp only[bX,FA]at HLT;by_cases hlt:(s:Int)<t
  ·obtain⟨S2,uP⟩:=nm S3;have HS2:=zq (HN3.out S2 uP (by rw[hmo];intro t' ht;cases ht;exact hlt));have Gq:=zq uP;clear HN3 HN1 uP;go_quiet (fail)
   go_upto_region 13 with(fail)
   go_region;all_goals
    obtain⟨W8,JW⟩:=nm ((W7.drewN (nq+1)).putObj m2 (iU kW vI S3));have HM8:=zq ((HM7.out.drewN (nq+1)).putS hA S3);rw[JW]at HM8⊢;rw[Gq.out]at HM8;clear JW Gq;exact zTD
  ·obtain⟨S2,uP⟩:=nm S1;have HS2:=zq (HN1.out S2 uP t hmo (by omega));have Gq:=zq uP;clear HN3 HN1 uP;go_quiet (fail)
   obtain⟨W8,JW⟩:=nm (W7.drewN nq);have HM8:=zq (HM7.out.drewN nq);rw[JW]at HM8⊢;rw[Gq.out]at HM8;clear JW Gq;exact zTD):p:=h
theorem grid_lay (a b2:Option cO) (nf ca c2:Nat) (fs:List Fr) (at' :List (List UInt8)) (p:Pt) (s:Nat) (G gx gy X Y cx cy m2 m3 m4:Nat) (S N:WL) (I:SL) (E:List Sg) (px py:List UInt8) (ix iy ie line a0:Int) (back:Bool) (n:Nat) (w:aF)
 (hs:p.side=s) (Ic:s < nf) (hf:fs.length=nf) (hl:at'.length=nf) (rf:vT w a fs) (ra:yJ w b2 at') (hco:bW fs at' p=⟨px,py⟩)
 (hpx:∀ W,Below w.heap.size w W→bE aE 167 #[aD (some ⟨gx,0,none⟩) X cx,aA (bs px)] W (Rt (aC aB ix) W))
 (hpy:∀ W,Below w.heap.size w W→bE aE 167 #[aD (some ⟨gy,0,none⟩) Y cy,aA (bs py)] W (Rt (aC aB iy) W))
 (Mq:∀ W,Below w.heap.size w W→bE aE 167 #[if (fs.getD s default).up=true then aD (some ⟨gy,0,none⟩) Y cy else aD (some ⟨gx,0,none⟩) X cx,aA (bs p.en)] W (Rt (aC aB ie) W))
 (hpt:(ix,iy)=rF (fs.getD s default).up line a0) (hie:ie=eQ a0 back n) (hdir:uH (fs.getD s default)=(Kn (fs.getD s default).up back:Nat)) (yN:0≤line∧line≤100000) (ha0:0≤a0∧a0≤100000) (hnn:n≤100000) (hEl:E.length≤100000)
 (hA:CQ m2 m3 m4) (hg:gN w G (aD (some ⟨gx,0,none⟩) X cx) (aD (some ⟨gy,0,none⟩) Y cy) m2 m3 m4 S N I) (hI:jI E S N) :
 bE aE 103 #[cF #[aD a nf ca,aD b2 nf c2],aY (some ⟨G,0,none⟩),p.v] w fun e w' => (∃ v,e=bA v)∧fW (fun j=> j=m2∨j=m3) w w' ∧∃ S' N',gN w' G (aD (some ⟨gx,0,none⟩) X cx) (aD (some ⟨gy,0,none⟩) Y cy) m2 m3 m4 S' N' I∧jI (E ++ [sU s (fs.getD s default).up line a0 back n]) S' N' :=by
 have qj:bK (∀ W,Below w.heap.size w W→bE aE 52 #[cF #[aD a nf ca,aD b2 nf c2],p.v] W (Rt (cF #[aA (bs px),aA (bs py)]) W)):=fun W hW=> by
  have:=Ar a b2 nf ca c2 fs at' p s W hs Ic hf hl (rf.below hW) (ra.below hW);rwa [hco] at this
 have HPx:=zq hpx;have HPy:=zq hpy;have ZE:=zq Mq;have HD:bK (∀ W,bE aE 49 #[(fs.getD s default).v] W (Rt (aC aB (uH (fs.getD s default))) W)):=fun W=> sE _ W;have fE:=((aL w.heap.size w).alloc (aH _) (aN #[aD a nf ca,aD b2 nf c2] 64)).alloc (by simp) (aN #[aC aB s,aA (bs p.fr),aA (bs p.en)] 68);have q0:=(bT.new w #[aD a nf ca,aD b2 nf c2] 64).alloc (aN #[aC aB s,aA (bs p.fr),aA (bs p.en)] 68);have q1:=bT.new (w.alloc (aN #[aD a nf ca,aD b2 nf c2] 64)) #[aC aB s,aA (bs p.fr),aA (bs p.en)] 68;rw [bH] at q1;obtain⟨fb,fo,rfl,f0,f1,f2,f3,f4⟩:=(rf.below fE).at (i:=s) (by rw [hf];exact Ic) rfl;obtain⟨W0,eY⟩:∃ W,(w.alloc (aN #[aD (some ⟨fb,fo,none⟩) nf ca,aD b2 nf c2] 64)).alloc (aN #[aC aB s,aA (bs p.fr),aA (bs p.en)] 68)=W:=⟨_,rfl⟩;have hGr:=hg.below fE;rw [eY] at fE q0 q1 f0 f1 f2 f3 f4 hGr;have fV:=zq fE;have nO:=zq q0;have zW:=zq q1;have HGr:=zq hGr;obtain⟨e0,e1, -, -,lT⟩:=q0.two;obtain⟨p0,p1,p2⟩:=q1.three;have lP:=q1.lt;clear hf hl rf ra hco hg fE q0 q1 hGr hpx hpy Mq;unfold Fr.v Fr.cells at HD;unfold Pt.v Pt.cells at qj ⊢;rw [hs] at qj ⊢;clear hs;generalize uH (fs.getD s default)=DF at *;generalize fs.getD s default=f at *;obtain⟨uY,fco,fdir,JJ,fst⟩:=f;simp only [] at *;generalize bs JJ=FSP at *;generalize bs fst=FST at *;generalize bs px=PX at *;generalize bs py=PY at *;generalize bs p.fr=PF at *;generalize bs p.en=PE at *;have sn:(s:Int) < (nf:Int):=by omega
 have HDir:=zq hdir;clear hdir;go_enter func103,ntmps103;go_upto_if 15 with (fail);have hF:=bT.new W0 #[aV uY,aC aB fco,aC aB fdir,aA FSP,aA FST] 58;have hbF:=(aL _ W0).alloc (aH _) (aN #[aV uY,aC aB fco,aC aB fdir,aA FSP,aA FST] 58);refine(HD.out _).mono ?_;rintro e W1 ⟨rfl,hb1⟩;have hb01:=hbF.trans (hb1.mono (by simp));have rk:=zq (hF.below hb1 hF.lt);have eC:=zq (aQ fV.out hb01);have nO:=zq (nO.out.below hb01 nO.out.lt);have zW:=zq (zW.out.below hb01 zW.out.lt);have HGr:=zq (HGr.out.below hb01);clear hb01 hb1 hbF hF e0 e1 lT p0 p1 p2 lP f0 f1 f2 f3 f4 fV HD sn eY;generalize W0.heap.size=FB at *;obtain⟨e0,e1, -, -,lT⟩:=nO.out.two;obtain⟨p0,p1,p2⟩:=zW.out.three;go_wp2_with fail
 refine(qj.out _ eC.out).mono ?_;rintro e W2 ⟨rfl,hb2⟩;have Mr:=zq (rk.out.below hb2 rk.out.lt);have eT:=zq (aQ eC.out hb2);have zW:=zq (zW.out.below hb2 zW.out.lt);have HGr:=zq (HGr.out.below hb2);clear hb2 e0 e1 lT p0 p1 p2 rk eC nO qj;obtain⟨W3,hW3⟩:∃ W,W2.alloc (aN #[aA PX,aA PY] 53)=W:=⟨_,rfl⟩;have hb3:Below W2.heap.size W2 W3:=by rw [← hW3];exact(aL _ _).alloc (aH _) _
 have HC3:bK (bT W3 W2.heap.size #[aA PX,aA PY] 53):=by rw [← hW3];exact bT.new _ _ _
 have N0:=zq (Mr.out.below hb3 Mr.out.lt);have HB3:=zq (aQ eT.out hb3);have KS:=zq (zW.out.below hb3 zW.out.lt);have HG3:=zq (HGr.out.below hb3);clear hb3 Mr eT zW HGr;go_upto_region 4 with (fail)
 try rw [hW3]
 clear hW3;generalize W2.heap.size=CB at *;obtain⟨g0,g1, -, -, -⟩:=HG3.out.cells;have lG:=HG3.out.blk.lt;obtain⟨c0,c1, -, -,lC⟩:=HC3.out.two;have HWs:bK (Below W3.heap.size W3 W3.drew):=(aL _ W3).drew;have HWa:bK (Below W3.heap.size W3 (W3.alloc (aN #[aC aB 0,aC aB 0] 165)).drew):=((aL _ W3).alloc (aH _) _).drew;have HNq:bK (bT (W3.alloc (aN #[aC aB 0,aC aB 0] 165)).drew W3.heap.size #[aC aB 0,aC aB 0] 165):=bT.new W3 _ _;go_cut [9] (fun v W=> ∃ q,v=aY (some ⟨q,0,none⟩)∧W3.heap.size≤q∧bK (bT W q #[aC aB ix,aC aB iy] 165)∧bK (Below W3.heap.size W3 W));case first=>
  go_region_held3 (fun w' => w'.cell? ⟨G,0,none⟩=some (aD (some ⟨gx,0,none⟩) X cx)∧w'.cell? ⟨G,1,none⟩=some (aD (some ⟨gy,0,none⟩) Y cy)∧w'.cell? ⟨CB,0,none⟩=some (aA PX)∧w'.cell? ⟨CB,1,none⟩=some (aA PY)) (first | go_keep | ((refine⟨?_, ?_, ?_, ?_⟩) <;> (repeat (first | assumption | refine keepQ (by intro e;injection e with e1 e2;(try simp only [World.size_drew] at e1);omega) ?_))))
   (first
    | (go_at_call 167;(with_reducible refine(HPx.out _ (aQ HB3.out HWs.out)).mono ?_);rintro e w1 ⟨rfl,hb1⟩;have Ev:=zq (aQ HWs.out hb1);have sx:=Ev.out.size;have m0:=bR Ev.out g0;have m1:=bR Ev.out g1;have m2:=bR Ev.out c0;have m3:=bR Ev.out c1)
    | (go_at_call 167;(with_reducible refine(HPx.out _ (aQ HB3.out HWa.out)).mono ?_);rintro e w1 ⟨rfl,hb1⟩;have Ev:=zq (aQ HWa.out hb1);have sx:=Ev.out.size;have Hq:=zq (HNq.out.below hb1 HNq.out.lt);obtain⟨z0,z1,z2,z3,lq⟩:=Hq.out.two;have m0:=bR Ev.out g0;have m1:=bR Ev.out g1;have m2:=bR Ev.out c0;have m3:=bR Ev.out c1)
    | (go_at_call 167;(with_reducible refine(HPy.out _ (aQ HB3.out Ev.out)).mono ?_);rintro e w2 ⟨rfl,hb2⟩;have ZF:=zq (aQ Ev.out hb2);have sy:=ZF.out.size;(first | (have Hq2:=zq (Hq.out.below hb2 Hq.out.lt);obtain⟨y0,y1,y2,y3,lq2⟩:=Hq2.out.two) | skip);have m0:=bR ZF.out g0;have m1:=bR ZF.out g1;have m2:=bR ZF.out c0;have m3:=bR ZF.out c1)
    | (go_at_call 167;(with_reducible refine(HPy.out _ (aQ HB3.out (Ev.out.alloc Ev.out.size (aN #[aC aB 0,aC aB 0] 165)))).mono ?_);rintro e w2 ⟨rfl,hb2⟩;have ZF:=zq (aQ (Ev.out.alloc Ev.out.size (aN #[aC aB 0,aC aB 0] 165)) hb2);have Hq2:=zq ((bT.new w1 #[aC aB 0,aC aB 0] 165).below hb2 (bT.new w1 _ _).lt);obtain⟨y0,y1,y2,y3,lq2⟩:=Hq2.out.two;have m0:=bR ZF.out g0;have m1:=bR ZF.out g1;have m2:=bR ZF.out c0;have m3:=bR ZF.out c1)
    | fail)
  all_goals
   go_wp2;go_meet;case rel=>
    first
     | exact⟨_,rfl,by omega,bT.new w2 _ _,ZF.out.alloc ZF.out.size _⟩
     | exact⟨_,rfl,by omega,(Hq2.out.set 0 _).set 1 _,(ZF.out.setCell (p:=⟨w1.heap.size,0,none⟩) Ev.out.size _).setCell (p:=⟨w1.heap.size,1,none⟩) Ev.out.size _⟩
     | exact⟨_,rfl,by omega,(Hq2.out.set 0 _).set 1 _,(ZF.out.setCell (p:=⟨W3.heap.size,0,none⟩) (aH _) _).setCell (p:=⟨W3.heap.size,1,none⟩) (aH _) _⟩
     | fail
 case rest=>
 obtain⟨q,rfl,hqge,Nz,zU⟩:=hcut;have hqge:w.heap.size≤q:=aU HB3.out.size hqge;have HG4:=zq (HG3.out.below zU.out);have KU:=zq (N0.out.below zU.out N0.out.lt);have DZ:=zq (KS.out.below zU.out KS.out.lt);have rT:=zq (aQ HB3.out zU.out);clear HG3 N0 KS HB3 zU HC3 HWs HWa HNq g0 g1 lG c0 c1 lC;obtain⟨g0,g1, -, -, -⟩:=HG4.out.cells;obtain⟨-, -,p2⟩:=DZ.out.three;have f0:=KU.out.cell 0;simp only [aJ,aI] at f0;have lG:=HG4.out.blk.lt;have Mq:=ZE.out;clear ZE;subst hie;cases uY
 ·cases back
  ·obtain rfl:DF=0:=HDir.out;simp only [bS,if_false,if_true] at Mq;have ZE:=zq Mq;clear Mq;go_wp2_with fail
   (with_reducible refine(ZE.out _ rT.out).mono ?_);rintro e W5 ⟨rfl,hb5⟩;have VY:bK (fW (fun j=> j=m2∨j=m3) w W5):=fW.of_below (aQ rT.out hb5);have QU:=zq (KU.out.below hb5 KU.out.lt);have vG:=zq (DZ.out.below hb5 DZ.out.lt);have ZA:=zq (HG4.out.below hb5);have Ms:=zq (Nz.out.below hb5 Nz.out.lt);clear hb5 g0 g1 p2 f0 lG rT KU DZ HG4 Nz HPx HPy ZE;go_wp2;go_loopw [12] (fun _ wr=> ∃ k:Nat,k≤n∧bK (Mp w G (aD (some ⟨gx,0,none⟩) X cx) (aD (some ⟨gy,0,none⟩) Y cy) m2 m3 m4 q FB (w.heap.size + 1) false #[aV false,aC aB fco,aC aB fdir,aA FSP,aA FST] #[aC aB s,aA PF,aA PE] I E s line a0 false k wr)) (fun _ wr=> (aK ((wr.cell? ⟨q,if false=true then 1 else 0,none⟩).getD aO) - eQ a0 false n).natAbs);case atStart=> exact⟨0,bM _,VY.out,by rw [DE,← hpt];exact Ms.out,QU.out,vG.out,S,N,ZA.out,jI.zero.2 hI⟩
   case round=>
    clear VY Ms QU vG ZA hpt hI;obtain⟨k,hk,HI⟩:=hrel;obtain⟨hK,hq,hF,hP,S1,N1,hG,hL⟩:=HI.out;have Hwr:bK (wr.cell? ⟨q,0,none⟩=some (aC aB (eQ a0 false k))):=hq.cell 0;have s0:=hq.cell 0;have s1:=hq.cell 1;have lq:=hq.lt;have f0:=hF.cell 0;simp only [aJ,aI,bC] at f0 s0 s1;go_wp2_with fail
    (with_reducible refine(KT false line (eQ a0 false k) _).mono ?_);rintro e W6 ⟨rfl,hb6⟩;by_cases hkn:k=n
    ·subst hkn;go_wp2;go_end0;exact⟨⟨_,rfl⟩,hK.step hb6,S1,N1,hG.below hb6,hL⟩
    ·have iC:¬ eQ a0 false k=eQ a0 false n:=fun e=> hkn (GA e);have VZ:=zq (HI.out.below hb6);clear hK hq hF hP hG hL hb6 s0 s1 lq f0 HI;obtain⟨hK,hq,hF,hP,S1,N1,hG,hL⟩:=VZ.out;have s0:=hq.cell 0;have s1:=hq.cell 1;have lq:=hq.lt;have p0:=hP.cell 0;have lP:=hP.lt;have g2:=hG.blk.cell 2;have g3:=hG.blk.cell 3;have lG:=hG.blk.lt;simp only [aJ,aI,bC] at s0 s1 p0 g2 g3;obtain⟨x,hx⟩:∃ x,(rF false line (eQ a0 false k)).1=x:=⟨_,rfl⟩;obtain⟨y,hy⟩:∃ y,(rF false line (eQ a0 false k)).2=y:=⟨_,rfl⟩;obtain⟨x2,IL⟩:∃ x,(rF false line (eQ a0 false (k + 1))).1=x:=⟨_,rfl⟩;obtain⟨y2,QJ⟩:∃ y,(rF false line (eQ a0 false (k + 1))).2=y:=⟨_,rfl⟩;have Fj:sG false line a0 false k=⟨x,y,0⟩:=by rw [← hx,← hy];rfl
     have hb:=GG false line a0 false (k:=k) yN ha0 (by omega);rw [hx,hy] at hb;have HSt:bK (∀ W,bE aE 169 #[cF #[aC aB x,aC aB y],aC aB 0] W (Rt (cF #[aC aB x2,aC aB y2]) W)):=fun W=> by
      have h1:=wO x y 0 (by decide) W hb.1 hb.2;have h2:=Gz false line a0 false k;rw [Fj] at h2;rw [show jE x 0=x2 from(congrArg R9 h2).trans IL,show jF y 0=y2 from(congrArg Sa h2).trans QJ] at h1;exact h1
     rw [hx] at s0;rw [hy] at s1;have HE2:bK (rF false line (eQ a0 false (k + 1))=(x2,y2)):=by show _=_;rw [← IL,← QJ]
     have HE1:bK (rF false line (eQ a0 false k)=(x,y)):=by show _=_;rw [← hx,← hy]
     have Mt:=zq Fj;obtain⟨W7,QV⟩:∃ V,W6.alloc (aN #[aC aB x,aC aB y,aC aB 0] 167)=V:=⟨_,rfl⟩;have hb7:Below W6.heap.size W6 W7:=by rw [← QV];exact(aL _ _).alloc (aH _) _
     have Ml:bK (bT W7 W6.heap.size #[aC aB x,aC aB y,aC aB 0] 167):=by rw [← QV];exact bT.new _ _ _
     have zr:=zq (hK.step hb7);have I7:=zq (hG.below hb7);have HL7:=zq hL;have Xv:=zq (hP.below hb7 hP.lt);have Uo:=zq (hq.below hb7 hq.lt);have HF7:=zq (hF.below hb7 hF.lt);have HM7:bK (oU w G (aD (some ⟨gx,0,none⟩) X cx) (aD (some ⟨gy,0,none⟩) Y cy) m2 m3 m4 q W6.heap.size FB (w.heap.size + 1) x y x y 0 #[aV false,aC aB fco,aC aB fdir,aA FSP,aA FST] #[aC aB s,aA PF,aA PE] I S1 N1 W7):=⟨zr.out,by have:=Uo.out;rwa [hx,hy] at this,Ml.out,HF7.out,Xv.out,I7.out⟩;have HW7:=zq QV;clear hx hy IL QJ Fj hb hK hq hF hP hG hL hb7 VZ QV;go_upto_region 11 with (fail)
     rw [HW7.out];clear HW7 s0 s1 lq p0 lP g2 g3 lG;obtain⟨n0,n1,n2⟩:=Ml.out.three;have p0:=Xv.out.cell 0;have lP:=Xv.out.lt;have g2:=I7.out.blk.cell 2;have g3:=I7.out.blk.cell 3;have lG:=I7.out.blk.lt;have ln:=Ml.out.lt;simp only [aJ,aI,bC] at p0 g2 g3;generalize W6.heap.size=NB at *;have HLT:∀ m,eH aE (iR 151 (.map (some m2)) (cF #[aC aB x,aC aB y,aC aB 0]) true) (W7.drewN m)= .ok (cK #[aC aB ((gV S1 ⟨x,y,0⟩).getD 0),aV (gV S1 ⟨x,y,0⟩).isSome]) (W7.drewN m):=fun m=> Gn (w:=W7.drewN m) I7.out.s x y 0;obtain⟨S3,Sp⟩:=nm (gI S1 ⟨x,y,0⟩ (s:Int));have HUp:∀ m,eH aE (oE 151 (.map (some m2)) (cF #[aC aB x,aC aB y,aC aB 0]) (aC aB s)) (W7.drewN m)= .ok () ((W7.drewN m).putObj m2 (iU kW vI S3)):=fun m=> by rw [← Sp];exact Dq (w:=W7.drewN m) Eh Cv I7.out.s ⟨x,y,0⟩ (s:Int)
     have HN3:bK (∀ S2,S3=S2→(∀ t,gV S1 ⟨x,y,0⟩=some t→(s:Int) < t)→Ul S1 S2 (sG false line a0 false k) s):=fun S2 h2 h=> by rw [Mt.out,← h2];exact .inr ⟨Sp.symm,h⟩
     have HN1:bK (∀ S2,S1=S2→∀ t,gV S1 ⟨x,y,0⟩=some t→t≤(s:Int)→Ul S1 S2 (sG false line a0 false k) s):=fun S2 h t h1 h2=> by rw [Mt.out];exact .inl ⟨h.symm,t,h1,h2⟩
     obtain⟨mo,hmo⟩:=nm (gV S1 ⟨x,y,0⟩);rw [hmo] at HLT;clear Sp;exact zLayF
  ·obtain rfl:DF=2:=HDir.out;simp only [bS,if_false,if_true] at Mq;have ZE:=zq Mq;clear Mq;go_wp2_with fail
   (with_reducible refine(ZE.out _ rT.out).mono ?_);rintro e W5 ⟨rfl,hb5⟩;have VY:bK (fW (fun j=> j=m2∨j=m3) w W5):=fW.of_below (aQ rT.out hb5);have QU:=zq (KU.out.below hb5 KU.out.lt);have vG:=zq (DZ.out.below hb5 DZ.out.lt);have ZA:=zq (HG4.out.below hb5);have Ms:=zq (Nz.out.below hb5 Nz.out.lt);clear hb5 g0 g1 p2 f0 lG rT KU DZ HG4 Nz HPx HPy ZE;go_wp2;go_loopw [12] (fun _ wr=> ∃ k:Nat,k≤n∧bK (Mp w G (aD (some ⟨gx,0,none⟩) X cx) (aD (some ⟨gy,0,none⟩) Y cy) m2 m3 m4 q FB (w.heap.size + 1) false #[aV false,aC aB fco,aC aB fdir,aA FSP,aA FST] #[aC aB s,aA PF,aA PE] I E s line a0 true k wr)) (fun _ wr=> (aK ((wr.cell? ⟨q,if false=true then 1 else 0,none⟩).getD aO) - eQ a0 true n).natAbs);case atStart=> exact⟨0,bM _,VY.out,by rw [DE,← hpt];exact Ms.out,QU.out,vG.out,S,N,ZA.out,jI.zero.2 hI⟩
   case round=>
    clear VY Ms QU vG ZA hpt hI;obtain⟨k,hk,HI⟩:=hrel;obtain⟨hK,hq,hF,hP,S1,N1,hG,hL⟩:=HI.out;have Hwr:bK (wr.cell? ⟨q,0,none⟩=some (aC aB (eQ a0 true k))):=hq.cell 0;have s0:=hq.cell 0;have s1:=hq.cell 1;have lq:=hq.lt;have f0:=hF.cell 0;simp only [aJ,aI,bC] at f0 s0 s1;go_wp2_with fail
    (with_reducible refine(KT false line (eQ a0 true k) _).mono ?_);rintro e W6 ⟨rfl,hb6⟩;by_cases hkn:k=n
    ·subst hkn;go_wp2;go_end0;exact⟨⟨_,rfl⟩,hK.step hb6,S1,N1,hG.below hb6,hL⟩
    ·have iC:¬ eQ a0 true k=eQ a0 true n:=fun e=> hkn (GA e);have VZ:=zq (HI.out.below hb6);clear hK hq hF hP hG hL hb6 s0 s1 lq f0 HI;obtain⟨hK,hq,hF,hP,S1,N1,hG,hL⟩:=VZ.out;have s0:=hq.cell 0;have s1:=hq.cell 1;have lq:=hq.lt;have p0:=hP.cell 0;have lP:=hP.lt;have g2:=hG.blk.cell 2;have g3:=hG.blk.cell 3;have lG:=hG.blk.lt;simp only [aJ,aI,bC] at s0 s1 p0 g2 g3;obtain⟨x,hx⟩:∃ x,(rF false line (eQ a0 true k)).1=x:=⟨_,rfl⟩;obtain⟨y,hy⟩:∃ y,(rF false line (eQ a0 true k)).2=y:=⟨_,rfl⟩;obtain⟨x2,IL⟩:∃ x,(rF false line (eQ a0 true (k + 1))).1=x:=⟨_,rfl⟩;obtain⟨y2,QJ⟩:∃ y,(rF false line (eQ a0 true (k + 1))).2=y:=⟨_,rfl⟩;have Fj:sG false line a0 true k=⟨x,y,2⟩:=by rw [← hx,← hy];rfl
     have hb:=GG false line a0 true (k:=k) yN ha0 (by omega);rw [hx,hy] at hb;have HSt:bK (∀ W,bE aE 169 #[cF #[aC aB x,aC aB y],aC aB 2] W (Rt (cF #[aC aB x2,aC aB y2]) W)):=fun W=> by
      have h1:=wO x y 2 (by decide) W hb.1 hb.2;have h2:=Gz false line a0 true k;rw [Fj] at h2;rw [show jE x 2=x2 from(congrArg R9 h2).trans IL,show jF y 2=y2 from(congrArg Sa h2).trans QJ] at h1;exact h1
     rw [hx] at s0;rw [hy] at s1;have HE2:bK (rF false line (eQ a0 true (k + 1))=(x2,y2)):=by show _=_;rw [← IL,← QJ]
     have HE1:bK (rF false line (eQ a0 true k)=(x,y)):=by show _=_;rw [← hx,← hy]
     have Mt:=zq Fj;obtain⟨W7,QV⟩:∃ V,W6.alloc (aN #[aC aB x,aC aB y,aC aB 2] 167)=V:=⟨_,rfl⟩;have hb7:Below W6.heap.size W6 W7:=by rw [← QV];exact(aL _ _).alloc (aH _) _
     have Ml:bK (bT W7 W6.heap.size #[aC aB x,aC aB y,aC aB 2] 167):=by rw [← QV];exact bT.new _ _ _
     have zr:=zq (hK.step hb7);have I7:=zq (hG.below hb7);have HL7:=zq hL;have Xv:=zq (hP.below hb7 hP.lt);have Uo:=zq (hq.below hb7 hq.lt);have HF7:=zq (hF.below hb7 hF.lt);have HM7:bK (oU w G (aD (some ⟨gx,0,none⟩) X cx) (aD (some ⟨gy,0,none⟩) Y cy) m2 m3 m4 q W6.heap.size FB (w.heap.size + 1) x y x y 2 #[aV false,aC aB fco,aC aB fdir,aA FSP,aA FST] #[aC aB s,aA PF,aA PE] I S1 N1 W7):=⟨zr.out,by have:=Uo.out;rwa [hx,hy] at this,Ml.out,HF7.out,Xv.out,I7.out⟩;have HW7:=zq QV;clear hx hy IL QJ Fj hb hK hq hF hP hG hL hb7 VZ QV;go_upto_region 11 with (fail)
     rw [HW7.out];clear HW7 s0 s1 lq p0 lP g2 g3 lG;obtain⟨n0,n1,n2⟩:=Ml.out.three;have p0:=Xv.out.cell 0;have lP:=Xv.out.lt;have g2:=I7.out.blk.cell 2;have g3:=I7.out.blk.cell 3;have lG:=I7.out.blk.lt;have ln:=Ml.out.lt;simp only [aJ,aI,bC] at p0 g2 g3;generalize W6.heap.size=NB at *;have HLT:∀ m,eH aE (iR 151 (.map (some m2)) (cF #[aC aB x,aC aB y,aC aB 2]) true) (W7.drewN m)= .ok (cK #[aC aB ((gV S1 ⟨x,y,2⟩).getD 0),aV (gV S1 ⟨x,y,2⟩).isSome]) (W7.drewN m):=fun m=> Gn (w:=W7.drewN m) I7.out.s x y 2;obtain⟨S3,Sp⟩:=nm (gI S1 ⟨x,y,2⟩ (s:Int));have HUp:∀ m,eH aE (oE 151 (.map (some m2)) (cF #[aC aB x,aC aB y,aC aB 2]) (aC aB s)) (W7.drewN m)= .ok () ((W7.drewN m).putObj m2 (iU kW vI S3)):=fun m=> by rw [← Sp];exact Dq (w:=W7.drewN m) Eh Cv I7.out.s ⟨x,y,2⟩ (s:Int)
     have HN3:bK (∀ S2,S3=S2→(∀ t,gV S1 ⟨x,y,2⟩=some t→(s:Int) < t)→Ul S1 S2 (sG false line a0 true k) s):=fun S2 h2 h=> by rw [Mt.out,← h2];exact .inr ⟨Sp.symm,h⟩
     have HN1:bK (∀ S2,S1=S2→∀ t,gV S1 ⟨x,y,2⟩=some t→t≤(s:Int)→Ul S1 S2 (sG false line a0 true k) s):=fun S2 h t h1 h2=> by rw [Mt.out];exact .inl ⟨h.symm,t,h1,h2⟩
     obtain⟨mo,hmo⟩:=nm (gV S1 ⟨x,y,2⟩);rw [hmo] at HLT;clear Sp;exact zLayF
 ·cases back
  ·obtain rfl:DF=1:=HDir.out;simp only [bS,if_false,if_true] at Mq;have ZE:=zq Mq;clear Mq;go_wp2_with fail
   (with_reducible refine(ZE.out _ rT.out).mono ?_);rintro e W5 ⟨rfl,hb5⟩;have VY:bK (fW (fun j=> j=m2∨j=m3) w W5):=fW.of_below (aQ rT.out hb5);have QU:=zq (KU.out.below hb5 KU.out.lt);have vG:=zq (DZ.out.below hb5 DZ.out.lt);have ZA:=zq (HG4.out.below hb5);have Ms:=zq (Nz.out.below hb5 Nz.out.lt);clear hb5 g0 g1 p2 f0 lG rT KU DZ HG4 Nz HPx HPy ZE;go_wp2;go_loopw [12] (fun _ wr=> ∃ k:Nat,k≤n∧bK (Mp w G (aD (some ⟨gx,0,none⟩) X cx) (aD (some ⟨gy,0,none⟩) Y cy) m2 m3 m4 q FB (w.heap.size + 1) true #[aV true,aC aB fco,aC aB fdir,aA FSP,aA FST] #[aC aB s,aA PF,aA PE] I E s line a0 false k wr)) (fun _ wr=> (aK ((wr.cell? ⟨q,if true=true then 1 else 0,none⟩).getD aO) - eQ a0 false n).natAbs);case atStart=> exact⟨0,bM _,VY.out,by rw [DE,← hpt];exact Ms.out,QU.out,vG.out,S,N,ZA.out,jI.zero.2 hI⟩
   case round=>
    clear VY Ms QU vG ZA hpt hI;obtain⟨k,hk,HI⟩:=hrel;obtain⟨hK,hq,hF,hP,S1,N1,hG,hL⟩:=HI.out;have Hwr:bK (wr.cell? ⟨q,1,none⟩=some (aC aB (eQ a0 false k))):=hq.cell 1;have s0:=hq.cell 0;have s1:=hq.cell 1;have lq:=hq.lt;have f0:=hF.cell 0;simp only [aJ,aI,bC] at f0 s0 s1;go_wp2_with fail
    (with_reducible refine(KT true line (eQ a0 false k) _).mono ?_);rintro e W6 ⟨rfl,hb6⟩;by_cases hkn:k=n
    ·subst hkn;go_wp2;go_end0;exact⟨⟨_,rfl⟩,hK.step hb6,S1,N1,hG.below hb6,hL⟩
    ·have iC:¬ eQ a0 false k=eQ a0 false n:=fun e=> hkn (GA e);have VZ:=zq (HI.out.below hb6);clear hK hq hF hP hG hL hb6 s0 s1 lq f0 HI;obtain⟨hK,hq,hF,hP,S1,N1,hG,hL⟩:=VZ.out;have s0:=hq.cell 0;have s1:=hq.cell 1;have lq:=hq.lt;have p0:=hP.cell 0;have lP:=hP.lt;have g2:=hG.blk.cell 2;have g3:=hG.blk.cell 3;have lG:=hG.blk.lt;simp only [aJ,aI,bC] at s0 s1 p0 g2 g3;obtain⟨x,hx⟩:∃ x,(rF true line (eQ a0 false k)).1=x:=⟨_,rfl⟩;obtain⟨y,hy⟩:∃ y,(rF true line (eQ a0 false k)).2=y:=⟨_,rfl⟩;obtain⟨x2,IL⟩:∃ x,(rF true line (eQ a0 false (k + 1))).1=x:=⟨_,rfl⟩;obtain⟨y2,QJ⟩:∃ y,(rF true line (eQ a0 false (k + 1))).2=y:=⟨_,rfl⟩;have Fj:sG true line a0 false k=⟨x,y,1⟩:=by rw [← hx,← hy];rfl
     have hb:=GG true line a0 false (k:=k) yN ha0 (by omega);rw [hx,hy] at hb;have HSt:bK (∀ W,bE aE 169 #[cF #[aC aB x,aC aB y],aC aB 1] W (Rt (cF #[aC aB x2,aC aB y2]) W)):=fun W=> by
      have h1:=wO x y 1 (by decide) W hb.1 hb.2;have h2:=Gz true line a0 false k;rw [Fj] at h2;rw [show jE x 1=x2 from(congrArg R9 h2).trans IL,show jF y 1=y2 from(congrArg Sa h2).trans QJ] at h1;exact h1
     rw [hx] at s0;rw [hy] at s1;have HE2:bK (rF true line (eQ a0 false (k + 1))=(x2,y2)):=by show _=_;rw [← IL,← QJ]
     have HE1:bK (rF true line (eQ a0 false k)=(x,y)):=by show _=_;rw [← hx,← hy]
     have Mt:=zq Fj;obtain⟨W7,QV⟩:∃ V,W6.alloc (aN #[aC aB x,aC aB y,aC aB 1] 167)=V:=⟨_,rfl⟩;have hb7:Below W6.heap.size W6 W7:=by rw [← QV];exact(aL _ _).alloc (aH _) _
     have Ml:bK (bT W7 W6.heap.size #[aC aB x,aC aB y,aC aB 1] 167):=by rw [← QV];exact bT.new _ _ _
     have zr:=zq (hK.step hb7);have I7:=zq (hG.below hb7);have HL7:=zq hL;have Xv:=zq (hP.below hb7 hP.lt);have Uo:=zq (hq.below hb7 hq.lt);have HF7:=zq (hF.below hb7 hF.lt);have HM7:bK (oU w G (aD (some ⟨gx,0,none⟩) X cx) (aD (some ⟨gy,0,none⟩) Y cy) m2 m3 m4 q W6.heap.size FB (w.heap.size + 1) x y x y 1 #[aV true,aC aB fco,aC aB fdir,aA FSP,aA FST] #[aC aB s,aA PF,aA PE] I S1 N1 W7):=⟨zr.out,by have:=Uo.out;rwa [hx,hy] at this,Ml.out,HF7.out,Xv.out,I7.out⟩;have HW7:=zq QV;clear hx hy IL QJ Fj hb hK hq hF hP hG hL hb7 VZ QV;go_upto_region 11 with (fail)
     rw [HW7.out];clear HW7 s0 s1 lq p0 lP g2 g3 lG;obtain⟨n0,n1,n2⟩:=Ml.out.three;have p0:=Xv.out.cell 0;have lP:=Xv.out.lt;have g2:=I7.out.blk.cell 2;have g3:=I7.out.blk.cell 3;have lG:=I7.out.blk.lt;have ln:=Ml.out.lt;simp only [aJ,aI,bC] at p0 g2 g3;generalize W6.heap.size=NB at *;have HLT:∀ m,eH aE (iR 151 (.map (some m2)) (cF #[aC aB x,aC aB y,aC aB 1]) true) (W7.drewN m)= .ok (cK #[aC aB ((gV S1 ⟨x,y,1⟩).getD 0),aV (gV S1 ⟨x,y,1⟩).isSome]) (W7.drewN m):=fun m=> Gn (w:=W7.drewN m) I7.out.s x y 1;obtain⟨S3,Sp⟩:=nm (gI S1 ⟨x,y,1⟩ (s:Int));have HUp:∀ m,eH aE (oE 151 (.map (some m2)) (cF #[aC aB x,aC aB y,aC aB 1]) (aC aB s)) (W7.drewN m)= .ok () ((W7.drewN m).putObj m2 (iU kW vI S3)):=fun m=> by rw [← Sp];exact Dq (w:=W7.drewN m) Eh Cv I7.out.s ⟨x,y,1⟩ (s:Int)
     have HN3:bK (∀ S2,S3=S2→(∀ t,gV S1 ⟨x,y,1⟩=some t→(s:Int) < t)→Ul S1 S2 (sG true line a0 false k) s):=fun S2 h2 h=> by rw [Mt.out,← h2];exact .inr ⟨Sp.symm,h⟩
     have HN1:bK (∀ S2,S1=S2→∀ t,gV S1 ⟨x,y,1⟩=some t→t≤(s:Int)→Ul S1 S2 (sG true line a0 false k) s):=fun S2 h t h1 h2=> by rw [Mt.out];exact .inl ⟨h.symm,t,h1,h2⟩
     obtain⟨mo,hmo⟩:=nm (gV S1 ⟨x,y,1⟩);rw [hmo] at HLT;clear Sp;exact zLayU
  ·obtain rfl:DF=3:=HDir.out;simp only [bS,if_false,if_true] at Mq;have ZE:=zq Mq;clear Mq;go_wp2_with fail
   (with_reducible refine(ZE.out _ rT.out).mono ?_);rintro e W5 ⟨rfl,hb5⟩;have VY:bK (fW (fun j=> j=m2∨j=m3) w W5):=fW.of_below (aQ rT.out hb5);have QU:=zq (KU.out.below hb5 KU.out.lt);have vG:=zq (DZ.out.below hb5 DZ.out.lt);have ZA:=zq (HG4.out.below hb5);have Ms:=zq (Nz.out.below hb5 Nz.out.lt);clear hb5 g0 g1 p2 f0 lG rT KU DZ HG4 Nz HPx HPy ZE;go_wp2;go_loopw [12] (fun _ wr=> ∃ k:Nat,k≤n∧bK (Mp w G (aD (some ⟨gx,0,none⟩) X cx) (aD (some ⟨gy,0,none⟩) Y cy) m2 m3 m4 q FB (w.heap.size + 1) true #[aV true,aC aB fco,aC aB fdir,aA FSP,aA FST] #[aC aB s,aA PF,aA PE] I E s line a0 true k wr)) (fun _ wr=> (aK ((wr.cell? ⟨q,if true=true then 1 else 0,none⟩).getD aO) - eQ a0 true n).natAbs);case atStart=> exact⟨0,bM _,VY.out,by rw [DE,← hpt];exact Ms.out,QU.out,vG.out,S,N,ZA.out,jI.zero.2 hI⟩
   case round=>
    clear VY Ms QU vG ZA hpt hI;obtain⟨k,hk,HI⟩:=hrel;obtain⟨hK,hq,hF,hP,S1,N1,hG,hL⟩:=HI.out;have Hwr:bK (wr.cell? ⟨q,1,none⟩=some (aC aB (eQ a0 true k))):=hq.cell 1;have s0:=hq.cell 0;have s1:=hq.cell 1;have lq:=hq.lt;have f0:=hF.cell 0;simp only [aJ,aI,bC] at f0 s0 s1;go_wp2_with fail
    (with_reducible refine(KT true line (eQ a0 true k) _).mono ?_);rintro e W6 ⟨rfl,hb6⟩;by_cases hkn:k=n
    ·subst hkn;go_wp2;go_end0;exact⟨⟨_,rfl⟩,hK.step hb6,S1,N1,hG.below hb6,hL⟩
    ·have iC:¬ eQ a0 true k=eQ a0 true n:=fun e=> hkn (GA e);have VZ:=zq (HI.out.below hb6);clear hK hq hF hP hG hL hb6 s0 s1 lq f0 HI;obtain⟨hK,hq,hF,hP,S1,N1,hG,hL⟩:=VZ.out;have s0:=hq.cell 0;have s1:=hq.cell 1;have lq:=hq.lt;have p0:=hP.cell 0;have lP:=hP.lt;have g2:=hG.blk.cell 2;have g3:=hG.blk.cell 3;have lG:=hG.blk.lt;simp only [aJ,aI,bC] at s0 s1 p0 g2 g3;obtain⟨x,hx⟩:∃ x,(rF true line (eQ a0 true k)).1=x:=⟨_,rfl⟩;obtain⟨y,hy⟩:∃ y,(rF true line (eQ a0 true k)).2=y:=⟨_,rfl⟩;obtain⟨x2,IL⟩:∃ x,(rF true line (eQ a0 true (k + 1))).1=x:=⟨_,rfl⟩;obtain⟨y2,QJ⟩:∃ y,(rF true line (eQ a0 true (k + 1))).2=y:=⟨_,rfl⟩;have Fj:sG true line a0 true k=⟨x,y,3⟩:=by rw [← hx,← hy];rfl
     have hb:=GG true line a0 true (k:=k) yN ha0 (by omega);rw [hx,hy] at hb;have HSt:bK (∀ W,bE aE 169 #[cF #[aC aB x,aC aB y],aC aB 3] W (Rt (cF #[aC aB x2,aC aB y2]) W)):=fun W=> by
      have h1:=wO x y 3 (by decide) W hb.1 hb.2;have h2:=Gz true line a0 true k;rw [Fj] at h2;rw [show jE x 3=x2 from(congrArg R9 h2).trans IL,show jF y 3=y2 from(congrArg Sa h2).trans QJ] at h1;exact h1
     rw [hx] at s0;rw [hy] at s1;have HE2:bK (rF true line (eQ a0 true (k + 1))=(x2,y2)):=by show _=_;rw [← IL,← QJ]
     have HE1:bK (rF true line (eQ a0 true k)=(x,y)):=by show _=_;rw [← hx,← hy]
     have Mt:=zq Fj;obtain⟨W7,QV⟩:∃ V,W6.alloc (aN #[aC aB x,aC aB y,aC aB 3] 167)=V:=⟨_,rfl⟩;have hb7:Below W6.heap.size W6 W7:=by rw [← QV];exact(aL _ _).alloc (aH _) _
     have Ml:bK (bT W7 W6.heap.size #[aC aB x,aC aB y,aC aB 3] 167):=by rw [← QV];exact bT.new _ _ _
     have zr:=zq (hK.step hb7);have I7:=zq (hG.below hb7);have HL7:=zq hL;have Xv:=zq (hP.below hb7 hP.lt);have Uo:=zq (hq.below hb7 hq.lt);have HF7:=zq (hF.below hb7 hF.lt);have HM7:bK (oU w G (aD (some ⟨gx,0,none⟩) X cx) (aD (some ⟨gy,0,none⟩) Y cy) m2 m3 m4 q W6.heap.size FB (w.heap.size + 1) x y x y 3 #[aV true,aC aB fco,aC aB fdir,aA FSP,aA FST] #[aC aB s,aA PF,aA PE] I S1 N1 W7):=⟨zr.out,by have:=Uo.out;rwa [hx,hy] at this,Ml.out,HF7.out,Xv.out,I7.out⟩;have HW7:=zq QV;clear hx hy IL QJ Fj hb hK hq hF hP hG hL hb7 VZ QV;go_upto_region 11 with (fail)
     rw [HW7.out];clear HW7 s0 s1 lq p0 lP g2 g3 lG;obtain⟨n0,n1,n2⟩:=Ml.out.three;have p0:=Xv.out.cell 0;have lP:=Xv.out.lt;have g2:=I7.out.blk.cell 2;have g3:=I7.out.blk.cell 3;have lG:=I7.out.blk.lt;have ln:=Ml.out.lt;simp only [aJ,aI,bC] at p0 g2 g3;generalize W6.heap.size=NB at *;have HLT:∀ m,eH aE (iR 151 (.map (some m2)) (cF #[aC aB x,aC aB y,aC aB 3]) true) (W7.drewN m)= .ok (cK #[aC aB ((gV S1 ⟨x,y,3⟩).getD 0),aV (gV S1 ⟨x,y,3⟩).isSome]) (W7.drewN m):=fun m=> Gn (w:=W7.drewN m) I7.out.s x y 3;obtain⟨S3,Sp⟩:=nm (gI S1 ⟨x,y,3⟩ (s:Int));have HUp:∀ m,eH aE (oE 151 (.map (some m2)) (cF #[aC aB x,aC aB y,aC aB 3]) (aC aB s)) (W7.drewN m)= .ok () ((W7.drewN m).putObj m2 (iU kW vI S3)):=fun m=> by rw [← Sp];exact Dq (w:=W7.drewN m) Eh Cv I7.out.s ⟨x,y,3⟩ (s:Int)
     have HN3:bK (∀ S2,S3=S2→(∀ t,gV S1 ⟨x,y,3⟩=some t→(s:Int) < t)→Ul S1 S2 (sG true line a0 true k) s):=fun S2 h2 h=> by rw [Mt.out,← h2];exact .inr ⟨Sp.symm,h⟩
     have HN1:bK (∀ S2,S1=S2→∀ t,gV S1 ⟨x,y,3⟩=some t→t≤(s:Int)→Ul S1 S2 (sG true line a0 true k) s):=fun S2 h t h1 h2=> by rw [Mt.out];exact .inl ⟨h.symm,t,h1,h2⟩
     obtain⟨mo,hmo⟩:=nm (gV S1 ⟨x,y,3⟩);rw [hmo] at HLT;clear Sp;exact zLayD
end
end
section
open Go Go.RowKit Go.Lib
theorem yQ(g cap:Nat)(xs:List (List UInt8))(t:List UInt8)(w:aF)(hE:mN w)(ha:sI xs)(hN:∀s∈xs,Nm s)(hn:xs.length≤1000000)(ht:t∈xs)(hc:iJ w g xs):
 bE aE 167 #[aD (some ⟨g,0,none⟩) xs.length cap,aA (bs t)] w (Rt (aC aB (uZ xs t)) w):=by
 obtain⟨h1,h2,h3⟩:=ix_place ha hN ht;exact place_at g 0 xs.length cap (uZ xs t) xs t w hE hn (vM ht) hN rfl (hN t ht) h1 h2 h3 (fun i hi=>by rw[cC];exact hc i hi)
theorem Mv(B g n cap:Nat)(ds:List (List UInt8))(w W:aF)(hE:mN w)(hB:Below w.heap.size w W)(hb:w.heap.size≤B)(NK:0<n)(hn:n≤1000)(hl:ds.length=n)(hs:∀s∈ds,Nm s)(ho:W.ownsRow B 34 1 (aD (some ⟨g,0,none⟩) n cap) n (dK ds)):
 bE aE 101 #[aD (some ⟨g,0,none⟩) n cap,.func (.func 42) #[] #[]] W fun e w'=>(∃v,e=bA v)∧w'.ownsRow B 34 1 (aD (some ⟨g,0,none⟩) n cap) n (dK (ds.mergeSort leQ))∧W.grownBy w' (some g):=
 TK 42 (enters_of func42 (by kernel_rfl) rfl) (fun x y W hE hx hy=>mL x y W hE hx hy) B g n cap ds w W hE hB hb (by omega) hl hs ho
theorem Ew(B g n cap:Nat)(ds:List (List UInt8))(W:aF)(hn:n≤1000)(hl:ds.length=n)(ho:W.ownsRow B 34 1 (aD (some ⟨g,0,none⟩) n cap) n (dK (ds.mergeSort leQ))):
 bE aE 102 #[aD (some ⟨g,0,none⟩) n cap] W fun e w'=>e=bA (aD (some ⟨g,0,none⟩) (bL ds).length cap)∧iJ w' g (bL ds)∧W.grownBy w' (some g):=by
 refine(LP B g n cap (ds.mergeSort leQ) W hn (by rw[List.length_mergeSort];exact hl) ho).mono ?_;rintro e w'⟨L,hL,he,-,-,hr,hg⟩;have eL:L=bL ds:=by rw[hL,←hl];rfl
 subst eL;exact⟨he,.of_rd hr,hg⟩
theorem DG{fs:List Fr}{at' xs ys:List (List UInt8)}{p:Pt}{s:Nat}(hs:p.side=s)(h:Bq fs at' xs ys p):
 (((uZ xs (bW fs at' p).x:Nat):Int),((uZ ys (bW fs at' p).y:Nat):Int))=rF (fs.getD s default).up (gT fs at' xs ys p).line (gT fs at' xs ys p).a∧
 ((if(fs.getD s default).up=true then uZ ys p.en else uZ xs p.en:Nat):Int)=(gT fs at' xs ys p).b∧(gT fs at' xs ys p).side=s∧(gT fs at' xs ys p).up=(fs.getD s default).up∧
 (0≤(gT fs at' xs ys p).line∧(gT fs at' xs ys p).line<(if(fs.getD s default).up=true then xs.length else ys.length:Nat))∧
 (0≤(gT fs at' xs ys p).a∧(gT fs at' xs ys p).a<(if(fs.getD s default).up=true then ys.length else xs.length:Nat))∧
 (0≤(gT fs at' xs ys p).b∧(gT fs at' xs ys p).b<(if(fs.getD s default).up=true then ys.length else xs.length:Nat)):=by
 obtain⟨-,h1,h2,h3,-,-⟩:=h;have es:p.side.toNat=s:=by omega
 unfold bW at h1 h2⊢;unfold gT;rw[es]at h1 h2 h3⊢;by_cases hu:(fs.getD s default).up=true
 ·simp only[ip hu]at h1 h2 h3⊢;refine⟨by rw[hu];rfl,trivial,hs,hu.symm,⟨by omega,?_⟩,⟨by omega,?_⟩,⟨by omega,?_⟩⟩
  ·have:=vM h1;omega
  ·have:=vM h2;omega
  ·have:=vM h3;omega
 ·simp only[iN hu]at h1 h2 h3⊢;have hf:(fs.getD s default).up=false:=by simpa using hu
  refine⟨by rw[hf];rfl,trivial,hs,hf.symm,⟨by omega,?_⟩,⟨by omega,?_⟩,⟨by omega,?_⟩⟩
  ·have:=vM h2;omega
  ·have:=vM h1;omega
  ·have:=vM h3;omega
theorem lay_step(a b2:Option cO)(nf ca c2:Nat)(fs:List Fr)(at':List (List UInt8))(p:Pt)(w W:aF)(TB G gx gy cx cy m2 m3 m4:Nat)(tc:Array aP)(xs ys:List (List UInt8))(E:List Sg)(hEn:mN w)
 (hf:fs.length=nf)(hl:at'.length=nf)(rf:vT w a fs)(ra:yJ w b2 at')(hx:sI xs)(hy:sI ys)(hNx:∀s∈xs,Nm s)(hNy:∀s∈ys,Nm s)(hX:xs.length≤1000)(hY:ys.length≤1000)(hEl:E.length≤100000)
 (hp:Bq fs at' xs ys p)(hA:CQ m2 m3 m4)(QM:w.heap.size≤m2)(hm3:w.heap.size≤m3)(hL:I6 w TB tc G gx gy cx cy m2 m3 m4 xs ys E W):
 bE aE 103 #[cF #[aD a nf ca,aD b2 nf c2],aY (some ⟨G,0,none⟩),p.v] W fun e w'=>(∃v,e=bA v)∧I6 w TB tc G gx gy cx cy m2 m3 m4 xs ys (E++[gT fs at' xs ys p]) w':=by
 obtain⟨s,hs,Ic⟩:=hp.side
 have es:p.side.toNat=s:=by omega
 obtain⟨f1,f2,f3,f4,⟨f5,f5'⟩,⟨f6,f6'⟩,⟨f7,f7'⟩⟩:=DG hs hp
 have hb:=seg_back hx hy hNx hNy hp
 rw[es]at hb
 obtain⟨c1,de⟩:=cut_of hb
 obtain⟨S,N,hg,hI⟩:=hL.g
 have hEW:=hEn.below hL.bel
 have q1:(if(fs.getD s default).up=true then xs.length else ys.length:Nat)≤1000:=by split <;>assumption
 have q2:(if(fs.getD s default).up=true then ys.length else xs.length:Nat)≤1000:=by split <;>assumption
 have:=grid_lay a b2 nf ca c2 fs at' p s G gx gy xs.length ys.length cx cy m2 m3 m4 S N [] E (bW fs at' p).x (bW fs at' p).y (uZ xs (bW fs at' p).x:Nat) (uZ ys (bW fs at' p).y:Nat)
  ((if(fs.getD s default).up=true then uZ ys p.en else uZ xs p.en:Nat):Int) (gT fs at' xs ys p).line (gT fs at' xs ys p).a (GF (fs.getD s default)) (Xr (gT fs at' xs ys p) (GF (fs.getD s default))) W
  hs (by omega) hf hl (rf.below hL.bel) (ra.below hL.bel) rfl
  (fun V hV=>yQ gx cx xs _ V (hEW.below hV) hx hNx (by omega) hp.x (hL.x.below hV))
  (fun V hV=>yQ gy cy ys _ V (hEW.below hV) hy hNy (by omega) hp.y (hL.y.below hV))
  (fun V hV=>by
   have he:=hp.en
   rw[es]at he
   by_cases hu:(fs.getD s default).up=true
   ·simp only[ip hu]at he⊢
    exact yQ gy cy ys _ V (hEW.below hV) hy hNy (by omega) he (hL.y.below hV)
   ·simp only[iN hu]at he⊢
    exact yQ gx cx xs _ V (hEW.below hV) hx hNx (by omega) he (hL.x.below hV))
  f1 (by rw[f2];exact de) (dir_back _) ⟨f5,by omega⟩ ⟨f6,by omega⟩ (by unfold Xr;split <;>omega) hEl hA hg hI
 refine this.mono ?_
 rintro e w'⟨he,hk,hn⟩
 refine⟨he,hL.next QM hm3 hk ?_⟩
 rw[f3,f4]at c1
 rw[c1]
 exact hn
end
section
open Go Go.RowKit Go.Shelf Go.Lib
theorem Up (a b2 bl:Option cO) (nf ca c2 cl nl N:Nat) (fs:List Fr) (at' :List (List UInt8)) (ls:List Lp) (dx dy:List (List UInt8)) (w:aF) (hE:mN w)
 (hf:fs.length=nf) (hl:at'.length=nf) (JX:ls.length=nl) (hnl1:nl≤1000) (hN:(ls.flatMap Lp.ps).length=N) (JY:0 < N) (hN1:N≤1000)
 (hdx:dx=(ls.flatMap Lp.ps).map fun p=> (bW fs at' p).x) (hdy:dy=(ls.flatMap Lp.ps).map fun p=> (bW fs at' p).y) (WM:∀ s∈dx,Nm s) (hny:∀ s∈dy,Nm s)
 (hp:∀ p∈ls.flatMap Lp.ps,Bq fs at' (bL dx) (bL dy) p) (rf:vT w a fs) (ra:yJ w b2 at') (rl:E5 w bl ls) :
 bE aE 34 #[cF #[aD a nf ca,aD b2 nf c2],aD bl nl cl] w fun e w' => (∃ G gx gy cx cy m2 m3 m4 S Nn I,e=bA (aY (some ⟨G,0,none⟩))∧
  gN w' G (aD (some ⟨gx,0,none⟩) (bL dx).length cx) (aD (some ⟨gy,0,none⟩) (bL dy).length cy) m2 m3 m4 S Nn I∧iJ w' gx (bL dx)∧iJ w' gy (bL dy)∧
  jI ((ls.flatMap Lp.ps).map (gT fs at' (bL dx) (bL dy))) S Nn∧∀ i j,lZ I i j=gD (bL dx).length (bL dy).length ((ls.flatMap Lp.ps).map (gT fs at' (bL dx) (bL dy))) i j)∧Below w.heap.size w w' :=by
 have qv:= @run_makeMap aE
 have hdxl:dx.length=N:=by rw [hdx,aZ];exact hN
 have hdyl:dy.length=N:=by rw [hdy,aZ];exact hN
 obtain⟨hax,hmx⟩:=mZ WM
 obtain⟨hay,hmy⟩:=mZ hny
 have V0:(bL dx).length≤N:=by
  have:=Bp dx;omega
 have hly:(bL dy).length≤N:=by
  have:=Bp dy;omega
 have qj:bK (∀ q k,q < nl→k < (ls.getD q default).ps.length→∀ W,Below w.heap.size w W→bE aE 52 #[cF #[aD a nf ca,aD b2 nf c2],((ls.getD q default).ps.getD k default).v] W (Rt ((bW fs at' ((ls.getD q default).ps.getD k default)).v) W)):=fun q k hq hk W hW=> by
  obtain⟨s,h1,h2⟩:=(hp _ (ZD (by rw [JX];exact hq) hk)).side
  exact Ar a b2 nf ca c2 fs at' _ s W h1 (by omega) hf hl (rf.below hW) (ra.below hW)
 have HLay:bK (∀ q k,q < nl→k < (ls.getD q default).ps.length→∀ W TB G gx gy cx cy m2 m3 m4 tc,CQ m2 m3 m4→w.heap.size≤m2→w.heap.size≤m3→I6 w TB tc G gx gy cx cy m2 m3 m4 (bL dx) (bL dy) ((jJ ls q k).map (gT fs at' (bL dx) (bL dy))) W→
  bE aE 103 #[cF #[aD a nf ca,aD b2 nf c2],aY (some ⟨G,0,none⟩),((ls.getD q default).ps.getD k default).v] W fun e w' => (∃ v,e=bA v)∧I6 w TB tc G gx gy cx cy m2 m3 m4 (bL dx) (bL dy) ((jJ ls q (k + 1)).map (gT fs at' (bL dx) (bL dy))) w'):=fun q k hq hk W TB G gx gy cx cy m2 m3 m4 tc h1 h2 h3 hL=> by
  have ia:(jJ ls q k).length≤N:=by rw [← hN];exact Xu (by omega)
  rw [Uj hk,eV]
  exact lay_step a b2 nf ca c2 fs at' _ w W TB G gx gy cx cy m2 m3 m4 tc (bL dx) (bL dy) _ hE hf hl rf ra hax hay (fun s hs=> WM s ((hmx s).1 hs)) (fun s hs=> hny s ((hmy s).1 hs)) (by omega) (by omega) (by rw [aZ];omega) (hp _ (ZD (by omega) hk)) h1 h2 h3 hL
 have QW:bK (∀ W,Below w.heap.size w W→E5 W bl ls):=fun W hW=> rl.below hW
 have HSx:bK (∀ B g c W,w.heap.size≤B→Below w.heap.size w W→W.ownsRow B 34 1 (aD (some ⟨g,0,none⟩) N c) N (dK dx)→
  bE aE 101 #[aD (some ⟨g,0,none⟩) N c, .func (.func 42) #[] #[]] W fun e w' => (∃ v,e=bA v)∧w'.ownsRow B 34 1 (aD (some ⟨g,0,none⟩) N c) N (dK (dx.mergeSort leQ))∧W.grownBy w' (some g)):=
  fun B g c W hb hW ho=> Mv B g N c dx w W hE hW hb JY hN1 hdxl WM ho
 have HSy:bK (∀ B g c W,w.heap.size≤B→Below w.heap.size w W→W.ownsRow B 34 1 (aD (some ⟨g,0,none⟩) N c) N (dK dy)→
  bE aE 101 #[aD (some ⟨g,0,none⟩) N c, .func (.func 42) #[] #[]] W fun e w' => (∃ v,e=bA v)∧w'.ownsRow B 34 1 (aD (some ⟨g,0,none⟩) N c) N (dK (dy.mergeSort leQ))∧W.grownBy w' (some g)):=
  fun B g c W hb hW ho=> Mv B g N c dy w W hE hW hb JY hN1 hdyl hny ho
 have HCx:bK (∀ B g c W,W.ownsRow B 34 1 (aD (some ⟨g,0,none⟩) N c) N (dK (dx.mergeSort leQ))→
  bE aE 102 #[aD (some ⟨g,0,none⟩) N c] W fun e w' => e=bA (aD (some ⟨g,0,none⟩) (bL dx).length c)∧iJ w' g (bL dx)∧W.grownBy w' (some g)):=
  fun B g c W ho=> Ew B g N c dx W hN1 hdxl ho
 have HCy:bK (∀ B g c W,W.ownsRow B 34 1 (aD (some ⟨g,0,none⟩) N c) N (dK (dy.mergeSort leQ))→
  bE aE 102 #[aD (some ⟨g,0,none⟩) N c] W fun e w' => e=bA (aD (some ⟨g,0,none⟩) (bL dy).length c)∧iJ w' g (bL dy)∧W.grownBy w' (some g)):=
  fun B g c W ho=> Ew B g N c dy W hN1 hdyl ho
 have HIn:bK (∀ s∈(ls.flatMap Lp.ps).map (gT fs at' (bL dx) (bL dy)),s.line < ((bL dx).length:Int)∨s.up=false):=fun s hs=> by
  obtain⟨p,hpm,rfl⟩:=List.mem_map.1 hs
  obtain⟨k,h1,h2⟩:=(hp p hpm).side
  obtain⟨-, -, -,f4,⟨f5,f5'⟩, -⟩:=DG h1 (hp p hpm)
  by_cases hu:(fs.getD k default).up=true
  ·rw [ip hu] at f5';exact .inl f5'
  ·rw [f4];exact .inr (by simpa using hu)
 have Ud:bK (jJ ls nl 0=ls.flatMap Lp.ps):=by rw [← JX];exact pts_all
 have HLine:bK (∀ q,q < nl→jJ ls q (ls.getD q default).ps.length=jJ ls (q + 1) 0):=fun q hq=> pts_line (by omega)
 have HPn:bK (∀ q k,q < nl→k < (ls.getD q default).ps.length→jJ ls q (k + 1)=jJ ls q k ++ [(ls.getD q default).ps.getD k default]):=fun q k _ hk=> Uj hk
 have Zv:bK (∀ q k,q < nl→(jJ ls q k).length≤1000):=fun q k hq=> aU (Xu (by omega)) (by omega)
 have HNp:bK (∀ q,q < nl→(ls.getD q default).ps.length≤1000):=fun q hq=> by
  have h1:=Xu (ls:=ls) (k:=(ls.getD q default).ps.length) (q:=q) (by omega)
  unfold jJ at h1
  rw [bO,Cc] at h1
  omega
 have HDx:=zq hdx
 have HDy:=zq hdy
 have HDl:bK (N=(ls.flatMap Lp.ps).length):=hN.symm
 have HLx:bK ((bL dx).length≤1000):=aU V0 hN1
 have HLy:bK ((bL dy).length≤1000):=aU hly hN1
 have Hnl:=zq JX
 have HN0:=zq JY
 have Sq:bK (((ls.flatMap Lp.ps).map (gT fs at' (bL dx) (bL dy))).length≤100000):=by rw [aZ];show _≤_;omega
 clear hE hf hl JX hN JY hN1 hdx hdy WM hny hp rf ra rl hdxl hdyl hax hmx hay hmy V0 hly
 generalize bL dx=LX at *
 generalize bL dy=LY at *
 generalize hSG:gT fs at' LX LY=SG at HLay HIn Sq ⊢
 clear hSG
 generalize hCR:bW fs at' =CR at qj HDx HDy
 clear hCR
 obtain⟨W0,eY,hT0,So,fE⟩:=O6 w #[aD a nf ca,aD b2 nf c2]
 have ZG:=zq hT0
 have TW:=zq So
 have fV:=zq fE
 have HwG:bK (w.heap.size≤w.heap.size + 1 + 1 + 1 + 1):=by show _≤_;omega
 have HM2:bK (w.heap.size≤w.heap.size + 1):=by show _≤_;omega
 have HM3:bK (w.heap.size≤w.heap.size + 1 + 1):=by show _≤_;omega
 have HM4:bK (w.heap.size≤w.heap.size + 1 + 1 + 1):=by show _≤_;omega
 have HAp:bK (CQ (w.heap.size + 1) (w.heap.size + 1 + 1) (w.heap.size + 1 + 1 + 1)):=⟨by omega,by omega,by omega⟩
 have HX0:bK (Uk W0.heap.size W0 (w.heap.size + 1 + 1 + 1 + 1) (w.heap.size + 1) (w.heap.size + 1 + 1) (w.heap.size + 1 + 1 + 1) ((jJ ls 0 0).map CR)):=⟨_,_,So,tG ..,tG .., .inl rfl⟩
 have HwB:bK (w.heap.size≤W0.heap.size):=fE.size
 clear hT0 So fE TW
 go_enter func34,ntmps34
 go_upto_if 22 with (fail)
 try rw [eY]
 clear eY
 generalize w.heap.size + 1 + 1 + 1 + 1=G at *
 generalize hm4:w.heap.size + 1 + 1 + 1=m4 at HM4 HAp HX0
 generalize hm3:w.heap.size + 1 + 1=m3 at HM3 HAp HX0
 generalize QM:w.heap.size + 1=m2 at HM2 HAp HX0
 clear QM hm3 hm4
 generalize hTBw:w.heap.size=TB at ZG ⊢
 obtain⟨B,hB⟩:∃ B,W0.heap.size=B:=⟨_,rfl⟩
 have HBs0:bK (B≤W0.heap.size):=by rw [← hB];exact aH _
 rw [hB] at HX0 HwB
 clear hB
 go_loopw [24] (fun i wr=> (∃ q:Nat,q≤nl∧i=aC aB (q:Int)∧bK (Uk B wr G m2 m3 m4 ((jJ ls q 0).map CR)))∧bK (bT wr TB #[aD a nf ca,aD b2 nf c2] 64)∧bK (Below w.heap.size w wr)∧bK (B≤wr.heap.size)) (fun i _=> nl - (aK i).toNat)
 case atStart=> exact⟨⟨0,by omega,rfl,HX0⟩,ZG,fV,HBs0⟩
 case round=>
  clear HX0 ZG fV HBs0
  obtain⟨⟨q,hq,rfl,HX⟩,HT,HB,HBs⟩:=hrel
  rename aF=> wo
  by_cases hq1:q < nl
  ·obtain⟨l,QZ⟩:∃ l,ls.getD q default=l:=⟨_,rfl⟩
   obtain⟨lb,lo,rfl,l0, -⟩:=(QW.out _ HB.out).at (i:=q) (by rw [Hnl.out];exact hq1) QZ
   have hco:=fun k=> qj.out q k hq1
   have hpn:=fun k=> HPn.out q k hq1
   have yN:=HLine.out q hq1
   rw [QZ] at hco hpn yN
   have HCoq:=zq hco
   have HPnq:=zq hpn
   have HLnq:=zq yN
   clear hco hpn yN
   have hqI:(q:Int) < nl:=by omega
   have q0:(0:Int)≤(q:Int):=by omega
   have Hq1:=zq hq1
   obtain⟨np,Uq⟩:∃ np,l.ps.length=np:=⟨_,rfl⟩
   have hnp1:np≤1000:=by rw [← Uq,← QZ];exact HNp.out q hq1
   rw [Uq] at l0
   have V9:=zq Uq
   have Hlq:=zq QZ
   clear Uq hq1 hq QZ
   go_wp2
   go_loopw [30] (fun i wr=> (∃ k:Nat,k≤np∧i=aC aB (k:Int)∧bK (Uk B wr G m2 m3 m4 ((jJ ls q k).map CR)))∧bK (bT wr TB #[aD a nf ca,aD b2 nf c2] 64)∧bK (Below w.heap.size w wr)∧bK (B≤wr.heap.size)) (fun i _=> np - (aK i).toNat)
   case atStart=> exact⟨⟨0,by omega,rfl,HX⟩,HT,HB,HBs⟩
   case round=>
    clear HX HT HB HBs l0
    obtain⟨⟨k,hk,rfl,HX⟩,HT,HB,HBs⟩:=hrel
    rename aF=> wi
    by_cases hlt:k < np
    ·obtain⟨lb',lo',hla, -,rp⟩:=(QW.out _ HB.out).at (i:=q) (by rw [Hnl.out];exact Hq1.out) Hlq.out
     obtain⟨pb,po,O8,d0,d1,d2⟩:=rp.at (i:=k) (by rw [V9.out];exact hlt) rfl
     have KP:=zq (HCoq.out k (by rw [V9.out];exact hlt))
     have iC:=HPnq.out k (by rw [V9.out];exact hlt)
     have ia:=Zv.out q k Hq1.out
     rw [O8]
     have HGn0:∀ W vx vy,gN W G vx vy m2 m3 m4 [] [] []→W.ownsRow B 34 1 vx (((jJ ls q k).map CR).length + 1) (dK (((jJ ls q k).map CR).map Po.x) ++ [aA (bs (CR (l.ps.getD k default)).x)])→W.ownsRow B 34 1 vy (((jJ ls q k).map CR).length + 1) (dK (((jJ ls q k).map CR).map Po.y) ++ [aA (bs (CR (l.ps.getD k default)).y)])→(vx.ownBlock=none∨vx.ownBlock≠vy.ownBlock)→Uk B W G m2 m3 m4 ((jJ ls q (k + 1)).map CR):=fun W vx vy h1 h2 h3 h4=> by
      rw [iC,eV]
      refine⟨vx,vy,h1, ?_, ?_,h4⟩
      ·rw [eV,nJ,yE,nJ,yE,I5,bO];exact h2
      ·rw [eV,nJ,yE,nJ,yE,I5,bO];exact h3
     have HGn:=zq HGn0
     have hX0:=HX.out
     unfold Uk at hX0
     have JV:((jJ ls q k).map CR).length≤1000:=by rw [aZ];exact ia
     clear hla rp O8 iC ia HGn0 HX
     generalize dK (((jJ ls q k).map CR).map Po.x)=XS at *
     generalize dK (((jJ ls q k).map CR).map Po.y)=YS at *
     generalize ((jJ ls q k).map CR).length=n at *
     generalize hGD:l.ps.getD k default=p at HGn KP d0 d1 d2
     clear hGD
     unfold Po.v Po.cells at KP
     generalize CR p=cr at HGn KP
     obtain⟨crx,cry⟩:=cr
     simp only [] at HGn KP
     generalize bs crx=TX at *
     generalize bs cry=TY at *
     obtain⟨sd,pf,pe⟩:=p
     unfold Pt.v Pt.cells at KP
     simp only [] at *
     have hkI:(k:Int) < np:=by omega
     have k0:(0:Int)≤(k:Int):=by omega
     obtain⟨t0,t1, -, -,lT⟩:=HT.out.two
     go_wp2_with fail
     refine(KP.out _ (HB.out.alloc HB.out.size _)).mono ?_
     rintro e W2 ⟨rfl,hb2⟩
     have hb:Below wi.heap.size wi W2:=((aL _ wi).alloc (aH _) _).trans (hb2.mono (by simp))
     have hX2:∃ vx vy:aP,gN W2 G vx vy m2 m3 m4 [] [] []∧W2.ownsRow B 34 1 vx n XS∧W2.ownsRow B 34 1 vy n YS∧(vx.ownBlock=none∨vx.ownBlock≠vy.ownBlock):=by
      obtain⟨vx,vy,h1,h2,h3,h4⟩:=hX0
      exact⟨vx,vy,h1.below hb,bJ h2 hb,bJ h3 hb,h4⟩
     have Sk:=zq (HT.out.below hb HT.out.lt)
     have eT:=zq (aQ HB.out hb)
     have HBs2:bK (B≤W2.heap.size):=aU HBs.out hb.size
     clear hb hb2 d0 d1 d2 t0 t1 lT hX0 HT HB HBs KP
     obtain⟨vx,vy,hG,hox,hoy,Mj⟩:=hX2
     obtain⟨ax,cx,rfl⟩:=nA hox
     obtain⟨ay,cy,rfl⟩:=nA hoy
     obtain⟨W9,hW9⟩:∃ V,W2.alloc (aN #[aA TX,aA TY] 53)=V:=⟨_,rfl⟩
     have hb:Below W2.heap.size W2 W9:=by rw [← hW9];exact(aL _ _).alloc (aH _) _
     obtain⟨C,hC⟩:∃ C,W2.heap.size=C:=⟨_,rfl⟩
     have HR0:bK (QQ w TB #[aD a nf ca,aD b2 nf c2] B G C m2 m3 m4 TX TY W9.drew (aD ax n cx) (aD ay n cy) (aD ax n cx) (aD ay n cy) n n XS YS):=by
      have hp:bT W9 C #[aA TX,aA TY] 53:=by rw [← hW9,← hC];exact bT.new _ _ _
      have r9:QQ w TB #[aD a nf ca,aD b2 nf c2] B G C m2 m3 m4 TX TY W9 (aD ax n cx) (aD ay n cy) (aD ax n cx) (aD ay n cy) n n XS YS:=
       ⟨hG.below hb,hp,Sk.out.below hb Sk.out.lt,bJ hox hb,bJ hoy hb,Mj,aQ eT.out hb,aU HBs2.out hb.size,HwB.out⟩
      exact r9.below (aL _ _).drew
     clear hb hG hox hoy Mj Sk eT HBs2
     go_upto_region 9 with (fail)
     try rw [hW9]
     try rw [hC]
     clear hW9 hC
     clear qv
     refine I3 (st:=fun L=> L.getD 20 false) (S:=(fun w' => w'.cell? ⟨G,0,none⟩=some (aD ax n cx)∧w'.cell? ⟨G,1,none⟩=some (aD ay n cy)∧w'.cell? ⟨C,0,none⟩=some (aA TX)∧w'.cell? ⟨C,1,none⟩=some (aA TY))) (by kernel_rfl) HR0.out.cells (fun hL hS=> ?_)
     obtain⟨Wd,hWd⟩:∃ V,W9.drew=V:=⟨_,rfl⟩
     rw [hWd] at hS HR0 ⊢
     clear hWd
     refine fD (i:=0) (v:= ?_) (S' :=fun _=> True) rfl (by kernel_rfl) (by kernel_rfl) (by kernel_rfl) (fun _ _ _ h=> h) (fun _ _ _ _ _=> trivial) (fun _=> fN false (by decide)) hL (rB ⟨by kernel_rfl, ?_⟩) (fun _=> hS) ?_
     rotate_left
     focus (intro w AX;(try dsimp only at AX);go_simp;(first | done | with_reducible rfl))
     clear hL;intro hL
     try simp only [cS,aX,aR,aS,aM,aT,aW] at hL ⊢
     refine fD (i:=1) (v:= ?_) (S' :=fun _=> True) rfl (by kernel_rfl) (by kernel_rfl) (by kernel_rfl) (fun _ _ _ h=> h) (fun _ _ _ _ _=> trivial) (fun _=> fN false (by decide)) hL (rB ⟨by kernel_rfl, ?_⟩) (fun _=> hS) ?_
     rotate_left
     focus (intro w AX;(try dsimp only at AX);go_simp;(first | done | with_reducible rfl))
     clear hL;intro hL
     try simp only [cS,aX,aR,aS,aM,aT,aW] at hL ⊢
     refine fD (i:=2) (v:= ?_) (S' :=fun _=> True) rfl (by kernel_rfl) (by kernel_rfl) (by kernel_rfl) (fun _ _ _ h=> h) (fun _ _ _ _ _=> trivial) (fun _=> fN false (by decide)) hL (rB ⟨by kernel_rfl, ?_⟩) (fun _=> hS) ?_
     rotate_left
     focus (intro w AX;(try dsimp only at AX);go_simp;(first | done | with_reducible rfl))
     clear hL;intro hL
     try simp only [cS,aX,aR,aS,aM,aT,aW] at hL ⊢
     refine fD (i:=3) (v:= ?_) (S' :=fun _=> True) rfl (by kernel_rfl) (by kernel_rfl) (by kernel_rfl) (fun _ _ _ h=> h) (fun _ _ _ _ _=> trivial) (fun _=> fN false (by decide)) hL (rB ⟨by kernel_rfl, ?_⟩) (fun _=> hS) ?_
     rotate_left
     focus (intro w AX;(try dsimp only at AX);go_simp;(first | done | with_reducible rfl))
     clear hL;intro hL
     try simp only [cS,aX,aR,aS,aM,aT,aW] at hL ⊢
     refine fD (i:=4) (v:= ?_) (S' :=fun _=> True) rfl (by kernel_rfl) (by kernel_rfl) (by kernel_rfl) (fun _ _ _ h=> h) (fun _ _ _ _ _=> trivial) (fun _=> fN false (by decide)) hL (rB ⟨by kernel_rfl, ?_⟩) (fun _=> hS) ?_
     rotate_left
     focus (intro w AX;(try dsimp only at AX);go_simp;(first | done | with_reducible rfl))
     clear hL;intro hL
     try simp only [cS,aX,aR,aS,aM,aT,aW] at hL ⊢
     refine fD (i:=5) (v:= ?_) (S' :=(fun w' => w'.cell? ⟨G,0,none⟩=some (aD ax n cx)∧w'.cell? ⟨G,1,none⟩=some (aD ay n cy)∧w'.cell? ⟨C,0,none⟩=some (aA TX)∧w'.cell? ⟨C,1,none⟩=some (aA TY))) rfl (by kernel_rfl) (by kernel_rfl) (by kernel_rfl) (fun _ _ _ h=> h) (fun L w h1 h2 h3=> h3 (h1.up (j:=20) (k:=5) (by kernel_rfl) h2)) (fun _=> fN false (by decide)) hL (rB ⟨by kernel_rfl, ?_⟩) (fun _=> hS) ?_
     rotate_left
     focus (intro w AX;(try dsimp only at AX);go_simp;(first | done | with_reducible rfl))
     clear hL;intro hL
     try simp only [cS,aX,aR,aS,aM,aT,aW] at hL ⊢
     refine fD (i:=6) (v:= ?_) (S' :=fun _=> True) rfl (by kernel_rfl) (by kernel_rfl) (by kernel_rfl) (fun _ _ _ h=> h) (fun _ _ _ _ _=> trivial) (fun _=> fN false (by decide)) hL (rB ⟨by kernel_rfl, ?_⟩) (fun _=> hS) ?_
     rotate_left
     focus (intro w AX;(try dsimp only at AX);go_simp;(first | done | with_reducible rfl))
     clear hL;intro hL
     try simp only [cS,aX,aR,aS,aM,aT,aW] at hL ⊢
     refine fD (i:=7) (v:= ?_) (S' :=(fun w' => w'.cell? ⟨G,0,none⟩=some (aD ax n cx)∧w'.cell? ⟨G,1,none⟩=some (aD ay n cy)∧w'.cell? ⟨C,0,none⟩=some (aA TX)∧w'.cell? ⟨C,1,none⟩=some (aA TY))) rfl (by kernel_rfl) (by kernel_rfl) (by kernel_rfl) (fun _ _ _ h=> h) (fun L w h1 h2 h3=> h3 (h1.up (j:=20) (k:=7) (by kernel_rfl) h2)) (fun _=> fN false (by decide)) hL (rB ⟨by kernel_rfl, ?_⟩) (fun _=> hS) ?_
     rotate_left
     focus (intro w AX;(try dsimp only at AX);go_simp;(first | done | with_reducible rfl))
     clear hL;intro hL
     try simp only [cS,aX,aR,aS,aM,aT,aW] at hL ⊢
     refine fD (i:=10) (v:= ?_) (S' :=fun _=> True) rfl (by kernel_rfl) (by kernel_rfl) (by kernel_rfl) (fun _ _ _ h=> h) (fun _ _ _ _ _=> trivial) (fun _=> fN false (by decide)) hL (rB ⟨by kernel_rfl, ?_⟩) (fun _=> hS) ?_
     rotate_left
     focus (intro w AX;(try dsimp only at AX);go_simp;(first | done | with_reducible rfl))
     clear hL;intro hL
     try simp only [cS,aX,aR,aS,aM,aT,aW] at hL ⊢
     refine fD (i:=11) (v:= ?_) (S' :=fun _=> True) rfl (by kernel_rfl) (by kernel_rfl) (by kernel_rfl) (fun _ _ _ h=> h) (fun _ _ _ _ _=> trivial) (fun _=> fN false (by decide)) hL (rB ⟨by kernel_rfl, ?_⟩) (fun _=> hS) ?_
     rotate_left
     focus (intro w AX;(try dsimp only at AX);go_simp;(first | done | with_reducible rfl))
     clear hL;intro hL
     try simp only [cS,aX,aR,aS,aM,aT,aW] at hL ⊢
     refine fD (i:=12) (v:= ?_) (S' :=fun _=> True) rfl (by kernel_rfl) (by kernel_rfl) (by kernel_rfl) (fun _ _ _ h=> h) (fun _ _ _ _ _=> trivial) (fun _=> fN false (by decide)) hL (rB ⟨by kernel_rfl, ?_⟩) (fun _=> hS) ?_
     rotate_left
     focus (intro w AX;(try dsimp only at AX);go_simp;(first | done | with_reducible rfl))
     clear hL;intro hL
     try simp only [cS,aX,aR,aS,aM,aT,aW] at hL ⊢
     refine fD (i:=13) (v:= ?_) (S' :=(fun w' => w'.cell? ⟨G,0,none⟩=some (aD ax n cx)∧w'.cell? ⟨G,1,none⟩=some (aD ay n cy)∧w'.cell? ⟨C,0,none⟩=some (aA TX)∧w'.cell? ⟨C,1,none⟩=some (aA TY))) rfl (by kernel_rfl) (by kernel_rfl) (by kernel_rfl) (fun _ _ _ h=> h) (fun L w h1 h2 h3=> h3 (h1.up (j:=20) (k:=13) (by kernel_rfl) h2)) (fun _=> fN false (by decide)) hL (rB ⟨by kernel_rfl, ?_⟩) (fun _=> hS) ?_
     rotate_left
     focus (intro w AX;(try dsimp only at AX);go_simp;(first | done | with_reducible rfl))
     clear hL;intro hL
     try simp only [cS,aX,aR,aS,aM,aT,aW] at hL ⊢
     refine fD (i:=14) (v:= ?_) (S' :=fun _=> True) rfl (by kernel_rfl) (by kernel_rfl) (by kernel_rfl) (fun _ _ _ h=> h) (fun _ _ _ _ _=> trivial) (fun _=> fN false (by decide)) hL (rB ⟨by kernel_rfl, ?_⟩) (fun _=> hS) ?_
     rotate_left
     focus (intro w AX;(try dsimp only at AX);go_simp;(first | done | with_reducible rfl))
     clear hL;intro hL
     try simp only [cS,aX,aR,aS,aM,aT,aW] at hL ⊢
     refine fD (i:=15) (v:= ?_) (S' :=(fun w' => w'.cell? ⟨G,0,none⟩=some (aD ax n cx)∧w'.cell? ⟨G,1,none⟩=some (aD ay n cy)∧w'.cell? ⟨C,0,none⟩=some (aA TX)∧w'.cell? ⟨C,1,none⟩=some (aA TY))) rfl (by kernel_rfl) (by kernel_rfl) (by kernel_rfl) (fun _ _ _ h=> h) (fun L w h1 h2 h3=> h3 (h1.up (j:=20) (k:=17) (by kernel_rfl) (h1.up (j:=17) (k:=16) (by kernel_rfl) (h1.up (j:=16) (k:=15) (by kernel_rfl) h2)))) (fun _=> fN false (by decide)) hL (rB ⟨by kernel_rfl, ?_⟩) (fun _=> hS) ?_
     rotate_left
     focus (intro w AX;(try dsimp only at AX);go_simp;(first | done | with_reducible rfl))
     clear hL;intro hL
     try simp only [cS,aX,aR,aS,aM,aT,aW] at hL ⊢
     refine iI (rs:= [8,16]) (by kernel_rfl) (by simp) hL ?_
     refine rV.cons rfl (fun hL K hK=> ?_) (rV.cons rfl (fun hL K hK=> ?_) rV.nil)
     focus
      go_simp
      show K _ _
      obtain⟨V1,hW⟩:∃ V,Wd.alloc (aN #[aA TX] 34)=V:=⟨_,rfl⟩
      rw [hW]
      have hb:Below Wd.heap.size Wd V1:=by rw [← hW];exact(aL _ _).alloc (aH _) _
      have AY:=zq (HR0.out.below hb)
      have Zt:bK (bT V1 Wd.heap.size #[aA TX] 34):=by rw [← hW];exact bT.new _ _ _
      clear hb hW
      refine hK.out _ _ (fun _=> AY.out.cells) ?_
      clear hK K hS
      have hS:=AY.out.cells
      try simp only [cS,aX,aR,aS,aM,aT,aW] at hL ⊢
      refine iI (rs:= [9,16]) (by kernel_rfl) (by simp) hL ?_
      refine rV.cons rfl (fun hL K hK=> ?_) (rV.cons rfl (fun hL K hK=> ?_) rV.nil)
      focus
       refine AA (by rfl) _ _ (by rfl) B (aD ax n cx) n _ (by rfl) AY.out.ox Wd.heap.size TX (by rfl) Zt.out (by omega) AY.out.bs ?_
       intro gx Xw V2 dI GE zG
       have GH:=zq (AY.out.appX dI GE zG)
       clear dI GE zG
       show K _ _
       refine hK.out _ _ (fun _=> GH.out.cells) ?_
       clear hK K hS
       have hS:=GH.out.cells
       try simp only [cS,aX,aR,aS,aM,aT,aW] at hL ⊢
       refine iI (rs:= [16]) (by kernel_rfl) (by simp) hL ?_
       refine rV.cons rfl (fun hL K hK=> ?_) rV.nil
       go_simp
       show K _ _
       obtain⟨V3,hW⟩:∃ V,V2.alloc (aN #[aA TY] 34)=V:=⟨_,rfl⟩
       rw [hW]
       have hb:Below V2.heap.size V2 V3:=by rw [← hW];exact(aL _ _).alloc (aH _) _
       have Fk:=zq (GH.out.below hb)
       have rm:bK (bT V3 V2.heap.size #[aA TY] 34):=by rw [← hW];exact bT.new _ _ _
       have HFy:=zq GH.out.freshX
       clear hb hW
       refine hK.out _ _ (fun _=> Fk.out.cells) ?_
       clear hK K hS
       have hS:=Fk.out.cells
       try simp only [cS,aX,aR,aS,aM,aT,aW] at hL ⊢
       refine iI (rs:= [17]) (by kernel_rfl) (by simp) hL ?_
       refine rV.cons rfl (fun hL K hK=> ?_) rV.nil
       refine AA (by rfl) _ _ (by rfl) B (aD ay n cy) n _ (by rfl) Fk.out.oy V2.heap.size TY (by rfl) rm.out (by omega) Fk.out.bs ?_
       intro gy capy W5 dI GE zG
       have rh:=zq (Fk.out.appY dI GE zG)
       clear dI GE zG
       show K _ _
       refine hK.out _ _ (fun _=> rh.out.cells) ?_
       clear hK K hS
       have hS:=rh.out.cells
       try simp only [cS,aX,aR,aS,aM,aT,aW] at hL ⊢
      rotate_right
      focus
       go_simp
       show K _ _
       obtain⟨V2,hW⟩:∃ V,V1.alloc (aN #[aA TY] 34)=V:=⟨_,rfl⟩
       rw [hW]
       have hb:Below V1.heap.size V1 V2:=by rw [← hW];exact(aL _ _).alloc (aH _) _
       have GH:=zq (AY.out.below hb)
       have rm:bK (bT V2 V1.heap.size #[aA TY] 34):=by rw [← hW];exact bT.new _ _ _
       have HFy:=zq AY.out.freshX
       have Zt:=zq (Zt.out.below hb Zt.out.lt)
       clear hb hW
       refine hK.out _ _ (fun _=> GH.out.cells) ?_
       clear hK K hS
       have hS:=GH.out.cells
       try simp only [cS,aX,aR,aS,aM,aT,aW] at hL ⊢
       refine iI (rs:= [9]) (by kernel_rfl) (by simp) hL ?_
       refine rV.cons rfl (fun hL K hK=> ?_) rV.nil
       refine AA (by rfl) _ _ (by rfl) B (aD ax n cx) n _ (by rfl) GH.out.ox Wd.heap.size TX (by rfl) Zt.out (by omega) GH.out.bs ?_
       intro gx Xw V3 dI GE zG
       have Fk:=zq (GH.out.appX dI GE zG)
       have rm:=zq (jQ rm.out GE HFy.out)
       clear dI GE zG
       show K _ _
       refine hK.out _ _ (fun _=> Fk.out.cells) ?_
       clear hK K hS
       have hS:=Fk.out.cells
       try simp only [cS,aX,aR,aS,aM,aT,aW] at hL ⊢
       refine iI (rs:= [17]) (by kernel_rfl) (by simp) hL ?_
       refine rV.cons rfl (fun hL K hK=> ?_) rV.nil
       refine AA (by rfl) _ _ (by rfl) B (aD ay n cy) n _ (by rfl) Fk.out.oy V1.heap.size TY (by rfl) rm.out (by omega) Fk.out.bs ?_
       intro gy capy W5 dI GE zG
       have rh:=zq (Fk.out.appY dI GE zG)
       clear dI GE zG
       show K _ _
       refine hK.out _ _ (fun _=> rh.out.cells) ?_
       clear hK K hS
       have hS:=rh.out.cells
       try simp only [cS,aX,aR,aS,aM,aT,aW] at hL ⊢
     rotate_right
     focus
      go_simp
      show K _ _
      obtain⟨V1,hW⟩:∃ V,Wd.alloc (aN #[aA TY] 34)=V:=⟨_,rfl⟩
      rw [hW]
      have hb:Below Wd.heap.size Wd V1:=by rw [← hW];exact(aL _ _).alloc (aH _) _
      have AY:=zq (HR0.out.below hb)
      have rm:bK (bT V1 Wd.heap.size #[aA TY] 34):=by rw [← hW];exact bT.new _ _ _
      have HFy:=zq HR0.out.freshX
      clear hb hW
      refine hK.out _ _ (fun _=> AY.out.cells) ?_
      clear hK K hS
      have hS:=AY.out.cells
      try simp only [cS,aX,aR,aS,aM,aT,aW] at hL ⊢
      refine iI (rs:= [8]) (by kernel_rfl) (by simp) hL ?_
      refine rV.cons rfl (fun hL K hK=> ?_) rV.nil
      go_simp
      show K _ _
      obtain⟨V2,hW⟩:∃ V,V1.alloc (aN #[aA TX] 34)=V:=⟨_,rfl⟩
      rw [hW]
      have hb:Below V1.heap.size V1 V2:=by rw [← hW];exact(aL _ _).alloc (aH _) _
      have GH:=zq (AY.out.below hb)
      have Zt:bK (bT V2 V1.heap.size #[aA TX] 34):=by rw [← hW];exact bT.new _ _ _
      have rm:=zq (rm.out.below hb rm.out.lt)
      clear hb hW
      refine hK.out _ _ (fun _=> GH.out.cells) ?_
      clear hK K hS
      have hS:=GH.out.cells
      try simp only [cS,aX,aR,aS,aM,aT,aW] at hL ⊢
      refine iI (rs:= [9]) (by kernel_rfl) (by simp) hL ?_
      refine rV.cons rfl (fun hL K hK=> ?_) rV.nil
      refine AA (by rfl) _ _ (by rfl) B (aD ax n cx) n _ (by rfl) GH.out.ox V1.heap.size TX (by rfl) Zt.out (by omega) GH.out.bs ?_
      intro gx Xw V3 dI GE zG
      have Fk:=zq (GH.out.appX dI GE zG)
      have rm:=zq (jQ rm.out GE HFy.out)
      clear dI GE zG
      show K _ _
      refine hK.out _ _ (fun _=> Fk.out.cells) ?_
      clear hK K hS
      have hS:=Fk.out.cells
      try simp only [cS,aX,aR,aS,aM,aT,aW] at hL ⊢
      refine iI (rs:= [17]) (by kernel_rfl) (by simp) hL ?_
      refine rV.cons rfl (fun hL K hK=> ?_) rV.nil
      refine AA (by rfl) _ _ (by rfl) B (aD ay n cy) n _ (by rfl) Fk.out.oy Wd.heap.size TY (by rfl) rm.out (by omega) Fk.out.bs ?_
      intro gy capy W5 dI GE zG
      have rh:=zq (Fk.out.appY dI GE zG)
      clear dI GE zG
      show K _ _
      refine hK.out _ _ (fun _=> rh.out.cells) ?_
      clear hK K hS
      have hS:=rh.out.cells
      try simp only [cS,aX,aR,aS,aM,aT,aW] at hL ⊢
     all_goals
      refine fD (i:=18) (v:= ?_) (S' :=fun _=> True) rfl (by kernel_rfl) (by kernel_rfl) (by kernel_rfl) (fun _ _ _ h=> h) (fun _ _ _ _ _=> trivial) (fun _=> fN false (by decide)) hL (rB ⟨by kernel_rfl, ?_⟩) (fun _=> hS) ?_
      rotate_left
      focus (intro w AX;(try dsimp only at AX);go_simp;(first | done | with_reducible rfl))
      clear hL;intro hL
      try simp only [cS,aX,aR,aS,aM,aT,aW] at hL ⊢
      refine fD (i:=19) (v:= ?_) (S' :=fun _=> True) rfl (by kernel_rfl) (by kernel_rfl) (by kernel_rfl) (fun _ _ _ h=> h) (fun _ _ _ _ _=> trivial) (fun _=> fN false (by decide)) hL (rB ⟨by kernel_rfl, ?_⟩) (fun _=> hS) ?_
      rotate_left
      focus (intro w AX;(try dsimp only at AX);go_simp;(first | done | with_reducible rfl))
      clear hL;intro hL
      try simp only [cS,aX,aR,aS,aM,aT,aW] at hL ⊢
      obtain⟨g0,g1,z0,z1,lG⟩:=rh.out.grd.five
      refine iI (rs:= [20]) (by kernel_rfl) (by simp) hL ?_
      refine rV.cons rfl (fun hL K hK=> ?_) rV.nil
      go_simp
      show K _ _
      obtain⟨W6,hW⟩:∃ V,W5.setCell ⟨G,0,none⟩ (aD (some ⟨gx,0,none⟩) (n + 1) Xw)=V:=⟨_,rfl⟩
      rw [hW]
      have HR6:=zq (rh.out.set HwG.out (aD (some ⟨gx,0,none⟩) (n + 1) Xw)).1
      rw [hW] at HR6
      refine hK.out _ _ (fun h=> absurd h (by decide)) ?_
      clear hK K hW g0 g1 z0 z1 lG
      try simp only [cS,aX,aR,aS,aM,aT,aW] at hL ⊢
      refine fD (i:=21) (v:= ?_) (S' :=fun _=> True) rfl (by kernel_rfl) (by kernel_rfl) (by kernel_rfl) (fun _ _ _ h=> h) (fun _ _ _ _ _=> trivial) (fun _=> fN false (by decide)) hL (rB ⟨by kernel_rfl, ?_⟩) (fun h=> absurd h (by decide)) ?_
      rotate_left
      focus (intro w AX;(try dsimp only at AX);go_simp;(first | done | with_reducible rfl))
      clear hL;intro hL
      try simp only [cS,aX,aR,aS,aM,aT,aW] at hL ⊢
      refine fD (i:=22) (v:= ?_) (S' :=fun _=> True) rfl (by kernel_rfl) (by kernel_rfl) (by kernel_rfl) (fun _ _ _ h=> h) (fun _ _ _ _ _=> trivial) (fun _=> fN false (by decide)) hL (rB ⟨by kernel_rfl, ?_⟩) (fun h=> absurd h (by decide)) ?_
      rotate_left
      focus (intro w AX;(try dsimp only at AX);go_simp;(first | done | with_reducible rfl))
      clear hL;intro hL
      try simp only [cS,aX,aR,aS,aM,aT,aW] at hL ⊢
      obtain⟨g0,g1,z0,z1,lG⟩:=HR6.out.grd.five
      refine iI (rs:= [23]) (by kernel_rfl) (by simp) hL ?_
      refine rV.cons rfl (fun hL K hK=> ?_) rV.nil
      go_simp
      show K _ _
      obtain⟨W7,hW⟩:∃ V,W6.setCell ⟨G,1,none⟩ (aD (some ⟨gy,0,none⟩) (n + 1) capy)=V:=⟨_,rfl⟩
      rw [hW]
      have HR7:=zq (HR6.out.set HwG.out (aD (some ⟨gy,0,none⟩) (n + 1) capy)).2
      rw [hW] at HR7
      refine hK.out _ _ (fun h=> absurd h (by decide)) ?_
      clear hK K hW g0 g1 z0 z1 lG
      try simp only [cS,aX,aR,aS,aM,aT,aW] at hL ⊢
      refine Uh (by kernel_rfl) ?_ _
      have HX7:=zq (HGn.out _ _ _ HR7.out.grd HR7.out.ox HR7.out.oy HR7.out.sep)
      have HT7:=zq HR7.out.tr
      have Ig:=zq HR7.out.bel
      have HS7:=zq HR7.out.bs
      go_wp2
      go_roundw
      case rel=> exact⟨⟨k + 1,by omega,by go_num,HX7⟩,HT7,Ig,HS7⟩
      case measure=> simp only [aK];omega
    ·obtain rfl:k=np:=by omega
     have yN:=HLnq.out
     rw [V9.out] at yN
     rw [yN] at HX
     clear yN
     have hkge:¬ ((k:Int) < (k:Int)):=by omega
     go_wp2
     go_roundw
     case rel=> exact⟨⟨q + 1,by have:=Hq1.out;omega,by go_num,HX⟩,HT,HB,HBs⟩
     case measure=> have:=Hq1.out;simp only [aK];omega
  ·obtain rfl:q=nl:=by omega
   have hX:=HX.out
   rw [Ud.out] at hX
   have hX1:∃ vx vy:aP,gN wo G vx vy m2 m3 m4 [] [] []∧wo.ownsRow B 34 1 vx N (dK dx)∧wo.ownsRow B 34 1 vy N (dK dy)∧(vx.ownBlock=none∨vx.ownBlock≠vy.ownBlock):=by
    obtain⟨vx,vy,h1,h2,h3,h4⟩:=hX
    rw [List.map_map,aZ,← HDl.out] at h2 h3
    rw [HDx.out,HDy.out]
    exact⟨vx,vy,h1,h2,h3,h4⟩
   have HX1:=zq hX1
   have hqI:¬ ((q:Int) < (q:Int)):=by omega
   clear hq1 hq hX hX1 HX HDx HDy HDl qj HPn Zv qv
   go_wp2
   go_cut [67,68,69] (fun v n i W=> v=aD (some ⟨wo.heap.size,0,none⟩) 2 2∧n=aC aB 2∧i=aC aB 0∧bK (bT W wo.heap.size #[aY (some ⟨G,0,none⟩),aY (some ⟨G,1,none⟩)] 155)∧bK (Below wo.heap.size wo W))
   case first=>
    go_region
    all_goals
     go_wp2
     go_meet
     case rel=>
      first
       | exact⟨rfl,rfl,rfl,bT.new wo _ _,((aL _ wo).alloc (aH _) _).drew⟩
       | exact⟨rfl,rfl,rfl,bT.new wo.drew _ _,(aL _ wo).drew.alloc (aH _) _⟩
       | fail
   case rest=>
   obtain⟨rfl,rfl,rfl,HA,zU⟩:=hcut
   have HX2:bK (∃ vx vy,VX w TB #[aD a nf ca,aD b2 nf c2] B G wo.heap.size m2 m3 m4 wc vx vy∧wc.ownsRow B 34 1 vx N (dK dx)∧wc.ownsRow B 34 1 vy N (dK dy)∧(vx.ownBlock=none∨vx.ownBlock≠vy.ownBlock)):=by
    obtain⟨vx,vy,h1,h2,h3,h4⟩:=HX1.out
    exact⟨vx,vy,⟨h1.below zU.out,HA.out,HT.out.below zU.out HT.out.lt,aQ HB.out zU.out,aU HBs.out zU.out.size,HwB.out⟩,bJ h2 zU.out,bJ h3 zU.out,h4⟩
   clear HX1 HT HB HBs HA zU
   generalize wo.heap.size=A at *
   go_wp2
   go_loopw [69] (fun i wr=> (i=aC aB 0∧bK (∃ vx vy,VX w TB #[aD a nf ca,aD b2 nf c2] B G A m2 m3 m4 wr vx vy∧wr.ownsRow B 34 1 vx N (dK dx)∧wr.ownsRow B 34 1 vy N (dK dy)∧(vx.ownBlock=none∨vx.ownBlock≠vy.ownBlock)))∨
    (i=aC aB 1∧bK (∃ gx cx vy,VX w TB #[aD a nf ca,aD b2 nf c2] B G A m2 m3 m4 wr (aD (some ⟨gx,0,none⟩) LX.length cx) vy∧iJ wr gx LX∧wr.ownsRow B 34 1 vy N (dK dy)∧some gx≠vy.ownBlock∧gx≠G))∨
    (i=aC aB 2∧bK (∃ gx cx gy cy,VX w TB #[aD a nf ca,aD b2 nf c2] B G A m2 m3 m4 wr (aD (some ⟨gx,0,none⟩) LX.length cx) (aD (some ⟨gy,0,none⟩) LY.length cy)∧iJ wr gx LX∧iJ wr gy LY))) (fun i _=> 2 - (aK i).toNat)
   case atStart=> exact .inl ⟨rfl,HX2⟩
   case round=>
    clear HX2
    rename aF=> wj
    rcases hrel with ⟨rfl,HX⟩ | ⟨rfl,HX⟩ | ⟨rfl,HX⟩
    ·obtain⟨vx,vy,hR,hox,hoy,Mj⟩:=HX.out
     obtain⟨gx,cx,rfl⟩:=oN HN0.out hox
     have HR:=zq hR
     have HOx:=zq hox
     have HOy:=zq hoy
     have hgy:some gx≠vy.ownBlock:=Mj.elim (fun h=> by cases h) (fun h=> h)
     have HGy:=zq hgy
     have a0:=hR.arr.cell 0
     obtain⟨g0,g1,z0,z1,lG⟩:=hR.grd.five
     simp only [aJ,aI] at a0
     clear HX hR hox hoy Mj hgy
     go_wp2_with fail
     refine(HSx.out B gx cx wj HwB.out HR.out.bel HOx.out).mono ?_
     rintro e W1 ⟨⟨v,rfl⟩,hox1,hg1⟩
     have AY:=zq (HR.out.grown HOx.out hg1)
     have Xx:=zq (HOy.out.kept hg1 (.inr (Ne.symm HGy.out)))
     have HOx1:=zq hox1
     clear hox1 hg1 HR HOx HOy a0 g0 g1 z0 z1 lG
     obtain⟨g0,g1,z0,z1,lG⟩:=AY.out.grd.five
     go_wp2_with fail
     refine(HCx.out B gx cx W1 HOx1.out).mono ?_
     rintro e W2 ⟨rfl,hc2,hg2⟩
     have GH:=zq (AY.out.grown HOx1.out hg2)
     have HOy2:=zq (Xx.out.kept hg2 (.inr (Ne.symm HGy.out)))
     have L5:=zq hc2
     have HnG:bK (gx≠G):=fun e=> CW AY.out.grd HOx1.out (by rw [e];rfl)
     clear hc2 hg2 AY Xx HOx1 g0 g1 z0 z1 lG
     obtain⟨g0,g1,z0,z1,lG⟩:=GH.out.grd.five
     have Fk:=zq (GH.out.set HwG.out (aD (some ⟨gx,0,none⟩) LX.length cx)).1
     have HOy3:=zq (HOy2.out.kept (I4 W2 ⟨G,0,none⟩ (aD (some ⟨gx,0,none⟩) LX.length cx)) (.inr (Ne.symm (CW GH.out.grd HOy2.out))))
     have HC3:bK (iJ (W2.setCell ⟨G,0,none⟩ (aD (some ⟨gx,0,none⟩) LX.length cx)) gx LX):=L5.out.set HnG.out
     go_wp2
     go_roundw
     case rel=> exact .inr (.inl ⟨by go_num,⟨gx,cx,vy,Fk.out,HC3.out,HOy3.out,HGy.out,HnG.out⟩⟩)
     case measure=> simp only [aK];omega
    ·obtain⟨gx,cx,vy,hR,NO,hoy,Mj,hnG⟩:=HX.out
     obtain⟨gy,cy,rfl⟩:=oN HN0.out hoy
     have HR:=zq hR
     have HOy:=zq hoy
     have HCcx:=zq NO
     have HGy:=zq Mj
     have HnX:=zq hnG
     have a0:=hR.arr.cell 1
     obtain⟨g0,g1,z0,z1,lG⟩:=hR.grd.five
     simp only [aJ,aI,bC] at a0
     clear HX hR hoy NO Mj hnG
     go_wp2_with fail
     refine(HSy.out B gy cy wj HwB.out HR.out.bel HOy.out).mono ?_
     rintro e W1 ⟨⟨v,rfl⟩,hoy1,hg1⟩
     have AY:=zq (HR.out.grown HOy.out hg1)
     have HCcx1:=zq (HCcx.out.far hg1 HGy.out)
     have Xx:=zq hoy1
     clear hoy1 hg1 HR HOy HCcx a0 g0 g1 z0 z1 lG
     obtain⟨g0,g1,z0,z1,lG⟩:=AY.out.grd.five
     go_wp2_with fail
     refine(HCy.out B gy cy W1 Xx.out).mono ?_
     rintro e W2 ⟨rfl,hc2,hg2⟩
     have GH:=zq (AY.out.grown Xx.out hg2)
     have HCcx2:=zq (HCcx1.out.far hg2 HGy.out)
     have L5:=zq hc2
     have HnG:bK (gy≠G):=fun e=> CW AY.out.grd Xx.out (by rw [e];rfl)
     clear hc2 hg2 AY Xx HCcx1 g0 g1 z0 z1 lG
     obtain⟨g0,g1,z0,z1,lG⟩:=GH.out.grd.five
     have Fk:=zq (GH.out.set HwG.out (aD (some ⟨gy,0,none⟩) LY.length cy)).2
     have HC3:bK (iJ (W2.setCell ⟨G,1,none⟩ (aD (some ⟨gy,0,none⟩) LY.length cy)) gy LY):=L5.out.set HnG.out
     have HC4:bK (iJ (W2.setCell ⟨G,1,none⟩ (aD (some ⟨gy,0,none⟩) LY.length cy)) gx LX):=HCcx2.out.set HnX.out
     go_wp2
     go_roundw
     case rel=> exact .inr (.inr ⟨by go_num,⟨gx,cx,gy,cy,Fk.out,HC4.out,HC3.out⟩⟩)
     case measure=> simp only [aK];omega
    ·obtain⟨gx,cx,gy,cy,hR,NO,hcy⟩:=HX.out
     have HL0:bK (I6 w TB #[aD a nf ca,aD b2 nf c2] G gx gy cx cy m2 m3 m4 LX LY ((jJ ls 0 0).map SG) wj):=⟨hR.bel,hR.tr,NO,hcy, [], [],hR.grd,jI.nil⟩
     clear HX hR NO hcy HSx HSy HCx HCy
     go_wp2
     go_loopw [86] (fun i wr=> ∃ p:Nat,p≤q∧i=aC aB (p:Int)∧bK (I6 w TB #[aD a nf ca,aD b2 nf c2] G gx gy cx cy m2 m3 m4 LX LY ((jJ ls p 0).map SG) wr)) (fun i _=> q - (aK i).toNat)
     case atStart=> exact⟨0,by omega,rfl,HL0⟩
     case round=>
      clear HL0
      obtain⟨p,hp,rfl,HL⟩:=hrel
      rename aF=> wo
      by_cases hp1:p < q
      ·obtain⟨l,QZ⟩:∃ l,ls.getD p default=l:=⟨_,rfl⟩
       obtain⟨lb,lo,hbl,l0, -⟩:=(QW.out _ HL.out.bel).at (i:=p) (by rw [Hnl.out];exact hp1) QZ
       subst hbl
       have hly:=fun k=> HLay.out p k hp1
       have yN:=HLine.out p hp1
       rw [QZ] at hly yN
       have HLayq:=zq hly
       have HLnq:=zq yN
       clear hly yN
       have hpI:(p:Int) < q:=by omega
       have p0:(0:Int)≤(p:Int):=by omega
       have Hp1:=zq hp1
       obtain⟨np,Uq⟩:∃ np,l.ps.length=np:=⟨_,rfl⟩
       have hnp1:np≤1000:=by rw [← Uq,← QZ];exact HNp.out p hp1
       rw [Uq] at l0
       have V9:=zq Uq
       have Hlq:=zq QZ
       clear Uq hp1 hp QZ
       go_wp2
       go_loopw [92] (fun i wr=> ∃ k:Nat,k≤np∧i=aC aB (k:Int)∧bK (I6 w TB #[aD a nf ca,aD b2 nf c2] G gx gy cx cy m2 m3 m4 LX LY ((jJ ls p k).map SG) wr)) (fun i _=> np - (aK i).toNat)
       case atStart=> exact⟨0,by omega,rfl,HL⟩
       case round=>
        clear HL l0
        obtain⟨k,hk,rfl,HL⟩:=hrel
        rename aF=> wi
        by_cases hlt:k < np
        ·obtain⟨lb',lo',hla, -,rp⟩:=(QW.out _ HL.out.bel).at (i:=p) (by rw [Hnl.out];exact Hp1.out) Hlq.out
         obtain⟨pb,po,O8,d0,d1,d2⟩:=rp.at (i:=k) (by rw [V9.out];exact hlt) rfl
         have qz:=zq (HLayq.out k (by rw [V9.out];exact hlt))
         rw [O8]
         clear hla rp O8
         generalize hGD:l.ps.getD k default=pp at qz d0 d1 d2
         clear hGD
         obtain⟨sd,pf,pe⟩:=pp
         unfold Pt.v Pt.cells at qz
         simp only [] at *
         have hkI:(k:Int) < np:=by omega
         have k0:(0:Int)≤(k:Int):=by omega
         obtain⟨t0,t1, -, -,lT⟩:=HL.out.tr.two
         go_wp2_with fail
         have hba:Below wi.heap.size wi (wi.alloc (aN #[aC aB sd,aA (bs pf),aA (bs pe)] 68)):=(aL _ _).alloc (aH _) _
         refine(qz.out _ TB G gx gy cx cy m2 m3 m4 _ HAp.out HM2.out HM3.out (HL.out.below hba)).mono ?_
         rintro e W2 ⟨⟨v,rfl⟩,hL2⟩
         have ez:=zq hL2
         clear hba hL2 d0 d1 d2 t0 t1 lT qz
         go_wp2
         go_roundw
         case rel=> exact⟨k + 1,by omega,by go_num,ez⟩
         case measure=> simp only [aK];omega
        ·obtain rfl:k=np:=by omega
         have yN:=HLnq.out
         rw [V9.out] at yN
         rw [yN] at HL
         clear yN
         have hkge:¬ ((k:Int) < (k:Int)):=by omega
         go_wp2
         go_roundw
         case rel=> exact⟨p + 1,by have:=Hp1.out;omega,by go_num,HL⟩
         case measure=> have:=Hp1.out;simp only [aK];omega
      ·obtain rfl:p=q:=by omega
       have hpI:¬ ((p:Int) < (p:Int)):=by omega
       rw [Ud.out] at HL
       obtain⟨S,Nn,hg,hI⟩:=HL.out.g
       have HGw:=zq hg
       have HIn2:=zq hI
       clear hp1 hp hg hI
       go_wp2_with fail
       refine(OY G _ _ LX.length LY.length cx cy m2 m3 m4 S Nn (((ls.flatMap Lp.ps)).map SG) wo (aU HLx.out (by decide)) (aU HLy.out (by decide)) Sq.out HAp.out (fun x y=> HIn2.out.net x y) HIn.out HGw.out).mono ?_
       rintro e W2 ⟨⟨v,rfl⟩,hk2,I,hg2,hc2⟩
       have eT:bK (Below w.heap.size w W2):=HL.out.bel.trans (hk2.below HL.out.bel.size (fun k e=> by rw [e];exact HM4.out))
       have HG2:=zq hg2
       have L5:=zq hc2
       have ne4:∀ {a:cO} {v:aP},wo.cell? a=some v→¬ (a.block=m4):=fun hv=> CZ hv HGw.out.i
       have HX2:bK (iJ W2 gx LX):=fun i hi=> hk2.cell (HL.out.x i hi) (ne4 (HL.out.x i hi))
       have HY2:bK (iJ W2 gy LY):=fun i hi=> hk2.cell (HL.out.y i hi) (ne4 (HL.out.y i hi))
       clear hk2 hg2 hc2 ne4
       go_wp2
       go_ret
       exact⟨⟨G,gx,gy,cx,cy,m2,m3,m4,S,Nn,I,rfl,HG2.out,HX2.out,HY2.out,HIn2.out,L5.out⟩,eT.out⟩
theorem GI(a:Option cO)(c:Nat)(w:aF):bE aE 102 #[aD a 0 c] w (Rt (aD a 0 c) w):=by
 go_enter func102,ntmps102;go_wp2;go_ret;exact⟨rfl,aL _ _⟩
theorem O9(a:Option cO)(c:Nat)(fv:aP)(w:aF):bE aE 101 #[aD a 0 c,fv] w fun e w'=>(∃v,e=bA v)∧Below w.heap.size w w':=by
 refine(AnyF.slices_SortFunc_none (P:=aE) (ρ:=Tryz.sortN_ren) {Tryz.sortN with} a c fv w).mono ?_;rintro e w'⟨rfl,rfl⟩;exact⟨⟨_,rfl⟩,aL _ _⟩
def Mw(W:aF)(G:Nat)(xs ys:List (List UInt8))(E:List Sg):Prop:=∃(xa ya:Option cO)(gx gy cx cy m2 m3 m4:Nat)(S Nn:WL)(I:SL),
 gN W G (aD xa xs.length cx) (aD ya ys.length cy) m2 m3 m4 S Nn I∧(0<xs.length→xa=some ⟨gx,0,none⟩)∧(0<ys.length→ya=some ⟨gy,0,none⟩)∧iJ W gx xs∧iJ W gy ys∧jI E S Nn∧∀i j,lZ I i j=gD xs.length ys.length E i j
theorem Ur(a b2 bl:Option cO)(nf ca c2 cl:Nat)(w:aF):
 bE aE 34 #[cF #[aD a nf ca,aD b2 nf c2],aD bl 0 cl] w fun e w'=>(∃G,e=bA (aY (some ⟨G,0,none⟩))∧Mw w' G [] [] [])∧Below w.heap.size w w':=by
 have qv:= @run_makeMap aE;obtain⟨W0,eY,hT0,So,fE⟩:=O6 w #[aD a nf ca,aD b2 nf c2];have ZG:=zq hT0;have TW:=zq So;have fV:=zq fE;have HwG:bK (w.heap.size≤w.heap.size+1+1+1+1):=by show _≤_;omega
 have HM4:bK (w.heap.size≤w.heap.size+1+1+1):=by show _≤_;omega
 have HAp:bK (CQ (w.heap.size+1) (w.heap.size+1+1) (w.heap.size+1+1+1)):=⟨by omega,by omega,by omega⟩;clear hT0 So fE;go_enter func34,ntmps34;go_upto_if 22 with(fail);try rw[eY]
 clear eY;generalize w.heap.size+1+1+1+1=G at *;generalize hm4:w.heap.size+1+1+1=m4 at HM4 HAp TW;generalize hm3:w.heap.size+1+1=m3 at HAp TW;generalize QM:w.heap.size+1=m2 at HAp TW;clear QM hm3 hm4;generalize hTBw:w.heap.size=TB at ZG⊢;go_loopw[24] (fun i wr=>i=aC aB 0∧wr=W0) (fun i _=>0);case atStart=>exact⟨rfl,rfl⟩
 case round=>
  obtain⟨rfl,rfl⟩:=hrel;rename aF=>W0;clear qv;go_wp2;go_cut[67,68,69] (fun v n i W=>v=aD (some ⟨W0.heap.size,0,none⟩) 2 2∧n=aC aB 2∧i=aC aB 0∧bK (bT W W0.heap.size #[aY (some ⟨G,0,none⟩),aY (some ⟨G,1,none⟩)] 155)∧bK (Below W0.heap.size W0 W));case first =>
   go_region;all_goals
    go_wp2;go_meet;case rel=>
     first
      |exact⟨rfl,rfl,rfl,bT.new W0 _ _,((aL _ W0).alloc (aH _) _).drew⟩
      |exact⟨rfl,rfl,rfl,bT.new W0.drew _ _,(aL _ W0).drew.alloc (aH _) _⟩
      |fail
  case rest=>
  obtain⟨rfl,rfl,rfl,HA,zU⟩:=hcut;have HR:bK (VX w TB #[aD a nf ca,aD b2 nf c2] w.heap.size G W0.heap.size m2 m3 m4 wc (aD none 0 0) (aD none 0 0)):=
   ⟨TW.out.below zU.out,HA.out,ZG.out.below zU.out ZG.out.lt,aQ fV.out zU.out,aU fV.out.size zU.out.size,aH _⟩
  clear ZG TW fV HA zU;generalize W0.heap.size=A at *;go_wp2;go_loopw[69] (fun i wr=>∃j:Nat,j≤2∧i=aC aB (j:Int)∧bK (VX w TB #[aD a nf ca,aD b2 nf c2] w.heap.size G A m2 m3 m4 wr (aD none 0 0) (aD none 0 0))) (fun i _=>2-(aK i).toNat);case atStart=>exact⟨0,by omega,rfl,HR⟩
  case round=>
   clear HR;rename aF=>wj;obtain⟨j,hj,rfl,HR⟩:=hrel;have hcase:j=0∨j=1∨j=2:=by omega
   clear hj;rcases hcase with rfl|rfl|rfl
   ·have a0:=HR.out.arr.cell 0;obtain⟨g0,g1,z0,z1,lG⟩:=HR.out.grd.five;simp only[aJ,aI]at a0;go_wp2_with fail
    refine(O9 none 0 _ wj).mono ?_;rintro e W1⟨⟨v,rfl⟩,hb1⟩;have AY:=zq (HR.out.below hb1);clear hb1 HR a0 g0 g1 z0 z1 lG;obtain⟨g0,g1,z0,z1,lG⟩:=AY.out.grd.five;go_wp2_with fail
    refine(GI none 0 W1).mono ?_;rintro e W2⟨rfl,hb2⟩;have GH:=zq (AY.out.below hb2);clear hb2 AY g0 g1 z0 z1 lG;obtain⟨g0,g1,z0,z1,lG⟩:=GH.out.grd.five;have Fk:=zq (GH.out.set HwG.out (aD none 0 0)).1;go_wp2;go_roundw;case rel=>exact⟨1,by omega,by go_num,Fk⟩
    case measure=>simp only[aK];omega
   ·have a0:=HR.out.arr.cell 1;obtain⟨g0,g1,z0,z1,lG⟩:=HR.out.grd.five;simp only[aJ,aI,bC]at a0;go_wp2_with fail
    refine(O9 none 0 _ wj).mono ?_;rintro e W1⟨⟨v,rfl⟩,hb1⟩;have AY:=zq (HR.out.below hb1);clear hb1 HR a0 g0 g1 z0 z1 lG;obtain⟨g0,g1,z0,z1,lG⟩:=AY.out.grd.five;go_wp2_with fail
    refine(GI none 0 W1).mono ?_;rintro e W2⟨rfl,hb2⟩;have GH:=zq (AY.out.below hb2);clear hb2 AY g0 g1 z0 z1 lG;obtain⟨g0,g1,z0,z1,lG⟩:=GH.out.grd.five;have Fk:=zq (GH.out.set HwG.out (aD none 0 0)).2;go_wp2;go_roundw;case rel=>exact⟨2,by omega,by go_num,Fk⟩
    case measure=>simp only[aK];omega
   ·go_wp2;go_loopw[86] (fun i wr=>i=aC aB 0∧wr=wj) (fun i _=>0);case atStart=>exact⟨rfl,rfl⟩
    case round=>
     obtain⟨rfl,rfl⟩:=hrel;rename aF=>wj;go_wp2_with fail
     refine(OY G _ _ 0 0 0 0 m2 m3 m4 [] [] [] wj (by decide) (by decide) (by simp) HAp.out (fun x y=>jI.nil.net x y) (fun s h=>by cases h) HR.out.grd).mono ?_;rintro e W2⟨⟨v,rfl⟩,hk2,I,hg2,hc2⟩;have eT:bK (Below w.heap.size w W2):=HR.out.bel.trans (hk2.below HR.out.bel.size (fun k e=>by rw[e];exact HM4.out));have HG2:=zq hg2;have L5:=zq hc2;clear hk2 hg2 hc2;go_wp2;go_ret;exact⟨⟨G,rfl,none,none,0,0,0,0,m2,m3,m4,[],[],I,HG2.out,by simp,by simp,fun i hi=>by simp at hi,fun i hi=>by simp at hi,jI.nil,L5.out⟩,eT.out⟩
structure Br(fs:List Fr)(at':List (List UInt8))(ls:List Lp)(dx dy:List (List UInt8)):Prop where
 nl:ls.length≤1000
 n:(ls.flatMap Lp.ps).length≤1000
 ex:dx=(ls.flatMap Lp.ps).map fun p=>(bW fs at' p).x
 ey:dy=(ls.flatMap Lp.ps).map fun p=>(bW fs at' p).y
 nx:∀s∈dx,Nm s
 ny:∀s∈dy,Nm s
 p:∀p∈ls.flatMap Lp.ps,Bq fs at' (bL dx) (bL dy) p
 four:∀l∈ls,0<l.ps.length
theorem Us(a b2 bl:Option cO)(nf ca c2 cl nl:Nat)(fs:List Fr)(at':List (List UInt8))(ls:List Lp)(dx dy:List (List UInt8))(w:aF)(hE:mN w)(hf:fs.length=nf)(hl:at'.length=nf)(JX:ls.length=nl)(h:Br fs at' ls dx dy)(rf:vT w a fs)(ra:yJ w b2 at')(rl:E5 w bl ls):
 bE aE 34 #[cF #[aD a nf ca,aD b2 nf c2],aD bl nl cl] w fun e w'=>(∃G,e=bA (aY (some ⟨G,0,none⟩))∧Mw w' G (bL dx) (bL dy) ((ls.flatMap Lp.ps).map (gT fs at' (bL dx) (bL dy))))∧Below w.heap.size w w':=by
 by_cases h0:ls=[]
 ·obtain⟨-,-,e1,e2,-,-,-,-⟩:=h;subst h0;rw[List.flatMap_nil,yE]at e1 e2;subst e1;subst e2;simp only[List.length_nil]at JX;subst JX;exact Ur a b2 bl nf ca c2 cl w
 ·have hpos:0<(ls.flatMap Lp.ps).length:=by
   cases ls with
   |nil=>exact absurd rfl h0
   |cons l ls=>
    rw[kT,bO];have:=h.four l (List.mem_cons_self ..);omega
  refine(Up a b2 bl nf ca c2 cl nl _ fs at' ls dx dy w hE hf hl JX (by rw[←JX];exact h.nl) rfl hpos h.n h.ex h.ey h.nx h.ny h.p rf ra rl).mono ?_;rintro e w'⟨⟨G,gx,gy,cx,cy,m2,m3,m4,S,Nn,I,he,hg,NO,hcy,hI,hc⟩,hb⟩;exact⟨⟨G,he,some ⟨gx,0,none⟩,some ⟨gy,0,none⟩,gx,gy,cx,cy,m2,m3,m4,S,Nn,I,hg,fun _=>rfl,fun _=>rfl,NO,hcy,hI,hc⟩,hb⟩
end
section
open Go Go.RowKit Go.Lib
theorem ZH{fs:List Fr}{z:List UInt8}{s:Nat}(hs:s<fs.length):(fR fs z).getD s []=Qn (fs.getD s default) z:=by
 unfold fR;simp[aG,hs]
theorem KV{fs:List Fr}{at':List (List UInt8)}{ls:List Lp}{right:Bool}(h:tO fs at' ls right =true):∀l∈ls,tM fs at' l.ps right =true:=by
 intro l hl;obtain⟨i,hi,rfl⟩:=List.mem_iff_getElem.1 hl;unfold tO at h;have h2:=cP.1 (by simpa using h:anyN (eo fs at' ls right) ls.length=false) i hi;unfold eo at h2;rw[aG,bN hi,bX]at h2;simpa using h2
theorem GJ {fs:List Fr} {at' :List (List UInt8)} {ps:List Pt} {right:Bool} (h:tM fs at' ps right=true):4≤ps.length∧(∀ i,i < ps.length→CG fs right (ps.getD i default)=true)∧∀ i,i < ps.length→CF fs at' (ps.getD i default) (ps.getD ((i + 1) % ps.length) default)=true:=by
 unfold tM at h;simp only [bQ,decide_eq_true_eq,dP] at h;refine⟨h.1.1,fun i hi=> IM h.1.2 hi,fun i hi=> ?_⟩;have:=cP.1 h.2 i hi;unfold badJ at this;simpa using this
theorem Ut{fs:List Fr}{right:Bool}{p:Pt}(h:CG fs right p=true):(∃s:Nat,p.side=s∧s<fs.length)∧0≤zC fs p:=by
 refine⟨E7 h,?_⟩;unfold CG at h;simp only[bQ,decide_eq_true_eq,dP,decide_eq_false_iff_not]at h;have:=h.2.1;omega
theorem Uu{fs:List Fr}{at':List (List UInt8)}{p q:Pt}(h:CF fs at' p q=true):p.en=if(fs.getD p.side.toNat default).up=true then(bW fs at' q).y else(bW fs at' q).x:=by
 unfold CF at h;unfold bW;generalize fs.getD p.side.toNat default=f at *;generalize fs.getD q.side.toNat default=g at *;cases hf:f.up<;>cases hg:g.up<;>simp[hf,hg]at h⊢
 ·exact h.1.2
 ·exact h.1
 ·exact h.1
 ·exact h.1.2
theorem join_seg{fs:List Fr}{at' xs ys:List (List UInt8)}{p q:Pt}(h:CF fs at' p q=true):(gT fs at' xs ys p).en=(gT fs at' xs ys q).st:=by
 unfold CF at h;unfold gT;generalize fs.getD p.side.toNat default=f at *;generalize fs.getD q.side.toNat default=g at *;cases hf:f.up<;>cases hg:g.up<;>simp[hf,hg,Sg.en,Sg.st]at h⊢
 ·exact⟨by rw[h.1.2],by rw[h.2]⟩
 ·exact⟨by rw[h.1],by rw[h.2]⟩
 ·exact⟨by rw[h.2],by rw[h.1]⟩
 ·exact⟨by rw[h.2],by rw[h.1.2]⟩
theorem Xy{fs:List Fr}{z:List UInt8}{ls:List Lp}(NQ:∀f∈fs,f.Ok)(Ns:Tp ls)(hz:Lz z)(h:tO fs (fR fs z) ls false=true)(JX:ls.length≤1000)(hn:(ls.flatMap Lp.ps).length≤1000):
 Br fs (fR fs z) ls ((ls.flatMap Lp.ps).map fun p=>(bW fs (fR fs z) p).x) ((ls.flatMap Lp.ps).map fun p=>(bW fs (fR fs z) p).y):=by
 have hpart:∀p∈ls.flatMap Lp.ps,CG fs false p=true:=fun p hp=>by
  obtain⟨l,hl,Er⟩:=List.mem_flatMap.1 hp;obtain⟨i,hi,rfl⟩:=List.mem_iff_getElem.1 Er;have:=(GJ (KV h l hl)).2.1 i hi;rwa[aG,bN hi,bX]at this
 have hnm:∀p∈ls.flatMap Lp.ps,Nm (bW fs (fR fs z) p).x∧Nm (bW fs (fR fs z) p).y:=fun p hp=>by
  obtain⟨⟨s,hs,Ic⟩,-⟩:=Ut (hpart p hp);obtain⟨l,hl,Er⟩:=List.mem_flatMap.1 hp;have h1:=((Ns l hl).2 p Er).1;have es:p.side.toNat=s:=by omega
  have ha:Nm ((fR fs z).getD s []):=by
   rw[ZH Ic];refine Qo (NQ _ ?_) hz;rw[aG,bN Ic,bX];exact gL _
  unfold bW;rw[es];split
  ·exact⟨ha,h1⟩
  ·exact⟨h1,ha⟩
 have nx:∀s∈(ls.flatMap Lp.ps).map fun p=>(bW fs (fR fs z) p).x,Nm s:=fun s hs=>by
  obtain⟨p,hp,rfl⟩:=List.mem_map.1 hs;exact(hnm p hp).1
 have ny:∀s∈(ls.flatMap Lp.ps).map fun p=>(bW fs (fR fs z) p).y,Nm s:=fun s hs=>by
  obtain⟨p,hp,rfl⟩:=List.mem_map.1 hs;exact(hnm p hp).2
 have mx:∀p∈ls.flatMap Lp.ps,(bW fs (fR fs z) p).x∈bL ((ls.flatMap Lp.ps).map fun p=>(bW fs (fR fs z) p).x):=fun p hp=>((mZ nx).2 _).2 (List.mem_map.2 ⟨p,hp,rfl⟩);have my:∀p∈ls.flatMap Lp.ps,(bW fs (fR fs z) p).y∈bL ((ls.flatMap Lp.ps).map fun p=>(bW fs (fR fs z) p).y):=fun p hp=>((mZ ny).2 _).2 (List.mem_map.2 ⟨p,hp,rfl⟩);refine⟨JX,hn,rfl,rfl,nx,ny,fun p hp=>?_,fun l hl=>by have:=(GJ (KV h l hl)).1;omega⟩;obtain⟨hs,hadv⟩:=Ut (hpart p hp);refine⟨hs,mx p hp,my p hp,?_,?_,hadv⟩
 ·obtain⟨l,hl,Er⟩:=List.mem_flatMap.1 hp;obtain⟨i,hi,rfl⟩:=List.mem_iff_getElem.1 Er;have hw:=GJ (KV h l hl);have hj:=hw.2.2 i hi;have hi2:(i+1)%l.ps.length<l.ps.length:=dB _ (by omega);have hq:l.ps.getD ((i+1)%l.ps.length) default∈ls.flatMap Lp.ps:=List.mem_flatMap.2 ⟨l,hl,by
   rw[aG,bN hi2,bX];exact gL _⟩
  have he:=Uu hj;rw[aG,bN hi,bX]at he;rw[he];split
  ·exact my _ hq
  ·exact mx _ hq
 ·obtain⟨s,h1,h2⟩:=hs;have es:p.side.toNat=s:=by omega
  rw[es,aG,bN h2,bX];exact(NQ _ (gL _)).dir
def iQ(fs:List Fr)(at' xs ys:List (List UInt8))(ls:List Lp):List (List Sg):=ls.map fun l=>l.ps.map (gT fs at' xs ys)
theorem Bt(fs:List Fr)(at' xs ys:List (List UInt8))(ls:List Lp):(iQ fs at' xs ys ls).flatten=(ls.flatMap Lp.ps).map (gT fs at' xs ys):=by
 unfold iQ;rw[List.map_flatMap,List.flatMap_def]
theorem Xz{fs:List Fr}{at':List (List UInt8)}{ls:List Lp}(xs ys:List (List UInt8))(h:tO fs at' ls false=true):∀l∈iQ fs at' xs ys ls,Aj l:=by
 intro r hr;obtain⟨l,hl,rfl⟩:=List.mem_map.1 hr;have hw:=GJ (KV h l hl);intro j hj;rw[aZ]at hj⊢;have ZI:(j+1)%l.ps.length<l.ps.length:=dB _ (by omega);have:=join_seg (xs:=xs) (ys:=ys) (hw.2.2 j hj);have e:∀i,i<l.ps.length→(l.ps.map (gT fs at' xs ys)).getD i default=gT fs at' xs ys (l.ps.getD i default):=fun i hi=>by
  simp[aG,hi]
 rw[e j hj,e _ ZI];exact this
theorem rings_in{fs:List Fr}{at':List (List UInt8)}{ls:List Lp}{dx dy:List (List UInt8)}(h:Br fs at' ls dx dy):∀s∈(iQ fs at' (bL dx) (bL dy) ls).flatten,lQ (bL dx).length (bL dy).length s:=by
 intro s hs;rw[Bt]at hs;obtain⟨p,hp,rfl⟩:=List.mem_map.1 hs;obtain⟨k,h1,h2⟩:=(h.p p hp).side;obtain⟨-,-,-,f4,⟨f5,f5'⟩,⟨f6,f6'⟩,⟨f7,f7'⟩⟩:=DG h1 (h.p p hp);rw[←f4]at f5' f6' f7';refine⟨f5,f6,f7,fun hu=>?_,fun hu=>?_⟩
 ·rw[ip hu]at f5' f6' f7';exact⟨f5',f6',f7'⟩
 ·rw[iN (by rw[hu];decide)]at f5' f6' f7';exact⟨f5',f6',f7'⟩
def nB(fs:List Fr)(at' xs ys:List (List UInt8))(ls:List Lp):Int→Int→Bool:=gD xs.length ys.length ((ls.flatMap Lp.ps).map (gT fs at' xs ys))
theorem AB(fs:List Fr)(at' xs ys:List (List UInt8))(ls:List Lp):tS (nB fs at' xs ys ls) xs.length ys.length:=fun i j h=>by
 obtain⟨h1,h2,h3,h4,-⟩:=rC h
 exact⟨h1,h3,h2,h4⟩
theorem JZ{fs:List Fr}{at':List (List UInt8)}{ls:List Lp}{dx dy:List (List UInt8)}(h:Br fs at' ls dx dy)(ha:tO fs at' ls false=true){w:Wy}(hw:lH (nB fs at' (bL dx) (bL dy) ls) w=true):
 ∃t:Nat,tR ((ls.flatMap Lp.ps).map (gT fs at' (bL dx) (bL dy))) w=some (t:Int)∧t<fs.length∧∃p∈ls.flatMap Lp.ps,p.side=t∧Iv (gT fs at' (bL dx) (bL dy) p) w.x w.y w.d:=by
 unfold lH nB at hw;rw[bQ]at hw;rw[←Bt]at hw⊢;obtain⟨s,hs,Sr⟩:=uz (Xz (bL dx) (bL dy) ha) (rings_in h) hw.2;have h1:=OV hs Sr;obtain⟨t,ht⟩:=Option.isSome_iff_exists.1 h1;obtain⟨s',hs',hon',S8⟩:=Mf ht;rw[Bt]at hs';obtain⟨p,hp,rfl⟩:=List.mem_map.1 hs';obtain⟨k,k1,k2⟩:=(h.p p hp).side;obtain⟨-,-,f3,-⟩:=DG k1 (h.p p hp);refine⟨k,?_,k2,p,hp,k1,hon'⟩;rw[ht,←S8,f3]
end
end Go.Proofs.YtkchhginppjaiaaGreatDoor
