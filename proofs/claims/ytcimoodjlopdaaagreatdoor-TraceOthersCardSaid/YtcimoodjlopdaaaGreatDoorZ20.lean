import Derived.Carry
import Derived.Test.YtcimoodjlopdaaaGreatDoorZ0
import Derived.Test.YtcimoodjlopdaaaGreatDoorZ8
import Derived.Test.YtcimoodjlopdaaaGreatDoorZ19
namespace Go.Proofs.YtcimoodjlopdaaaGreatDoor
set_option maxRecDepth 100000
set_option maxHeartbeats 8000000
set_option linter.all false
open Go.Proofs.Tryz
open Go renaming World->aE,Calls->aQ,Value->bB,KeepsFrom->kC,OwnFrom->Bd,Code->Cz,Act->EI
open Go.Act renaming put->eC
open Go.Code renaming rangeFunc->BZ
open Go.Ending renaming returned->aO
open Go.Fence renaming wide->dW
open Go.IntKind renaming i64->aG
open Go.Lib renaming compactUpTo->B8
open Go.Obj renaming cells->aL
open Go.Proofs.Tryz renaming prog->aC
open Go.RowKit renaming Below->aJ,intOf->aK,Hid->aY
open Go.RowKit.Below renaming refl->aI,heap_alloc->Kr
open Go.Value renaming string->aA,slice->aB,int->aF,pointer->cB,agg->dM
open Go.World renaming size_alloc->aS,block_lt_of_cell?->bF,putObj_heap_other->cH,putObj_heap_same->mA,size_setCell->mO,alloc_heap_new->nL,ownsRow_nil->I5
open List renaming setIfInBounds_toArray->aU,getElem_cons_zero->aZ,getElem_cons_succ->bA,getElem_toArray->bC,getElem?_cons_zero->bD,set_cons_succ->bG,getElem?_toArray->bJ,set_cons_zero->bK,replicate->bY,eq_of_mem_replicate->nY
open Nat renaming le_refl->aD,le_trans->cC
open Or renaming inl->sB
open Trans renaming trans->cL
section
open Go Go.RowKit Go.Shelf Go.Lib
theorem XF{W:aE}{p q:Addr}{v u:bB}(lE:p≠q)(h:W.cell? p=some v):(W.setCell q u).cell? p=some v:=(World.cell?_setCell_other _ _ _ _ (Ne.symm lE)).trans h
theorem lay_pt (a b2:Option Addr) (nf ca c2:Nat) (fs:List Fr) (at' :List (List UInt8)) (p:Pt) (s:Nat) (G xb yb xo yo cx cy:Nat) (t:List UInt8) (w:aE) (hE:eZ w)
 (hs:p.side=s) (BQ:s < nf) (hf:fs.length=nf) (hl:at'.length=nf) (rf:wP w a fs) (ra:xO w b2 at')
 (hco:iH fs at' p=⟨t,t⟩) (hen:p.en=t) (ht:t.length≤8000000) (h0:(gY t t).1=0)
 (hg:Ih w G (aB (some ⟨xb,xo,none⟩) 1 cx) (aB (some ⟨yb,yo,none⟩) 1 cy)) (hx:w.cell? ⟨xb,xo,none⟩=some (aA (bs t))) (hy:w.cell? ⟨yb,yo,none⟩=some (aA (bs t))) :
 aQ aC 107 #[dM #[aB a nf ca,aB b2 nf c2],cB (some ⟨G,0,none⟩),p.v] w fun e w' => (∃ v,e=aO v)∧aJ w.heap.size w w' :=by
 have lw:aY (∀ W,aJ w.heap.size w W→aQ aC 25 #[dM #[aB a nf ca,aB b2 nf c2],p.v] W (Rt (dM #[aA (bs t),aA (bs t)]) W)):=fun W hW=> by
  have:=IQ a b2 nf ca c2 fs at' p s W hs BQ hf hl (rf.below hW) (ra.below hW);rwa [hco] at this
 have HPx:aY (∀ W,aJ w.heap.size w W→aQ aC 167 #[aB (some ⟨xb,xo,none⟩) 1 cx,aA (bs t)] W (Rt (aF aG 0) W)):=fun W hW=>
  Ol xb xo cx t t W (hE.below hW) ht ht h0 ((hW.cell (p:=⟨xb,xo,none⟩) (bF w _ hx)).trans hx)
 have HPy:aY (∀ W,aJ w.heap.size w W→aQ aC 167 #[aB (some ⟨yb,yo,none⟩) 1 cy,aA (bs t)] W (Rt (aF aG 0) W)):=fun W hW=>
  Ol yb yo cy t t W (hE.below hW) ht ht h0 ((hW.cell (p:=⟨yb,yo,none⟩) (bF w _ hy)).trans hy)
 have HD:aY (∀ W,aQ aC 45 #[(fs.getD s default).v] W (Rt (aF aG (nD (fs.getD s default))) W)):=fun W=> qL _ W;have HLa:=zq (fun u W=> SO 0 u W);have fP:=((aI w.heap.size w).alloc (aD _) (aL #[aB a nf ca,aB b2 nf c2] 58)).alloc (by simp) (aL #[aF aG s,aA (bs p.fr),aA (bs t)] 46);have q0:=(bZ.new w #[aB a nf ca,aB b2 nf c2] 58).alloc (aL #[aF aG s,aA (bs p.fr),aA (bs t)] 46);have q1:=bZ.new (w.alloc (aL #[aB a nf ca,aB b2 nf c2] 58)) #[aF aG s,aA (bs p.fr),aA (bs t)] 46;rw [aS] at q1;obtain⟨fb,fo,rfl,f0,f1,f2,f3,f4⟩:=(rf.below fP).at (i:=s) (by rw [hf];exact BQ) rfl;obtain⟨W0,iU⟩:∃ W,(w.alloc (aL #[aB (some ⟨fb,fo,none⟩) nf ca,aB b2 nf c2] 58)).alloc (aL #[aF aG s,aA (bs p.fr),aA (bs t)] 46)=W:=⟨_,rfl⟩;have hGr:=hg.below fP;rw [iU] at fP q0 q1 f0 f1 f2 f3 f4 hGr;have mE:=zq fP;have mg:=zq q0;have tw:=zq q1;have HGr:=zq hGr;obtain⟨e0,e1, -, -,lT⟩:=q0.two;obtain⟨p0,p1,p2⟩:=q1.three;have lP:=q1.lt;clear hE hf hl rf ra hco ht h0 hg hx hy fP q0 q1 hGr;unfold Fr.v Fr.cells at HD;unfold Pt.v Pt.cells at lw ⊢;rw [hs,hen] at lw ⊢;clear hs hen;generalize nD (fs.getD s default)=DF at *;generalize fs.getD s default=f at *;obtain⟨uM,yX,kX,DX,KI⟩:=f;simp only [] at *;generalize bs DX=FSP at *;generalize bs KI=FST at *;generalize bs t=T at *;generalize bs p.fr=PF at *;have sn:(s:Int) < (nf:Int):=by omega
 go_enter func107,ntmps107;go_upto_if 15 with (fail);have hF:=bZ.new W0 #[.bool uM,aF aG yX,aF aG kX,aA FSP,aA FST] 44;have hbF:=(aI _ W0).alloc (aD _) (aL #[.bool uM,aF aG yX,aF aG kX,aA FSP,aA FST] 44);refine(HD.out _).mono ?_;rintro e W1 ⟨rfl,hb1⟩;have ER:=hbF.trans (hb1.mono (by simp));have HF1:=zq (hF.below hb1 hF.lt);have fK:=zq (aT mE.out ER);have mg:=zq (mg.out.below ER mg.out.lt);have tw:=zq (tw.out.below ER tw.out.lt);have HGr:=zq (HGr.out.below ER);clear ER hb1 hbF hF e0 e1 lT p0 p1 p2 lP f0 f1 f2 f3 f4 mE HD sn iU;generalize W0.heap.size=FB at *;obtain⟨e0,e1, -, -,lT⟩:=mg.out.two;obtain⟨p0,p1,p2⟩:=tw.out.three;go_wp2_with fail
 refine(lw.out _ fK.out).mono ?_;rintro e W2 ⟨rfl,hb2⟩;have HF2:=zq (HF1.out.below hb2 HF1.out.lt);have gD:=zq (aT fK.out hb2);have tw:=zq (tw.out.below hb2 tw.out.lt);have HGr:=zq (HGr.out.below hb2);clear hb2 e0 e1 lT p0 p1 p2 HF1 fK mg lw;obtain⟨W3,Y6⟩:∃ W,W2.alloc (aL #[aA T,aA T] 56)=W:=⟨_,rfl⟩;have hb3:aJ W2.heap.size W2 W3:=by rw [← Y6];exact(aI _ _).alloc (aD _) _
 have HC3:aY (bZ W3 W2.heap.size #[aA T,aA T] 56):=by rw [← Y6];exact bZ.new _ _ _
 have HF3:=zq (HF2.out.below hb3 HF2.out.lt);have HB3:=zq (aT gD.out hb3);have HQ3:=zq (tw.out.below hb3 tw.out.lt);have HG3:=zq (HGr.out.below hb3);clear hb3 HF2 gD tw HGr;go_upto_region 4 with (fail)
 try rw [Y6]
 clear Y6;generalize W2.heap.size=CB at *;obtain⟨g0,g1, -, -,lG⟩:=HG3.out.cells;obtain⟨c0,c1, -, -,lC⟩:=HC3.out.two;have Xo:aY (aJ W3.heap.size W3 W3.drew):=(aI _ W3).drew;have HWa:aY (aJ W3.heap.size W3 (W3.alloc (aL #[aF aG 0,aF aG 0] 146)).drew):=((aI _ W3).alloc (aD _) _).drew;have HNq:aY (bZ (W3.alloc (aL #[aF aG 0,aF aG 0] 146)).drew W3.heap.size #[aF aG 0,aF aG 0] 146):=bZ.new W3 _ _;go_cut [9] (fun v W=> ∃ q,v=cB (some ⟨q,0,none⟩)∧aY (bZ W q #[aF aG 0,aF aG 0] 146)∧aY (aJ W3.heap.size W3 W));case first=>
  go_region_held3 (fun w' => w'.cell? ⟨G,0,none⟩=some (aB (some ⟨xb,xo,none⟩) 1 cx)∧w'.cell? ⟨G,1,none⟩=some (aB (some ⟨yb,yo,none⟩) 1 cy)∧w'.cell? ⟨CB,0,none⟩=some (aA T)∧w'.cell? ⟨CB,1,none⟩=some (aA T)) (first | go_keep | ((refine⟨?_, ?_, ?_, ?_⟩) <;> (repeat (first | assumption | refine XF (by intro e;injection e with e1 e2;(try simp only [World.size_drew] at e1);omega) ?_))))
   (first
    | (go_at_call 167;(with_reducible refine(HPx.out _ (aT HB3.out Xo.out)).mono ?_);rintro e w1 ⟨rfl,hb1⟩;have Cv:=zq (aT Xo.out hb1);have sx:=Cv.out.size;have m0:=bV Cv.out g0;have m1:=bV Cv.out g1;have m2:=bV Cv.out c0;have m3:=bV Cv.out c1)
    | (go_at_call 167;(with_reducible refine(HPx.out _ (aT HB3.out HWa.out)).mono ?_);rintro e w1 ⟨rfl,hb1⟩;have Cv:=zq (aT HWa.out hb1);have sx:=Cv.out.size;have Hq:=zq (HNq.out.below hb1 HNq.out.lt);obtain⟨z0,z1,z2,z3,lq⟩:=Hq.out.two;have m0:=bV Cv.out g0;have m1:=bV Cv.out g1;have m2:=bV Cv.out c0;have m3:=bV Cv.out c1)
    | (go_at_call 167;(with_reducible refine(HPy.out _ (aT HB3.out Cv.out)).mono ?_);rintro e w2 ⟨rfl,hb2⟩;have XG:=zq (aT Cv.out hb2);have sy:=XG.out.size;(first | (have OX:=zq (Hq.out.below hb2 Hq.out.lt);obtain⟨y0,y1,y2,y3,lq2⟩:=OX.out.two) | skip);have m0:=bV XG.out g0;have m1:=bV XG.out g1;have m2:=bV XG.out c0;have m3:=bV XG.out c1)
    | (go_at_call 167;(with_reducible refine(HPy.out _ (aT HB3.out (Cv.out.alloc Cv.out.size (aL #[aF aG 0,aF aG 0] 146)))).mono ?_);rintro e w2 ⟨rfl,hb2⟩;have XG:=zq (aT (Cv.out.alloc Cv.out.size (aL #[aF aG 0,aF aG 0] 146)) hb2);have OX:=zq ((bZ.new w1 #[aF aG 0,aF aG 0] 146).below hb2 (bZ.new w1 _ _).lt);obtain⟨y0,y1,y2,y3,lq2⟩:=OX.out.two;have m0:=bV XG.out g0;have m1:=bV XG.out g1;have m2:=bV XG.out c0;have m3:=bV XG.out c1)
    | fail)
  all_goals
   go_wp2;go_meet;case rel=>
    first
     | exact⟨_,rfl,bZ.new w2 _ _,XG.out.alloc XG.out.size _⟩
     | exact⟨_,rfl,(OX.out.set 0 _).set 1 _,(XG.out.setCell (p:=⟨w1.heap.size,0,none⟩) Cv.out.size _).setCell (p:=⟨w1.heap.size,1,none⟩) Cv.out.size _⟩
     | exact⟨_,rfl,(OX.out.set 0 _).set 1 _,(XG.out.setCell (p:=⟨W3.heap.size,0,none⟩) (aD _) _).setCell (p:=⟨W3.heap.size,1,none⟩) (aD _) _⟩
     | fail
 case rest=>
 obtain⟨q,rfl,HQs,FJ⟩:=hcut;have HG4:=zq (HG3.out.below FJ.out);have HF4:=zq (HF3.out.below FJ.out HF3.out.lt);have HQ4:=zq (HQ3.out.below FJ.out HQ3.out.lt);have vG:=zq (aT HB3.out FJ.out);clear HG3 HF3 HQ3 HB3 FJ HC3 Xo HWa HNq g0 g1 lG c0 c1 lC;obtain⟨g0,g1, -, -, -⟩:=HG4.out.cells;obtain⟨-, -,p2⟩:=HQ4.out.three;have f0:=HF4.out.cell 0;simp only [bJ,bD] at f0;cases uM;all_goals
  go_wp2_with fail
  first
   | (with_reducible refine(HPx.out _ vG.out).mono ?_)
   | (with_reducible refine(HPy.out _ vG.out).mono ?_)
  rintro e W5 ⟨rfl,hb5⟩;have wV:=zq (aT vG.out hb5);have HF5:=zq (HF4.out.below hb5 HF4.out.lt);have HQs5:=zq (HQs.out.below hb5 HQs.out.lt);clear hb5 g0 g1 p2 f0 vG HF4 HQ4 HG4 HQs HPx HPy;obtain⟨s0,s1, -, -, -⟩:=HQs5.out.two;have f0:=HF5.out.cell 0;simp only [bJ,bD] at f0;go_wp2;go_loopw [12] (fun _ wr=> wr=W5) (fun _ _=> 0);case atStart=> rfl
  case round=>
   obtain rfl:=hrel;go_wp2_with fail
   refine(HLa.out _ _).mono ?_;rintro e W6 ⟨rfl,hb6⟩;have pF:=zq (aT wV.out hb6);clear hb6;go_wp2;go_end0;exact⟨⟨_,rfl⟩,pF.out⟩
theorem mh(G:Nat)(a b:Option Addr)(ca cb:Nat)(w:aE)(hg:Ih w G (aB a 1 ca) (aB b 1 cb)):
 aQ aC 108 #[cB (some ⟨G,0,none⟩)] w fun e w'=>(∃v,e=aO v)∧aJ w.heap.size w w':=by
 obtain⟨g0,g1,-,-,lG⟩:=hg.cells;clear hg;go_enter func108,ntmps108;go_wp2;go_loop [12] (fun i=>i=aF aG 0) (fun _=>0);case atStart=>rfl
 case round=>
  obtain rfl:=hrel;go_wp2;go_end0;exact⟨⟨_,rfl⟩,aI _ _⟩
theorem mi(w:aE)(tc:Array bB):∃W0,((((((w.alloc (aL tc 58)).alloc (.map #[] 0)).alloc (.map #[] 0)).alloc (.map #[] 0)).alloc
 (aL #[aB none 0 0,aB none 0 0,.map (some (w.heap.size+1)),.map (some (w.heap.size+1+1)),.map (some (w.heap.size+1+1+1))] 135)))=W0∧
 bZ W0 w.heap.size tc 58∧Ih W0 (w.heap.size+1+1+1+1) (aB none 0 0) (aB none 0 0)∧aJ w.heap.size w W0:=by
 have m (W:aE) (o:Obj):(W.alloc o).heap[W.heap.size]? =some o:=heap_alloc_new W o;have k (W:aE) (o:Obj) (b:Nat) (u:Obj) (h:W.heap[b]? =some u):(W.alloc o).heap[b]? =some u:=(Kr W o b (Array.getElem?_eq_some_iff.1 h).1).trans h;refine⟨_,rfl,?_,?_,?_⟩
 ·exact((((bZ.new w _ _).alloc _).alloc _).alloc _).alloc _
 ·refine⟨w.heap.size+1,w.heap.size+1+1,w.heap.size+1+1+1,?_,⟨0,?_⟩,⟨0,?_⟩,⟨0,?_⟩⟩
  ·have:=bZ.new ((((w.alloc (aL tc 58)).alloc (.map #[] 0)).alloc (.map #[] 0)).alloc (.map #[] 0)) #[aB none 0 0,aB none 0 0,.map (some (w.heap.size+1)),.map (some (w.heap.size+1+1)),.map (some (w.heap.size+1+1+1))] 135;rwa[aS,aS,aS,aS]at this
  ·have:=m (w.alloc (aL tc 58)) (.map #[] 0);rw[aS]at this;exact k _ _ _ _ (k _ _ _ _ (k _ _ _ _ this))
  ·have:=m ((w.alloc (aL tc 58)).alloc (.map #[] 0)) (.map #[] 0);rw[aS,aS]at this;exact k _ _ _ _ (k _ _ _ _ this)
  ·have:=m (((w.alloc (aL tc 58)).alloc (.map #[] 0)).alloc (.map #[] 0)) (.map #[] 0);rw[aS,aS,aS]at this;exact k _ _ _ _ this
 ·exact(((((aI _ w).alloc (aD _) _).alloc (by simp) _).alloc (by simp <;>omega) _).alloc (by simp <;>omega) _).alloc (by simp <;>omega) _
theorem S9(t:List UInt8):B8 (bY 4 t).toArray 4=[t]:=by
 simp[B8,keeps,List.range,List.range.loop,bY]
theorem Mp(t:List UInt8)(n:Nat):strs (bY n t)=bY n (aA (bs t)):=by simp[strs]
theorem rep_of{t:List UInt8}{n:Nat}(hn:0<n){ds:List (List UInt8)}(hl:ds.length=n)(h:∀z,z∈ds↔z∈bY n t):ds=bY n t:=by
 apply List.eq_replicate_iff.2;exact⟨hl,fun b hb=>nY ((h b).1 hb)⟩
theorem Zy(B g c:Nat)(t:List UInt8)(w W:aE)(hE:eZ w)(hW:aJ w.heap.size w W)(hb:w.heap.size≤B)(ht:t.length≤8000000)(ho:W.ownsRow B 24 1 (aB (some ⟨g,0,none⟩) 4 c) 4 (bY 4 (aA (bs t)))):
 aQ aC 105 #[aB (some ⟨g,0,none⟩) 4 c,.func (.func 38) #[] #[]] W fun e w'=>(∃v,e=aO v)∧w'.ownsRow B 24 1 (aB (some ⟨g,0,none⟩) 4 c) 4 (bY 4 (aA (bs t)))∧W.grownBy w' (some g):=by
 refine(Mn 38 (enters_of func38 (by kernel_rfl) rfl) (fun x y V hV hx hy=>?_) B g 4 c (bY 4 t) w W hE hW hb (by omega) (by simp) (fun s hs=>by rw[nY hs];exact ht) (by rw[Mp];exact ho)).mono ?_
 ·refine(rX (bs x) (bs y) V hV (by rw[bU];exact hx) (by rw[bU];exact hy)).mono ?_;rintro e w'⟨h1,h2⟩;exact⟨⟨_,h1⟩,h2⟩
 ·rintro e w'⟨hv,ds',h1,h2,h3,h4⟩;rw[rep_of (by decide) h1 h2,Mp]at h3;exact⟨hv,h3,h4⟩
theorem PQ(B g c:Nat)(t:List UInt8)(W:aE)(ho:W.ownsRow B 24 1 (aB (some ⟨g,0,none⟩) 4 c) 4 (bY 4 (aA (bs t)))):
 aQ aC 106 #[aB (some ⟨g,0,none⟩) 4 c] W fun e w'=>e=aO (aB (some ⟨g,0,none⟩) 1 c)∧w'.cell? ⟨g,0,none⟩=some (aA (bs t))∧W.grownBy w' (some g):=by
 refine(Mo B g 4 c (bY 4 t) W (by omega) (by simp) (by rw[Mp];exact ho)).mono ?_;rintro e w'⟨L,hL,he,-,-,hr,hg⟩;rw[S9]at hL;subst hL;refine⟨he,?_,hg⟩;obtain⟨b,off,e1,h⟩:=hr 0 (by simp[strs]);injection e1 with e1;injection e1 with e1 e2;subst e1 e2;exact h
structure ci(w0:aE)(TB:Nat)(tc:Array bB)(B G A:Nat)(W:aE)(vx vy:bB):Prop where
 grd:Ih W G vx vy
 arr:bZ W A #[cB (some ⟨G,0,none⟩),cB (some ⟨G,1,none⟩)] 136
 tr:bZ W TB tc 58
 bel:aJ w0.heap.size w0 W
 bs:B≤W.heap.size
 hb:w0.heap.size≤B
section
variable{w0:aE}{TB:Nat}{tc:Array bB}{B G A:Nat}{W W':aE}{vx vy:bB}
theorem ci.grown(h:ci w0 TB tc B G A W vx vy){v:bB}{n:Nat}{xs:List bB}(ho:W.ownsRow B 24 1 v n xs)(hg:W.grownBy W' v.ownBlock):ci w0 TB tc B G A W' vx vy:=
 ⟨h.grd.grown ho (by decide) hg,qM h.arr hg (mY h.arr ho (by decide)),qM h.tr hg (mY h.tr ho (by decide)),dB h.bel hg ho h.hb h.bel.size,cC h.bs hg.size,h.hb⟩
theorem ci.set(h:ci w0 TB tc B G A W vx vy)(hG:w0.heap.size≤G)(v:bB):ci w0 TB tc B G A (W.setCell ⟨G,0,none⟩ v) v vy∧ci w0 TB tc B G A (W.setCell ⟨G,1,none⟩ v) vx v:=by
 obtain⟨m2,m3,m4,Zx,-⟩:=h.grd;have n1:A≠G:=BU h.arr Zx (by decide);have n2:TB≠G:=BU h.tr Zx (by decide);exact⟨⟨(h.grd.set v).1,h.arr.other v n1,h.tr.other v n2,h.bel.setCell (p:=⟨G,0,none⟩) hG v,by rw[mO];exact h.bs,h.hb⟩,
  ⟨(h.grd.set v).2,h.arr.other v n1,h.tr.other v n2,h.bel.setCell (p:=⟨G,1,none⟩) hG v,by rw[mO];exact h.bs,h.hb⟩⟩
end
theorem Fp{W:aE}{G base n:Nat}{vx vy v:bB}{xs:List bB}(h:Ih W G vx vy)(ho:W.ownsRow base 24 1 v n xs):some G≠v.ownBlock:=by
 obtain⟨m2,m3,m4,Zx,-⟩:=h;exact mY Zx ho (by decide)
theorem VJ (a b2 bl:Option Addr) (nf ca c2 cl:Nat) (fs:List Fr) (at' :List (List UInt8)) (l:Lp) (t:List UInt8) (w:aE) (hE:eZ w)
 (hf:fs.length=nf) (hl:at'.length=nf) (kN:l.ps.length=4)
 (hpt:∀ j,j < 4→∃ s:Nat,(l.ps.getD j default).side=s∧s < nf∧iH fs at' (l.ps.getD j default)=⟨t,t⟩∧(l.ps.getD j default).en=t)
 (ht:t.length≤8000000) (h0:(gY t t).1=0) (rf:wP w a fs) (ra:xO w b2 at') (rl:zP w bl [l]) :
 aQ aC 57 #[dM #[aB a nf ca,aB b2 nf c2],aB bl 1 cl] w fun e w' => (∃ G xa ya cx cy,e=aO (cB (some ⟨G,0,none⟩))∧Ih w' G (aB xa 1 cx) (aB ya 1 cy))∧aJ w.heap.size w w' :=by
 have mj:= @run_makeMap aC
 have lw:aY (∀ j,j < 4→∀ W,aJ w.heap.size w W→aQ aC 25 #[dM #[aB a nf ca,aB b2 nf c2],(l.ps.getD j default).v] W (Rt (dM #[aA (bs t),aA (bs t)]) W)):=fun j hj W hW=> by
  obtain⟨s,h1,h2,h3, -⟩:=hpt j hj
  have:=IQ a b2 nf ca c2 fs at' _ s W h1 h2 hf hl (rf.below hW) (ra.below hW)
  rwa [h3] at this
 have HLay:aY (∀ j,j < 4→∀ W G xb yb cx cy,aJ w.heap.size w W→Ih W G (aB (some ⟨xb,0,none⟩) 1 cx) (aB (some ⟨yb,0,none⟩) 1 cy)→W.cell? ⟨xb,0,none⟩=some (aA (bs t))→W.cell? ⟨yb,0,none⟩=some (aA (bs t))→
  aQ aC 107 #[dM #[aB a nf ca,aB b2 nf c2],cB (some ⟨G,0,none⟩),(l.ps.getD j default).v] W fun e w' => (∃ v,e=aO v)∧aJ W.heap.size W w'):=fun j hj W G xb yb cx cy hW hg hx hy=> by
  obtain⟨s,h1,h2,h3,h4⟩:=hpt j hj
  exact lay_pt a b2 nf ca c2 fs at' _ s G xb yb 0 0 cx cy t W (hE.below hW) h1 h2 hf hl (rf.below hW) (ra.below hW) h3 h4 ht h0 hg hx hy
 have HLs:aY (∀ W,aJ w.heap.size w W→zP W bl [l]):=fun W hW=> rl.below hW
 have HSo:aY (∀ B g c W,w.heap.size≤B→aJ w.heap.size w W→W.ownsRow B 24 1 (aB (some ⟨g,0,none⟩) 4 c) 4 (bY 4 (aA (bs t)))→
  aQ aC 105 #[aB (some ⟨g,0,none⟩) 4 c, .func (.func 38) #[] #[]] W fun e w' => (∃ v,e=aO v)∧w'.ownsRow B 24 1 (aB (some ⟨g,0,none⟩) 4 c) 4 (bY 4 (aA (bs t)))∧W.grownBy w' (some g)):=
  fun B g c W hb hW ho=> Zy B g c t w W hE hW hb ht ho
 have HCm:aY (∀ B g c W,W.ownsRow B 24 1 (aB (some ⟨g,0,none⟩) 4 c) 4 (bY 4 (aA (bs t)))→
  aQ aC 106 #[aB (some ⟨g,0,none⟩) 4 c] W fun e w' => e=aO (aB (some ⟨g,0,none⟩) 1 c)∧w'.cell? ⟨g,0,none⟩=some (aA (bs t))∧W.grownBy w' (some g)):=
  fun B g c W ho=> PQ B g c t W ho
 have Ht:=zq ht
 have YA:=zq kN
 clear hE hf hl hpt ht h0 rf ra kN
 generalize bs t=T at *
 obtain⟨W0,iU,hT0,Zx,fP⟩:=mi w #[aB a nf ca,aB b2 nf c2]
 have HT0:=zq hT0
 have HG0:=zq Zx
 have mE:=zq fP
 have HwG:aY (w.heap.size≤w.heap.size + 1 + 1 + 1 + 1):=by show _≤_;omega
 have HX0:aY (GV W0.heap.size W0 (w.heap.size + 1 + 1 + 1 + 1) T 0):=⟨_,_,Zx,I5 ..,I5 .., .inl rfl⟩
 have HwB:aY (w.heap.size≤W0.heap.size):=fP.size
 clear hT0 Zx fP
 go_enter func57,ntmps57
 go_upto_if 22 with (fail)
 try rw [iU]
 clear iU
 generalize w.heap.size + 1 + 1 + 1 + 1=G at *
 generalize hTBw:w.heap.size=TB at HT0 ⊢
 obtain⟨B,hB⟩:∃ B,W0.heap.size=B:=⟨_,rfl⟩
 have HBs0:aY (B≤W0.heap.size):=by rw [← hB];exact aD _
 rw [hB] at HX0 HwB
 clear hB
 go_loopw [24] (fun i wr=> (∃ q:Nat,q≤1∧i=aF aG (q:Int)∧aY (GV B wr G T (q * 4)))∧aY (bZ wr TB #[aB a nf ca,aB b2 nf c2] 58)∧aY (aJ w.heap.size w wr)∧aY (B≤wr.heap.size)) (fun i _=> 1 - (aK i).toNat)
 case atStart=> exact⟨⟨0,by omega,rfl,HX0⟩,HT0,mE,HBs0⟩
 case round=>
  clear HX0 HT0 HG0 mE HBs0
  obtain⟨⟨q,hq,rfl,HX⟩,HT,HB,HBs⟩:=hrel
  rename aE=> wo
  by_cases hq1:q < 1
  ·obtain⟨lb,lo,rfl,l0, -⟩:=(HLs.out _ HB.out).at (i:=q) (by simpa using hq1) rfl
   have e5: [l].getD q default=l:=by have h:q=0:=(by omega);subst h;rfl
   rw [e5,YA.out] at l0
   have HX' :aY (GV B wo G T 0):=by have:=HX.out;rw [show q * 4=0 by omega] at this;exact this
   have hqI:(q:Int) < 1:=by omega
   have q0:(0:Int)≤(q:Int):=by omega
   have Hq1:=zq hq1
   clear e5 hq1 hq
   go_wp2
   go_loopw [30] (fun i wr=> (∃ k:Nat,k≤4∧i=aF aG (k:Int)∧aY (GV B wr G T k))∧aY (bZ wr TB #[aB a nf ca,aB b2 nf c2] 58)∧aY (aJ w.heap.size w wr)∧aY (B≤wr.heap.size)) (fun i _=> 4 - (aK i).toNat)
   case atStart=> exact⟨⟨0,by omega,rfl,HX'⟩,HT,HB,HBs⟩
   case round=>
    clear HX HX' HT HB HBs
    obtain⟨⟨k,hk,rfl,HX⟩,HT,HB,HBs⟩:=hrel
    rename aE=> wi
    by_cases hlt:k < 4
    ·obtain⟨lb',lo',hla, -,rp⟩:=(HLs.out _ HB.out).at (i:=0) (by simp) rfl
     have rp:Fg wi l.a l.ps:=rp
     obtain⟨pb,po,hpa,d0,d1,d2⟩:=rp.at (i:=k) (by rw [YA.out];exact hlt) rfl
     have Cm:=zq (lw.out k hlt)
     rw [hpa]
     clear hla rp hpa
     generalize l.ps.getD k default=p at *
     obtain⟨sd,pf,pe⟩:=p
     unfold Pt.v Pt.cells at Cm
     simp only [] at *
     have Xp:(k:Int) < 4:=by omega
     have k0:(0:Int)≤(k:Int):=by omega
     obtain⟨t0,t1, -, -,lT⟩:=HT.out.two
     go_wp2_with fail
     refine(Cm.out _ (HB.out.alloc HB.out.size _)).mono ?_
     rintro e W2 ⟨rfl,hb2⟩
     have hb:aJ wi.heap.size wi W2:=((aI _ wi).alloc (aD _) _).trans (hb2.mono (by simp))
     have hX2:=HX.out.below hb
     have MP:=zq (HT.out.below hb HT.out.lt)
     have gD:=zq (aT HB.out hb)
     have HBs2:aY (B≤W2.heap.size):=cC HBs.out hb.size
     clear hb hb2 d0 d1 d2 t0 t1 lT HX HT HB HBs Cm
     obtain⟨vx,vy,hG,ew,tx,Ta⟩:=hX2
     obtain⟨ax,cx,rfl⟩:=Om ew
     obtain⟨ay,cy,rfl⟩:=Om tx
     obtain⟨W9,hW9⟩:∃ V,W2.alloc (aL #[aA T,aA T] 56)=V:=⟨_,rfl⟩
     have hb:aJ W2.heap.size W2 W9:=by rw [← hW9];exact(aI _ _).alloc (aD _) _
     obtain⟨C,hC⟩:∃ C,W2.heap.size=C:=⟨_,rfl⟩
     have HR0:aY (R9 w TB #[aB a nf ca,aB b2 nf c2] B G C T W9.drew (aB ax k cx) (aB ay k cy) (aB ax k cx) (aB ay k cy) k k):=by
      have hp:bZ W9 C #[aA T,aA T] 56:=by rw [← hW9,← hC];exact bZ.new _ _ _
      have r9:R9 w TB #[aB a nf ca,aB b2 nf c2] B G C T W9 (aB ax k cx) (aB ay k cy) (aB ax k cx) (aB ay k cy) k k:=
       ⟨hG.below hb,hp,MP.out.below hb MP.out.lt,cT ew hb,cT tx hb,Ta,aT gD.out hb,cC HBs2.out hb.size,HwB.out⟩
      exact r9.below (aI _ _).drew
     clear hb hG ew tx Ta MP gD HBs2
     go_upto_region 9 with (fail)
     try rw [hW9]
     try rw [hC]
     clear hW9 hC
     clear mj
     refine IU (st:=fun L=> L.getD 20 false) (S:=(fun w' => w'.cell? ⟨G,0,none⟩=some (aB ax k cx)∧w'.cell? ⟨G,1,none⟩=some (aB ay k cy)∧w'.cell? ⟨C,0,none⟩=some (aA T)∧w'.cell? ⟨C,1,none⟩=some (aA T))) (by kernel_rfl) HR0.out.cells (fun hL hS=> ?_)
     obtain⟨Wd,hWd⟩:∃ V,W9.drew=V:=⟨_,rfl⟩
     rw [hWd] at hS HR0 ⊢
     clear hWd
     refine fL (i:=0) (v:= ?_) (S' :=fun _=> True) rfl (by kernel_rfl) (by kernel_rfl) (by kernel_rfl) (fun _ _ _ h=> h) (fun _ _ _ _ _=> trivial) (fun _=> getD_set_ne false (by decide)) hL (sB ⟨by kernel_rfl, ?_⟩) (fun _=> hS) ?_
     rotate_left
     focus (intro w Cj;(try dsimp only at Cj);go_simp;(first | done | with_reducible rfl))
     clear hL;intro hL
     try simp only [eC,bC,bA,aZ,aU,bK,bG] at hL ⊢
     refine fL (i:=1) (v:= ?_) (S' :=fun _=> True) rfl (by kernel_rfl) (by kernel_rfl) (by kernel_rfl) (fun _ _ _ h=> h) (fun _ _ _ _ _=> trivial) (fun _=> getD_set_ne false (by decide)) hL (sB ⟨by kernel_rfl, ?_⟩) (fun _=> hS) ?_
     rotate_left
     focus (intro w Cj;(try dsimp only at Cj);go_simp;(first | done | with_reducible rfl))
     clear hL;intro hL
     try simp only [eC,bC,bA,aZ,aU,bK,bG] at hL ⊢
     refine fL (i:=2) (v:= ?_) (S' :=fun _=> True) rfl (by kernel_rfl) (by kernel_rfl) (by kernel_rfl) (fun _ _ _ h=> h) (fun _ _ _ _ _=> trivial) (fun _=> getD_set_ne false (by decide)) hL (sB ⟨by kernel_rfl, ?_⟩) (fun _=> hS) ?_
     rotate_left
     focus (intro w Cj;(try dsimp only at Cj);go_simp;(first | done | with_reducible rfl))
     clear hL;intro hL
     try simp only [eC,bC,bA,aZ,aU,bK,bG] at hL ⊢
     refine fL (i:=3) (v:= ?_) (S' :=fun _=> True) rfl (by kernel_rfl) (by kernel_rfl) (by kernel_rfl) (fun _ _ _ h=> h) (fun _ _ _ _ _=> trivial) (fun _=> getD_set_ne false (by decide)) hL (sB ⟨by kernel_rfl, ?_⟩) (fun _=> hS) ?_
     rotate_left
     focus (intro w Cj;(try dsimp only at Cj);go_simp;(first | done | with_reducible rfl))
     clear hL;intro hL
     try simp only [eC,bC,bA,aZ,aU,bK,bG] at hL ⊢
     refine fL (i:=4) (v:= ?_) (S' :=fun _=> True) rfl (by kernel_rfl) (by kernel_rfl) (by kernel_rfl) (fun _ _ _ h=> h) (fun _ _ _ _ _=> trivial) (fun _=> getD_set_ne false (by decide)) hL (sB ⟨by kernel_rfl, ?_⟩) (fun _=> hS) ?_
     rotate_left
     focus (intro w Cj;(try dsimp only at Cj);go_simp;(first | done | with_reducible rfl))
     clear hL;intro hL
     try simp only [eC,bC,bA,aZ,aU,bK,bG] at hL ⊢
     refine fL (i:=5) (v:= ?_) (S' :=(fun w' => w'.cell? ⟨G,0,none⟩=some (aB ax k cx)∧w'.cell? ⟨G,1,none⟩=some (aB ay k cy)∧w'.cell? ⟨C,0,none⟩=some (aA T)∧w'.cell? ⟨C,1,none⟩=some (aA T))) rfl (by kernel_rfl) (by kernel_rfl) (by kernel_rfl) (fun _ _ _ h=> h) (fun L w h1 h2 h3=> h3 (h1.up (j:=20) (k:=5) (by kernel_rfl) h2)) (fun _=> getD_set_ne false (by decide)) hL (sB ⟨by kernel_rfl, ?_⟩) (fun _=> hS) ?_
     rotate_left
     focus (intro w Cj;(try dsimp only at Cj);go_simp;(first | done | with_reducible rfl))
     clear hL;intro hL
     try simp only [eC,bC,bA,aZ,aU,bK,bG] at hL ⊢
     refine fL (i:=6) (v:= ?_) (S' :=fun _=> True) rfl (by kernel_rfl) (by kernel_rfl) (by kernel_rfl) (fun _ _ _ h=> h) (fun _ _ _ _ _=> trivial) (fun _=> getD_set_ne false (by decide)) hL (sB ⟨by kernel_rfl, ?_⟩) (fun _=> hS) ?_
     rotate_left
     focus (intro w Cj;(try dsimp only at Cj);go_simp;(first | done | with_reducible rfl))
     clear hL;intro hL
     try simp only [eC,bC,bA,aZ,aU,bK,bG] at hL ⊢
     refine fL (i:=7) (v:= ?_) (S' :=(fun w' => w'.cell? ⟨G,0,none⟩=some (aB ax k cx)∧w'.cell? ⟨G,1,none⟩=some (aB ay k cy)∧w'.cell? ⟨C,0,none⟩=some (aA T)∧w'.cell? ⟨C,1,none⟩=some (aA T))) rfl (by kernel_rfl) (by kernel_rfl) (by kernel_rfl) (fun _ _ _ h=> h) (fun L w h1 h2 h3=> h3 (h1.up (j:=20) (k:=7) (by kernel_rfl) h2)) (fun _=> getD_set_ne false (by decide)) hL (sB ⟨by kernel_rfl, ?_⟩) (fun _=> hS) ?_
     rotate_left
     focus (intro w Cj;(try dsimp only at Cj);go_simp;(first | done | with_reducible rfl))
     clear hL;intro hL
     try simp only [eC,bC,bA,aZ,aU,bK,bG] at hL ⊢
     refine fL (i:=10) (v:= ?_) (S' :=fun _=> True) rfl (by kernel_rfl) (by kernel_rfl) (by kernel_rfl) (fun _ _ _ h=> h) (fun _ _ _ _ _=> trivial) (fun _=> getD_set_ne false (by decide)) hL (sB ⟨by kernel_rfl, ?_⟩) (fun _=> hS) ?_
     rotate_left
     focus (intro w Cj;(try dsimp only at Cj);go_simp;(first | done | with_reducible rfl))
     clear hL;intro hL
     try simp only [eC,bC,bA,aZ,aU,bK,bG] at hL ⊢
     refine fL (i:=11) (v:= ?_) (S' :=fun _=> True) rfl (by kernel_rfl) (by kernel_rfl) (by kernel_rfl) (fun _ _ _ h=> h) (fun _ _ _ _ _=> trivial) (fun _=> getD_set_ne false (by decide)) hL (sB ⟨by kernel_rfl, ?_⟩) (fun _=> hS) ?_
     rotate_left
     focus (intro w Cj;(try dsimp only at Cj);go_simp;(first | done | with_reducible rfl))
     clear hL;intro hL
     try simp only [eC,bC,bA,aZ,aU,bK,bG] at hL ⊢
     refine fL (i:=12) (v:= ?_) (S' :=fun _=> True) rfl (by kernel_rfl) (by kernel_rfl) (by kernel_rfl) (fun _ _ _ h=> h) (fun _ _ _ _ _=> trivial) (fun _=> getD_set_ne false (by decide)) hL (sB ⟨by kernel_rfl, ?_⟩) (fun _=> hS) ?_
     rotate_left
     focus (intro w Cj;(try dsimp only at Cj);go_simp;(first | done | with_reducible rfl))
     clear hL;intro hL
     try simp only [eC,bC,bA,aZ,aU,bK,bG] at hL ⊢
     refine fL (i:=13) (v:= ?_) (S' :=(fun w' => w'.cell? ⟨G,0,none⟩=some (aB ax k cx)∧w'.cell? ⟨G,1,none⟩=some (aB ay k cy)∧w'.cell? ⟨C,0,none⟩=some (aA T)∧w'.cell? ⟨C,1,none⟩=some (aA T))) rfl (by kernel_rfl) (by kernel_rfl) (by kernel_rfl) (fun _ _ _ h=> h) (fun L w h1 h2 h3=> h3 (h1.up (j:=20) (k:=13) (by kernel_rfl) h2)) (fun _=> getD_set_ne false (by decide)) hL (sB ⟨by kernel_rfl, ?_⟩) (fun _=> hS) ?_
     rotate_left
     focus (intro w Cj;(try dsimp only at Cj);go_simp;(first | done | with_reducible rfl))
     clear hL;intro hL
     try simp only [eC,bC,bA,aZ,aU,bK,bG] at hL ⊢
     refine fL (i:=14) (v:= ?_) (S' :=fun _=> True) rfl (by kernel_rfl) (by kernel_rfl) (by kernel_rfl) (fun _ _ _ h=> h) (fun _ _ _ _ _=> trivial) (fun _=> getD_set_ne false (by decide)) hL (sB ⟨by kernel_rfl, ?_⟩) (fun _=> hS) ?_
     rotate_left
     focus (intro w Cj;(try dsimp only at Cj);go_simp;(first | done | with_reducible rfl))
     clear hL;intro hL
     try simp only [eC,bC,bA,aZ,aU,bK,bG] at hL ⊢
     refine fL (i:=15) (v:= ?_) (S' :=(fun w' => w'.cell? ⟨G,0,none⟩=some (aB ax k cx)∧w'.cell? ⟨G,1,none⟩=some (aB ay k cy)∧w'.cell? ⟨C,0,none⟩=some (aA T)∧w'.cell? ⟨C,1,none⟩=some (aA T))) rfl (by kernel_rfl) (by kernel_rfl) (by kernel_rfl) (fun _ _ _ h=> h) (fun L w h1 h2 h3=> h3 (h1.up (j:=20) (k:=17) (by kernel_rfl) (h1.up (j:=17) (k:=16) (by kernel_rfl) (h1.up (j:=16) (k:=15) (by kernel_rfl) h2)))) (fun _=> getD_set_ne false (by decide)) hL (sB ⟨by kernel_rfl, ?_⟩) (fun _=> hS) ?_
     rotate_left
     focus (intro w Cj;(try dsimp only at Cj);go_simp;(first | done | with_reducible rfl))
     clear hL;intro hL
     try simp only [eC,bC,bA,aZ,aU,bK,bG] at hL ⊢
     refine iV (rs:= [8,16]) (by kernel_rfl) (by simp) hL ?_
     refine sX.cons rfl (fun hL K hK=> ?_) (sX.cons rfl (fun hL K hK=> ?_) sX.nil)
     focus
      go_simp
      show K _ _
      obtain⟨V1,hW⟩:∃ V,Wd.alloc (aL #[aA T] 24)=V:=⟨_,rfl⟩
      rw [hW]
      have hb:aJ Wd.heap.size Wd V1:=by rw [← hW];exact(aI _ _).alloc (aD _) _
      have If:=zq (HR0.out.below hb)
      have ml:aY (bZ V1 Wd.heap.size #[aA T] 24):=by rw [← hW];exact bZ.new _ _ _
      clear hb hW
      refine hK.out _ _ (fun _=> If.out.cells) ?_
      clear hK K hS
      have hS:=If.out.cells
      try simp only [eC,bC,bA,aZ,aU,bK,bG] at hL ⊢
      refine iV (rs:= [9,16]) (by kernel_rfl) (by simp) hL ?_
      refine sX.cons rfl (fun hL K hK=> ?_) (sX.cons rfl (fun hL K hK=> ?_) sX.nil)
      focus
       refine A5 (by rfl) _ _ (by rfl) B (aB ax k cx) k _ (by rfl) If.out.ox Wd.heap.size T (by rfl) ml.out (by omega) If.out.bs ?_
       intro gx capx V2 hown PR Fo
       have AC:=zq (If.out.appX hown PR Fo)
       clear hown PR Fo
       show K _ _
       refine hK.out _ _ (fun _=> AC.out.cells) ?_
       clear hK K hS
       have hS:=AC.out.cells
       try simp only [eC,bC,bA,aZ,aU,bK,bG] at hL ⊢
       refine iV (rs:= [16]) (by kernel_rfl) (by simp) hL ?_
       refine sX.cons rfl (fun hL K hK=> ?_) sX.nil
       go_simp
       show K _ _
       obtain⟨V3,hW⟩:∃ V,V2.alloc (aL #[aA T] 24)=V:=⟨_,rfl⟩
       rw [hW]
       have hb:aJ V2.heap.size V2 V3:=by rw [← hW];exact(aI _ _).alloc (aD _) _
       have Fe:=zq (AC.out.below hb)
       have cj:aY (bZ V3 V2.heap.size #[aA T] 24):=by rw [← hW];exact bZ.new _ _ _
       have HFy:=zq AC.out.freshX
       clear hb hW
       refine hK.out _ _ (fun _=> Fe.out.cells) ?_
       clear hK K hS
       have hS:=Fe.out.cells
       try simp only [eC,bC,bA,aZ,aU,bK,bG] at hL ⊢
       refine iV (rs:= [17]) (by kernel_rfl) (by simp) hL ?_
       refine sX.cons rfl (fun hL K hK=> ?_) sX.nil
       refine A5 (by rfl) _ _ (by rfl) B (aB ay k cy) k _ (by rfl) Fe.out.oy V2.heap.size T (by rfl) cj.out (by omega) Fe.out.bs ?_
       intro gy capy W5 hown PR Fo
       have ua:=zq (Fe.out.appY hown PR Fo)
       clear hown PR Fo
       show K _ _
       refine hK.out _ _ (fun _=> ua.out.cells) ?_
       clear hK K hS
       have hS:=ua.out.cells
       try simp only [eC,bC,bA,aZ,aU,bK,bG] at hL ⊢
      rotate_right
      focus
       go_simp
       show K _ _
       obtain⟨V2,hW⟩:∃ V,V1.alloc (aL #[aA T] 24)=V:=⟨_,rfl⟩
       rw [hW]
       have hb:aJ V1.heap.size V1 V2:=by rw [← hW];exact(aI _ _).alloc (aD _) _
       have AC:=zq (If.out.below hb)
       have cj:aY (bZ V2 V1.heap.size #[aA T] 24):=by rw [← hW];exact bZ.new _ _ _
       have HFy:=zq If.out.freshX
       have ml:=zq (ml.out.below hb ml.out.lt)
       clear hb hW
       refine hK.out _ _ (fun _=> AC.out.cells) ?_
       clear hK K hS
       have hS:=AC.out.cells
       try simp only [eC,bC,bA,aZ,aU,bK,bG] at hL ⊢
       refine iV (rs:= [9]) (by kernel_rfl) (by simp) hL ?_
       refine sX.cons rfl (fun hL K hK=> ?_) sX.nil
       refine A5 (by rfl) _ _ (by rfl) B (aB ax k cx) k _ (by rfl) AC.out.ox Wd.heap.size T (by rfl) ml.out (by omega) AC.out.bs ?_
       intro gx capx V3 hown PR Fo
       have Fe:=zq (AC.out.appX hown PR Fo)
       have cj:=zq (qM cj.out PR HFy.out)
       clear hown PR Fo
       show K _ _
       refine hK.out _ _ (fun _=> Fe.out.cells) ?_
       clear hK K hS
       have hS:=Fe.out.cells
       try simp only [eC,bC,bA,aZ,aU,bK,bG] at hL ⊢
       refine iV (rs:= [17]) (by kernel_rfl) (by simp) hL ?_
       refine sX.cons rfl (fun hL K hK=> ?_) sX.nil
       refine A5 (by rfl) _ _ (by rfl) B (aB ay k cy) k _ (by rfl) Fe.out.oy V1.heap.size T (by rfl) cj.out (by omega) Fe.out.bs ?_
       intro gy capy W5 hown PR Fo
       have ua:=zq (Fe.out.appY hown PR Fo)
       clear hown PR Fo
       show K _ _
       refine hK.out _ _ (fun _=> ua.out.cells) ?_
       clear hK K hS
       have hS:=ua.out.cells
       try simp only [eC,bC,bA,aZ,aU,bK,bG] at hL ⊢
     rotate_right
     focus
      go_simp
      show K _ _
      obtain⟨V1,hW⟩:∃ V,Wd.alloc (aL #[aA T] 24)=V:=⟨_,rfl⟩
      rw [hW]
      have hb:aJ Wd.heap.size Wd V1:=by rw [← hW];exact(aI _ _).alloc (aD _) _
      have If:=zq (HR0.out.below hb)
      have cj:aY (bZ V1 Wd.heap.size #[aA T] 24):=by rw [← hW];exact bZ.new _ _ _
      have HFy:=zq HR0.out.freshX
      clear hb hW
      refine hK.out _ _ (fun _=> If.out.cells) ?_
      clear hK K hS
      have hS:=If.out.cells
      try simp only [eC,bC,bA,aZ,aU,bK,bG] at hL ⊢
      refine iV (rs:= [8]) (by kernel_rfl) (by simp) hL ?_
      refine sX.cons rfl (fun hL K hK=> ?_) sX.nil
      go_simp
      show K _ _
      obtain⟨V2,hW⟩:∃ V,V1.alloc (aL #[aA T] 24)=V:=⟨_,rfl⟩
      rw [hW]
      have hb:aJ V1.heap.size V1 V2:=by rw [← hW];exact(aI _ _).alloc (aD _) _
      have AC:=zq (If.out.below hb)
      have ml:aY (bZ V2 V1.heap.size #[aA T] 24):=by rw [← hW];exact bZ.new _ _ _
      have cj:=zq (cj.out.below hb cj.out.lt)
      clear hb hW
      refine hK.out _ _ (fun _=> AC.out.cells) ?_
      clear hK K hS
      have hS:=AC.out.cells
      try simp only [eC,bC,bA,aZ,aU,bK,bG] at hL ⊢
      refine iV (rs:= [9]) (by kernel_rfl) (by simp) hL ?_
      refine sX.cons rfl (fun hL K hK=> ?_) sX.nil
      refine A5 (by rfl) _ _ (by rfl) B (aB ax k cx) k _ (by rfl) AC.out.ox V1.heap.size T (by rfl) ml.out (by omega) AC.out.bs ?_
      intro gx capx V3 hown PR Fo
      have Fe:=zq (AC.out.appX hown PR Fo)
      have cj:=zq (qM cj.out PR HFy.out)
      clear hown PR Fo
      show K _ _
      refine hK.out _ _ (fun _=> Fe.out.cells) ?_
      clear hK K hS
      have hS:=Fe.out.cells
      try simp only [eC,bC,bA,aZ,aU,bK,bG] at hL ⊢
      refine iV (rs:= [17]) (by kernel_rfl) (by simp) hL ?_
      refine sX.cons rfl (fun hL K hK=> ?_) sX.nil
      refine A5 (by rfl) _ _ (by rfl) B (aB ay k cy) k _ (by rfl) Fe.out.oy Wd.heap.size T (by rfl) cj.out (by omega) Fe.out.bs ?_
      intro gy capy W5 hown PR Fo
      have ua:=zq (Fe.out.appY hown PR Fo)
      clear hown PR Fo
      show K _ _
      refine hK.out _ _ (fun _=> ua.out.cells) ?_
      clear hK K hS
      have hS:=ua.out.cells
      try simp only [eC,bC,bA,aZ,aU,bK,bG] at hL ⊢
     all_goals
      refine fL (i:=18) (v:= ?_) (S' :=fun _=> True) rfl (by kernel_rfl) (by kernel_rfl) (by kernel_rfl) (fun _ _ _ h=> h) (fun _ _ _ _ _=> trivial) (fun _=> getD_set_ne false (by decide)) hL (sB ⟨by kernel_rfl, ?_⟩) (fun _=> hS) ?_
      rotate_left
      focus (intro w Cj;(try dsimp only at Cj);go_simp;(first | done | with_reducible rfl))
      clear hL;intro hL
      try simp only [eC,bC,bA,aZ,aU,bK,bG] at hL ⊢
      refine fL (i:=19) (v:= ?_) (S' :=fun _=> True) rfl (by kernel_rfl) (by kernel_rfl) (by kernel_rfl) (fun _ _ _ h=> h) (fun _ _ _ _ _=> trivial) (fun _=> getD_set_ne false (by decide)) hL (sB ⟨by kernel_rfl, ?_⟩) (fun _=> hS) ?_
      rotate_left
      focus (intro w Cj;(try dsimp only at Cj);go_simp;(first | done | with_reducible rfl))
      clear hL;intro hL
      try simp only [eC,bC,bA,aZ,aU,bK,bG] at hL ⊢
      obtain⟨g0,g1,z0,z1,lG⟩:=ua.out.grd.cells
      refine iV (rs:= [20]) (by kernel_rfl) (by simp) hL ?_
      refine sX.cons rfl (fun hL K hK=> ?_) sX.nil
      go_simp
      show K _ _
      obtain⟨W6,hW⟩:∃ V,W5.setCell ⟨G,0,none⟩ (aB (some ⟨gx,0,none⟩) (k + 1) capx)=V:=⟨_,rfl⟩
      rw [hW]
      have HR6:=zq (ua.out.set HwG.out (aB (some ⟨gx,0,none⟩) (k + 1) capx)).1
      rw [hW] at HR6
      refine hK.out _ _ (fun h=> absurd h (by decide)) ?_
      clear hK K hW g0 g1 z0 z1 lG
      try simp only [eC,bC,bA,aZ,aU,bK,bG] at hL ⊢
      refine fL (i:=21) (v:= ?_) (S' :=fun _=> True) rfl (by kernel_rfl) (by kernel_rfl) (by kernel_rfl) (fun _ _ _ h=> h) (fun _ _ _ _ _=> trivial) (fun _=> getD_set_ne false (by decide)) hL (sB ⟨by kernel_rfl, ?_⟩) (fun h=> absurd h (by decide)) ?_
      rotate_left
      focus (intro w Cj;(try dsimp only at Cj);go_simp;(first | done | with_reducible rfl))
      clear hL;intro hL
      try simp only [eC,bC,bA,aZ,aU,bK,bG] at hL ⊢
      refine fL (i:=22) (v:= ?_) (S' :=fun _=> True) rfl (by kernel_rfl) (by kernel_rfl) (by kernel_rfl) (fun _ _ _ h=> h) (fun _ _ _ _ _=> trivial) (fun _=> getD_set_ne false (by decide)) hL (sB ⟨by kernel_rfl, ?_⟩) (fun h=> absurd h (by decide)) ?_
      rotate_left
      focus (intro w Cj;(try dsimp only at Cj);go_simp;(first | done | with_reducible rfl))
      clear hL;intro hL
      try simp only [eC,bC,bA,aZ,aU,bK,bG] at hL ⊢
      obtain⟨g0,g1,z0,z1,lG⟩:=HR6.out.grd.cells
      refine iV (rs:= [23]) (by kernel_rfl) (by simp) hL ?_
      refine sX.cons rfl (fun hL K hK=> ?_) sX.nil
      go_simp
      show K _ _
      obtain⟨W7,hW⟩:∃ V,W6.setCell ⟨G,1,none⟩ (aB (some ⟨gy,0,none⟩) (k + 1) capy)=V:=⟨_,rfl⟩
      rw [hW]
      have HR7:=zq (HR6.out.set HwG.out (aB (some ⟨gy,0,none⟩) (k + 1) capy)).2
      rw [hW] at HR7
      refine hK.out _ _ (fun h=> absurd h (by decide)) ?_
      clear hK K hW g0 g1 z0 z1 lG
      try simp only [eC,bC,bA,aZ,aU,bK,bG] at hL ⊢
      refine SZ (by kernel_rfl) ?_ _
      have HX7:aY (GV B W7 G T (k + 1)):=⟨_,_,HR7.out.grd,HR7.out.ox,HR7.out.oy,HR7.out.sep⟩
      have HT7:=zq HR7.out.tr
      have JO:=zq HR7.out.bel
      have HS7:=zq HR7.out.bs
      go_wp2
      go_roundw
      case rel=> exact⟨⟨k + 1,by omega,by go_num,HX7⟩,HT7,JO,HS7⟩
      case measure=> simp only [aK];omega
    ·obtain rfl:k=4:=by omega
     go_wp2
     go_roundw
     case rel=> exact⟨⟨q + 1,by have:=Hq1.out;omega,by go_num,by have:=Hq1.out;rw [show(q + 1) * 4=4 by omega];exact HX⟩,HT,HB,HBs⟩
     case measure=> have:=Hq1.out;simp only [aK];omega
  ·have HX:aY (GV B wo G T 4):=by have:=HX.out;rw [show q * 4=4 by omega] at this;exact this
   have hqI:¬ ((q:Int) < 1):=by omega
   clear hq1 hq
   go_wp2
   go_cut [67,68,69] (fun v n i W=> v=aB (some ⟨wo.heap.size,0,none⟩) 2 2∧n=aF aG 2∧i=aF aG 0∧aY (bZ W wo.heap.size #[cB (some ⟨G,0,none⟩),cB (some ⟨G,1,none⟩)] 136)∧aY (aJ wo.heap.size wo W))
   case first=>
    go_region
    all_goals
     go_wp2
     go_meet
     case rel=>
      first
       | exact⟨rfl,rfl,rfl,bZ.new wo _ _,((aI _ wo).alloc (aD _) _).drew⟩
       | exact⟨rfl,rfl,rfl,bZ.new wo.drew _ _,(aI _ wo).drew.alloc (aD _) _⟩
       | fail
   case rest=>
   obtain⟨rfl,rfl,rfl,HA,FJ⟩:=hcut
   have hX1:=HX.out.below FJ.out
   have If:aY (∀ vx vy,Ih wc G vx vy→ci w TB #[aB a nf ca,aB b2 nf c2] B G wo.heap.size wc vx vy):=fun vx vy h=>
    ⟨h,HA.out,HT.out.below FJ.out HT.out.lt,aT HB.out FJ.out,cC HBs.out FJ.out.size,HwB.out⟩
   have uc:aY (∃ vx vy,ci w TB #[aB a nf ca,aB b2 nf c2] B G wo.heap.size wc vx vy∧wc.ownsRow B 24 1 vx 4 (bY 4 (aA T))∧wc.ownsRow B 24 1 vy 4 (bY 4 (aA T))∧(vx.ownBlock=none∨vx.ownBlock≠vy.ownBlock)):=by
    obtain⟨vx,vy,h1,h2,h3,h4⟩:=hX1
    exact⟨vx,vy,If.out _ _ h1,h2,h3,h4⟩
   clear hX1 If HX HT HB HBs HA FJ
   generalize wo.heap.size=A at *
   go_wp2
   go_loopw [69] (fun i wr=> (i=aF aG 0∧aY (∃ vx vy,ci w TB #[aB a nf ca,aB b2 nf c2] B G A wr vx vy∧wr.ownsRow B 24 1 vx 4 (bY 4 (aA T))∧wr.ownsRow B 24 1 vy 4 (bY 4 (aA T))∧(vx.ownBlock=none∨vx.ownBlock≠vy.ownBlock)))∨
    (i=aF aG 1∧aY (∃ gx cx vy,ci w TB #[aB a nf ca,aB b2 nf c2] B G A wr (aB (some ⟨gx,0,none⟩) 1 cx) vy∧wr.cell? ⟨gx,0,none⟩=some (aA T)∧wr.ownsRow B 24 1 vy 4 (bY 4 (aA T))∧some gx≠vy.ownBlock∧gx≠G))∨
    (i=aF aG 2∧aY (∃ gx cx gy cy,ci w TB #[aB a nf ca,aB b2 nf c2] B G A wr (aB (some ⟨gx,0,none⟩) 1 cx) (aB (some ⟨gy,0,none⟩) 1 cy)∧wr.cell? ⟨gx,0,none⟩=some (aA T)∧wr.cell? ⟨gy,0,none⟩=some (aA T)))) (fun i _=> 2 - (aK i).toNat)
   case atStart=> exact .inl ⟨rfl,uc⟩
   case round=>
    clear uc
    rename aE=> wj
    rcases hrel with ⟨rfl,HX⟩ | ⟨rfl,HX⟩ | ⟨rfl,HX⟩
    ·obtain⟨vx,vy,hR,ew,tx,Ta⟩:=HX.out
     obtain⟨gx,cx,rfl⟩:=FZ (by decide) ew
     have HR:=zq hR
     have HOx:=zq ew
     have HOy:=zq tx
     have Eo:some gx≠vy.ownBlock:=Ta.elim (fun h=> by cases h) (fun h=> h)
     have HGy:=zq Eo
     have a0:=hR.arr.cell 0
     obtain⟨g0,g1,z0,z1,lG⟩:=hR.grd.cells
     simp only [bJ,bD] at a0
     clear HX hR ew tx Ta Eo
     go_wp2_with fail
     refine(HSo.out B gx cx wj HwB.out HR.out.bel HOx.out).mono ?_
     rintro e W1 ⟨⟨v,rfl⟩,hox1,hg1⟩
     have If:=zq (HR.out.grown HOx.out hg1)
     have VK:=zq (HOy.out.kept hg1 (.inr (Ne.symm HGy.out)))
     have HOx1:=zq hox1
     clear hox1 hg1 HR HOx HOy a0 g0 g1 z0 z1 lG
     obtain⟨g0,g1,z0,z1,lG⟩:=If.out.grd.cells
     go_wp2_with fail
     refine(HCm.out B gx cx W1 HOx1.out).mono ?_
     rintro e W2 ⟨rfl,et,xz⟩
     have AC:=zq (If.out.grown HOx1.out xz)
     have HOy2:=zq (VK.out.kept xz (.inr (Ne.symm HGy.out)))
     have Tc:=zq et
     have HnG:aY (gx≠G):=fun e=> Fp If.out.grd HOx1.out (by rw [e];rfl)
     clear et xz If VK HOx1 g0 g1 z0 z1 lG
     obtain⟨g0,g1,z0,z1,lG⟩:=AC.out.grd.cells
     have Fe:=zq (AC.out.set HwG.out (aB (some ⟨gx,0,none⟩) 1 cx)).1
     have HOy3:=zq (HOy2.out.kept (IV W2 ⟨G,0,none⟩ (aB (some ⟨gx,0,none⟩) 1 cx)) (.inr (Ne.symm (Fp AC.out.grd HOy2.out))))
     have HC3:aY ((W2.setCell ⟨G,0,none⟩ (aB (some ⟨gx,0,none⟩) 1 cx)).cell? ⟨gx,0,none⟩=some (aA T)):=XF (by intro e;injection e with e1 e2;exact HnG.out e1) Tc.out
     go_wp2
     go_roundw
     case rel=> exact .inr (.inl ⟨by go_num,⟨gx,cx,vy,Fe.out,HC3.out,HOy3.out,HGy.out,HnG.out⟩⟩)
     case measure=> simp only [aK];omega
    ·obtain⟨gx,cx,vy,hR,zK,tx,Ta,hnG⟩:=HX.out
     obtain⟨gy,cy,rfl⟩:=FZ (by decide) tx
     have HR:=zq hR
     have HOy:=zq tx
     have ud:=zq zK
     have HGy:=zq Ta
     have HnX:=zq hnG
     have a0:=hR.arr.cell 1
     obtain⟨g0,g1,z0,z1,lG⟩:=hR.grd.cells
     simp only [bJ,bD,List.getElem?_cons_succ] at a0
     clear HX hR tx zK Ta hnG
     go_wp2_with fail
     refine(HSo.out B gy cy wj HwB.out HR.out.bel HOy.out).mono ?_
     rintro e W1 ⟨⟨v,rfl⟩,hoy1,hg1⟩
     have If:=zq (HR.out.grown HOy.out hg1)
     have HCx1:=zq ((hg1.cell_far ⟨gx,0,none⟩ (bF wj ⟨gx,0,none⟩ ud.out) HGy.out).trans ud.out)
     have VK:=zq hoy1
     clear hoy1 hg1 HR HOy ud a0 g0 g1 z0 z1 lG
     obtain⟨g0,g1,z0,z1,lG⟩:=If.out.grd.cells
     go_wp2_with fail
     refine(HCm.out B gy cy W1 VK.out).mono ?_
     rintro e W2 ⟨rfl,et,xz⟩
     have AC:=zq (If.out.grown VK.out xz)
     have HCx2:=zq ((xz.cell_far ⟨gx,0,none⟩ (bF W1 ⟨gx,0,none⟩ HCx1.out) HGy.out).trans HCx1.out)
     have Tc:=zq et
     have HnG:aY (gy≠G):=fun e=> Fp If.out.grd VK.out (by rw [e];rfl)
     clear et xz If VK HCx1 g0 g1 z0 z1 lG
     obtain⟨g0,g1,z0,z1,lG⟩:=AC.out.grd.cells
     have Fe:=zq (AC.out.set HwG.out (aB (some ⟨gy,0,none⟩) 1 cy)).2
     have HC3:aY ((W2.setCell ⟨G,1,none⟩ (aB (some ⟨gy,0,none⟩) 1 cy)).cell? ⟨gy,0,none⟩=some (aA T)):=XF (by intro e;injection e with e1 e2;exact HnG.out e1) Tc.out
     have HC4:aY ((W2.setCell ⟨G,1,none⟩ (aB (some ⟨gy,0,none⟩) 1 cy)).cell? ⟨gx,0,none⟩=some (aA T)):=XF (by intro e;injection e with e1 e2;exact HnX.out e1) HCx2.out
     go_wp2
     go_roundw
     case rel=> exact .inr (.inr ⟨by go_num,⟨gx,cx,gy,cy,Fe.out,HC4.out,HC3.out⟩⟩)
     case measure=> simp only [aK];omega
    ·obtain⟨gx,cx,gy,cy,hR,zK,hcy⟩:=HX.out
     have HR:=zq hR
     have ud:=zq zK
     have HCy:=zq hcy
     clear HX hR zK hcy HSo HCm lw
     go_wp2
     go_loopw [86] (fun i wr=> (∃ q:Nat,q≤1∧i=aF aG (q:Int))∧aY (aJ wj.heap.size wj wr)) (fun i _=> 1 - (aK i).toNat)
     case atStart=> exact⟨⟨0,by omega,rfl⟩,aI _ _⟩
     case round=>
      obtain⟨⟨p,hp,rfl⟩,HB⟩:=hrel
      rename aE=> wo
      have rO:=zq (aT HR.out.bel HB.out)
      by_cases hp1:p < 1
      ·obtain⟨lb,lo,td,l0, -⟩:=(HLs.out _ rO.out).at (i:=p) (by simpa using hp1) rfl
       have e5: [l].getD p default=l:=by have h:p=0:=(by omega);subst h;rfl
       rw [e5,YA.out] at l0
       subst td
       have hpI:(p:Int) < 1:=by omega
       have p0:(0:Int)≤(p:Int):=by omega
       have Hp1:=zq hp1
       clear e5 hp1 hp
       go_wp2
       go_loopw [92] (fun i wr=> (∃ k:Nat,k≤4∧i=aF aG (k:Int))∧aY (aJ wj.heap.size wj wr)) (fun i _=> 4 - (aK i).toNat)
       case atStart=> exact⟨⟨0,by omega,rfl⟩,HB⟩
       case round=>
        clear HB rO l0
        obtain⟨⟨k,hk,rfl⟩,HB⟩:=hrel
        rename aE=> wi
        by_cases hlt:k < 4
        ·have rO:=zq (aT HR.out.bel HB.out)
         obtain⟨lb',lo',hla, -,rp⟩:=(HLs.out _ rO.out).at (i:=0) (by simp) rfl
         have rp:Fg wi l.a l.ps:=rp
         obtain⟨pb,po,hpa,d0,d1,d2⟩:=rp.at (i:=k) (by rw [YA.out];exact hlt) rfl
         have HLk:=zq (HLay.out k hlt)
         rw [hpa]
         clear hla rp hpa
         generalize l.ps.getD k default=pp at *
         obtain⟨sd,pf,pe⟩:=pp
         unfold Pt.v Pt.cells at HLk
         simp only [] at *
         have Xp:(k:Int) < 4:=by omega
         have k0:(0:Int)≤(k:Int):=by omega
         have hT:=HR.out.tr.below HB.out HR.out.tr.lt
         obtain⟨t0,t1, -, -,lT⟩:=hT.two
         clear hT
         go_wp2_with fail
         have hba:aJ wi.heap.size wi (wi.alloc (aL #[aF aG sd,aA (bs pf),aA (bs pe)] 46)):=(aI _ _).alloc (aD _) _
         have hbj:=aT HB.out hba
         refine(HLk.out _ G gx gy cx cy (aT rO.out hba) (HR.out.grd.below hbj) (bV hbj ud.out) (bV hbj HCy.out)).mono ?_
         rintro e W2 ⟨⟨v,rfl⟩,hb2⟩
         have gD:=zq (aT hbj hb2)
         clear hba hbj hb2 d0 d1 d2 t0 t1 lT rO HLk
         go_wp2
         go_roundw
         case rel=> exact⟨⟨k + 1,by omega,by go_num⟩,gD⟩
         case measure=> simp only [aK];omega
        ·obtain rfl:k=4:=by omega
         go_wp2
         go_roundw
         case rel=> exact⟨⟨p + 1,by have:=Hp1.out;omega,by go_num⟩,HB⟩
         case measure=> have:=Hp1.out;simp only [aK];omega
      ·have hpI:¬ ((p:Int) < 1):=by omega
       have HGo:=zq (HR.out.grd.below HB.out)
       clear hp1 hp
       go_wp2_with fail
       refine(mh G _ _ cx cy wo HGo.out).mono ?_
       rintro e W2 ⟨⟨v,rfl⟩,hb2⟩
       have gD:=zq (aT rO.out hb2)
       have HG2:=zq (HGo.out.below hb2)
       clear hb2
       go_wp2
       go_ret
       exact⟨⟨G,_,_,cx,cy,rfl,HG2.out⟩,gD.out⟩
end
section
open Go Go.RowKit
section
variable{F:Fence}{n:Nat}{P:Program}
theorem PS{g:Operand}{ps:Array Tmp}{assign body:Cz}{Q:Exit→EI→aE→Prop}{a:EI}{w:aE}
 (Ig:F.round=none)(h1:1≤n){gf:Nat}{lb:Array bB}(hg:a.eval g=.func (.func gf) #[] lb)(xm:F.fn gf)(eg:∀args w,(callFunc gf args).run P w=.ok (.enter gf args) w)
 {nV:Nat→Array bB}{Kp:aE→aE→Prop}{N:Nat}{w0:aE}(BF:Vf F (n-1) P gf lb nV Kp N w0)(hb0:aJ w0.heap.size w0 w)
 (Kd:∀{A B C:aE},Kp A B→Kp B C→Kp A C)(KD:∀(W:aE)(l:Nat)(o o':Obj),w.heap.size≤l→W.heap[l]? =some o→o.isCells=false→o.isWalk=false→Kp W (W.putObj l o'))(rV:∀k,(nV k).size=ps.size)
 (I:Nat→aE→Prop)(Ix:Cz→Nat→aE→Prop)(hI:Bd w.heap.size I)(DP:∀c,Bd w.heap.size (Ix c))(h0:I 0 w)(I1:EI→Nat→aE→Prop)(hI1:∀a',Bd w.heap.size (I1 a'))
 (kW:∀(l:Nat)(k:Nat)(W:aE)(K:EI→aE→Prop),k<N→I k W→(∀a' W',kC w.heap.size W W'→Kp W W'→I1 a' k W'→K a' W')→
  assign.wpIn (F.inRound l) (n-1-1) P (Exit.then K (fun _ _ _=>False)) {tmps:=(ps.zip (nV k)).foldl (fun t(p,v)=>t.setIfInBounds p v) a.tmps,defers:=[]} W)
 (tS:∀(l:Nat)(k:Nat)(a':EI)(W:aE),k<N→I1 a' k W→body.wpIn (F.inRound l) (n-1-1) P (sM w.heap.size Kp I Ix (k+1) W) a' W)
 (pV:∀(D:Nat)(W:aE),w.heap.size≤D→I N W→W.heap[D]? =some (.deferred (some []))→Q .normal {a with defers:={target:=.collected D,args:= #[]}::a.defers} W)
 (tT:∀(D:Nat)(c:Cz)(k:Nat)(W:aE),w.heap.size≤D→k≤N→Ix c k W→W.heap[D]? =some (.deferred (some []))→c.wpIn F n P Q {a with defers:={target:=.collected D,args:= #[]}::a.defers} W):
 (BZ g ps assign body).wpIn F n P Q a w:=by
 refine wpIn_rangeFunc ?_
 intro fn YQ
 rw[Ig]
 have hD:=nL w (.deferred (some []))
 obtain⟨V,hV⟩:∃V,(w.alloc (.deferred (some []))).alloc (.loop (dP fn a ps assign body w.heap.size .ready none))=V:=⟨_,rfl⟩
 have kD:V.heap[w.heap.size]? =some (.deferred (some [])):=by rw[←hV];exact(Kr _ _ _ (by simp)).trans hD
 have kL:V.heap[w.heap.size+1]? =some (.loop (dP fn a ps assign body w.heap.size .ready none)):=by
  rw[←hV]
  have:=nL (w.alloc (.deferred (some []))) (.loop (dP fn a ps assign body w.heap.size .ready none))
  rwa[aS]at this
 have kI:I 0 V:=by rw[←hV];exact hI.alloc _ (hI.alloc _ h0)
 have kB:aJ w0.heap.size w0 V:=by
  rw[←hV];exact hb0.trans ((((aI _ w).alloc (aD _) _).alloc (by simp) _).mono hb0.size)
 refine⟨w.heap.size+1,[{target:=.collected w.heap.size,args:= #[]}],V,{target:=.fn (.func gf) lb,args:= #[.func (.yield (w.heap.size+1)) #[] #[]]},V,gf,
  #[.func (.yield (w.heap.size+1)) #[] #[]]++lb,V,?_,?_,?_,?_,fun _=>h1,?_⟩
 ·rw[←hV];exact run_enterLoop_outer _ _ _ _ _
 ·simp only[resolve,hg]
  simp[go_sem]
 ·intro f hf
  simp[Target.leads]at hf
  subst hf;exact xm
 ·simp[invoke,go_sem,eg]
 ·have yR:=BF (w.heap.size+1)
   (fun k W=>I k W∧W.heap[w.heap.size+1]? =some (.loop (dP fn a ps assign body w.heap.size .ready none))∧W.heap[w.heap.size]? =some (.deferred (some [])))
   (fun k W=>∃c,Ix c k W∧W.heap[w.heap.size+1]? =some (.loop (dP fn a ps assign body w.heap.size .done (some c)))∧W.heap[w.heap.size]? =some (.deferred (some [])))
   V kB ?round ⟨kI,kL,kD⟩
  case round=>
   rintro k W hk⟨hi,hl,hd⟩
   have hy:=run_yield (P:=P) (args:=nV k) hl (by exact rV k)
   refine⟨fn,_,assign,body,hy,roundIn_of_wpIn YQ (kW _ k W _ hk hi (fun a' W' hkf hkp hi1=>?_))⟩
   have sz:=hkf.same _ _ (by omega) hl rfl
   have hd':=hkf.same _ _ (aD _) hd rfl
   have hlt:w.heap.size+1<W'.heap.size:=(Array.getElem?_eq_some_iff.1 sz).1
   refine⟨_,run_beginRound sz rfl,?_⟩
   obtain⟨U,hU⟩:∃U,W'.putObj (w.heap.size+1) (.loop (dP fn a ps assign body w.heap.size .busy none))=U:=⟨_,rfl⟩
   have uL:U.heap[w.heap.size+1]? =some (.loop (dP fn a ps assign body w.heap.size .busy none)):=by rw[←hU];exact mA hlt
   have uD:U.heap[w.heap.size]? =some (.deferred (some [])):=by rw[←hU];exact(cH (by omega)).trans hd'
   have uK:Kp W U:=by rw[←hU];exact Kd hkp (KD _ _ _ _ (by omega) sz rfl rfl)
   have uI:I1 a' k U:=by rw[←hU];exact(hI1 a').putObj _ hi1 (by omega) sz rfl
   have GA:∀(j:Option Cz)(X:aE),kC w.heap.size U X→
    X.heap[w.heap.size+1]? =some (.loop (dP fn a ps assign body w.heap.size .busy none))∧
    (Instr.endRound (w.heap.size+1) j).run P X=.ok (.bool j.isNone) (X.putObj (w.heap.size+1) (.loop (dP fn a ps assign body w.heap.size (if j.isNone then .ready else .done) j)))∧
    (X.putObj (w.heap.size+1) (.loop (dP fn a ps assign body w.heap.size (if j.isNone then .ready else .done) j))).heap[w.heap.size+1]? =some (.loop (dP fn a ps assign body w.heap.size (if j.isNone then .ready else .done) j))∧
    (X.putObj (w.heap.size+1) (.loop (dP fn a ps assign body w.heap.size (if j.isNone then .ready else .done) j))).heap[w.heap.size]? =some (.deferred (some [])):=by
    intro j X hX
    have xL:=hX.same _ _ (by omega) uL rfl
    exact⟨xL,run_endRound (P:=P) j xL,mA (Array.getElem?_eq_some_iff.1 xL).1,(cH (by omega)).trans (hX.same _ _ (aD _) uD rfl)⟩
   show Code.wpIn _ _ _ _ _ _ (W'.putObj (w.heap.size+1) (.loop (dP fn a ps assign body w.heap.size .busy none)))
   rw[hU]
   refine wpIn_mono (tS _ k a' U hk uI) ?_
   intro e a3 X hp
   have BG:∀c:Cz,kC w.heap.size U X∧Ix c (k+1) X→_:=fun c hc=>(GA (some c) X hc.1)
   cases e with
   |normal=>
    obtain⟨xL,xr,yL,yD⟩:=GA none X hp.1
    exact⟨_,_,xr,.inl ⟨rfl,⟨hI.putObj _ hp.2.2 (by omega) xL rfl,yL,yD⟩,Kd (Kd uK hp.2.1) (KD _ _ _ _ (by omega) xL rfl rfl)⟩⟩
   |ret=>
    obtain⟨xL,xr,yL,yD⟩:=BG .ret hp
    exact⟨_,_,xr,.inr ⟨rfl,.ret,(DP _).putObj _ hp.2 (by omega) xL rfl,yL,yD⟩⟩
   |exit id=>
    obtain⟨xL,xr,yL,yD⟩:=BG (.exit id) hp
    exact⟨_,_,xr,.inr ⟨rfl,.exit id,(DP _).putObj _ hp.2 (by omega) xL rfl,yL,yD⟩⟩
   |goto t=>
    obtain⟨xL,xr,yL,yD⟩:=BG (.goto t) hp
    exact⟨_,_,xr,.inr ⟨rfl,.goto t,(DP _).putObj _ hp.2 (by omega) xL rfl,yL,yD⟩⟩
   |panic ch=>exact hp.elim
   |outgrown=>exact hp.elim
  refine yR.mono ?_
  rintro e W2⟨⟨v,rfl⟩,(⟨hi,hl,hd⟩|⟨k,hk,c,hi,hl,hd⟩)⟩
  ·exact⟨none,_,run_endLoop (P:=P) hl (by simp[dP]),pV _ _ (aD _) (hI.putObj _ hi (by omega) hl rfl) ((cH (by omega)).trans hd)⟩
  ·exact⟨some c,_,run_endLoop (P:=P) hl (by simp[dP]),tT _ c k _ (aD _) hk ((DP c).putObj _ hi (by omega) hl rfl) ((cH (by omega)).trans hd)⟩
theorem VL{g:Operand}{ps:Array Tmp}{assign body:Cz}{Q:Exit→EI→aE→Prop}{a:EI}{w:aE}
 {gf:Nat}{lb:Array bB}(hg:a.eval g=.func (.func gf) #[] lb)(eg:∀args w,(callFunc gf args).run P w=.ok (.enter gf args) w)
 {nV:Nat→Array bB}{Kp:aE→aE→Prop}{N:Nat}(BF:Vf dW 8 P gf lb nV Kp N w)
 (Kd:∀{A B C:aE},Kp A B→Kp B C→Kp A C)(KD:∀(W:aE)(l:Nat)(o o':Obj),w.heap.size≤l→W.heap[l]? =some o→o.isCells=false→o.isWalk=false→Kp W (W.putObj l o'))(rV:∀k,(nV k).size=ps.size)
 (I:Nat→aE→Prop)(Ix:Cz→Nat→aE→Prop)(hI:Bd w.heap.size I)(DP:∀c,Bd w.heap.size (Ix c))(h0:I 0 w)(I1:EI→Nat→aE→Prop)(hI1:∀a',Bd w.heap.size (I1 a'))
 (kW:∀(l:Nat)(k:Nat)(W:aE)(K:EI→aE→Prop),k<N→I k W→(∀a' W',kC w.heap.size W W'→Kp W W'→I1 a' k W'→K a' W')→
  assign.wpIn (Fence.wide.inRound l) 7 P (Exit.then K (fun _ _ _=>False)) {tmps:=(ps.zip (nV k)).foldl (fun t(p,v)=>t.setIfInBounds p v) a.tmps,defers:=[]} W)
 (tS:∀(l:Nat)(k:Nat)(a':EI)(W:aE),k<N→I1 a' k W→body.wpIn (Fence.wide.inRound l) 7 P (sM w.heap.size Kp I Ix (k+1) W) a' W)
 (pV:∀(D:Nat)(W:aE),w.heap.size≤D→I N W→W.heap[D]? =some (.deferred (some []))→Q .normal {a with defers:={target:=.collected D,args:= #[]}::a.defers} W)
 (tT:∀(D:Nat)(c:Cz)(k:Nat)(W:aE),w.heap.size≤D→k≤N→Ix c k W→W.heap[D]? =some (.deferred (some []))→c.wp P Q {a with defers:={target:=.collected D,args:= #[]}::a.defers} W):
 (BZ g ps assign body).wp P Q a w:=
 (wpIn_wide (n:=9)).1 (PS (F:=dW) rfl (by decide) hg trivial eg BF (aI _ _) Kd KD rV I Ix hI DP h0 I1 hI1 kW tS pV (fun D c k W h1 h2 h3 h4=>wpIn_wide.2 (tT D c k W h1 h2 h3 h4)))
end
end
end Go.Proofs.YtcimoodjlopdaaaGreatDoor
