import Derived.Outline
import Derived.Deep.AppendLies
import Derived.Deep.RegionHeld3
import Derived.Deep.CutBlock
import Derived.OwnWalkIn
import Derived.OrdersHeld
import Derived.Below
import Derived.Lib.Hide
import Derived.Test.YtkchhginppjaiaaGreatDoorZ0
import Derived.Test.YtkchhginppjaiaaGreatDoorZ1
import Derived.Test.YtkchhginppjaiaaGreatDoorZ2
import Derived.Test.YtkchhginppjaiaaGreatDoorZ3
namespace Go.Proofs.YtkchhginppjaiaaGreatDoor
set_option maxRecDepth 100000
set_option maxHeartbeats 8000000
set_option linter.all false
open Go.Proofs.Tryz
open _root_.Array renaming replicate_succ->cA,replicate_zero->cB,replicate->gR,getElem?_setIfInBounds->vQ,setIfInBounds->wC
open _root_.Bool renaming and_eq_true->bQ,false_eq_true->bS,or_eq_true->jC
open _root_.Go renaming World->aF,Value->aP,undef->aO,Calls->bE,Addr->cO,Program->dN,TypeId->dT,bodyPost_ret->dU,heap_setCell_other->eE,wpAnyH_ready->fC,getD_set_ne->fN,Oper->fX,KeepsFrom->kR,Act->mI,info_parts->lI,ready_mono->qB,grownBy_putObj'->rO,Operand->tE,yielded->wV,Exit->A5,maxLen->Cm,wpAnyH_done->EI,step_append_lies->PZ,builtin->YH
open Go.Act renaming put->cS
open Go.AllReadyH renaming cons->dJ,nil->dX
open Go.Code renaming region->tD
open Go.Ending renaming returned->bA
open Go.Instr renaming lookup->iR,mapUpdate->oE
open Go.IntKind renaming i64->aB
open Go.IntWalk renaming i64_in->bI
open Go.KeepsOthers renaming of_grownBy->R7
open Go.Lib renaming compactUpTo->mV
open Go.Obj renaming cells->aN
open Go.Oper renaming semAt_some->gM,wp->Ng
open Go.OwnFrom renaming and->eO
open Go.Proofs.Tryz renaming prog->aE
open Go.Region renaming ready->cU,wanted->eK,Mode->gU,binds->sM
open Go.RowKit renaming intOf->aK,Hid->bK
open Go.RowKit.Below renaming refl->aL,heap_alloc->BI
open Go.Sem renaming run->eH
open Go.Value renaming string->aA,int->aC,slice->aD,bool->aV,pointer->aY,agg->cF,ownBlock->jW,oneCell'->kA
open Go.World renaming block_lt_of_cell?->bB,size_alloc->bH,ownsRow_nil->tG,news_of_block->EM
open Go.World.ownsRow renaming cellAt->dZ,frozenAt->kF,stored->zZ
open _root_.Int renaming toNat_of_nonneg->fJ,tmod_eq_emod_of_nonneg->rM
open _root_.List renaming getD_eq_getElem?_getD->aG,getElem?_cons_zero->aI,getElem?_toArray->aJ,setIfInBounds_toArray->aM,getElem_cons_succ->aR,getElem_cons_zero->aS,set_cons_zero->aT,set_cons_succ->aW,getElem_toArray->aX,length_map->aZ,getElem?_cons_succ->bC,length_cons->bD,getElem?_eq_getElem->bN,length_append->bO,length_nil->bV,size_toArray->cD,append_toArray->cH,cons_append->cJ,take_succ_eq_append_getElem->cN,push_toArray->cR,mem_cons_self->cW,mem_cons_of_mem->dA,range->dD,nil_append->dF,mem_singleton->eJ,take_of_length_le->eM,map_append->eV,getElem_mem->gL,mem_append_left->iL,length_range->kO,flatMap_cons->kT,mem_append->nG,append_nil->pZ,mem_range->uW,mem_append_right->vP,pairwise_iff_getElem->AV,length_filter_le->Dp,foldl_append->Kz,sum_replicate_nat->VK,length_mergeSort->Wg,length_flatMap->bn
open _root_.List.Pairwise renaming imp_of_mem->PP
open _root_.Nat renaming le_refl->aH,le_trans->aU,zero_le->bM,zero_add->cC,lt_of_lt_of_le->dC,reduceAdd->dQ,reduceSub->dR,lt_or_ge->fP,eq_zero_or_pos->jM,le_of_lt->jS,add_zero->oG,zero_mul->yW,lt_succ_self->Od,add_mul->bd,one_mul->bh
open _root_.Option renaming getD_some->bX
open _root_.Prod.mk renaming injEq->KG
section
open Go Go.RowKit Go.Shelf Go.Lib
def JS(X Y:Nat)(v:Wy):Prop:=0≤v.x∧v.x<X∧0≤v.y∧v.y<Y∧v.d<4∧0≤jE v.x v.d∧jE v.x v.d<X∧0≤jF v.y v.d∧jF v.y v.d<Y
theorem Gy{W:aF}{b cL e size n:Nat}{cs:Array aP}{T:dT}{v:aP}{xs:List aP}(hb:bT W b cs T)(h:W.ownsRow cL e size v n xs)(iC:T≠e):some b≠v.ownBlock:=by
 rcases h.2 with⟨h,_⟩|⟨g,c,oL,h,_,k,_⟩
 ·rw[h];simp[jW]
 ·rw[h];intro e;have e:b=g:=by simpa[jW]using e
  subst e;have JG:W.heap[b]? =some (aN cs T (0,0)):=hb;rw[JG]at k;cases k;exact iC rfl
theorem QI{W W':aF}{b cL e size n:Nat}{cs:Array aP}{T:dT}{v:aP}{xs:List aP}(hb:bT W b cs T)(h:W.ownsRow cL e size v n xs)(iC:T≠e)(hg:W.grownBy W' v.ownBlock):bT W' b cs T:=(hg.block b hb.lt (Gy hb h iC)).trans hb
theorem partAt{W W':aF}{A G NB:Nat}{xv yv p2 p3 p4 x y d:aP}{cL n:Nat}{v:aP}{us:List aP}{pg:aP}(hA:bT W A #[pg] 78)(hG:bT W G #[xv,yv,p2,p3,p4] 154)(hN:bT W NB #[x,y,d] 167)(ho:W.ownsRow cL 68 3 v n us)(hg:W.grownBy W' v.ownBlock):
 W'.cell? ⟨A,0,none⟩=some pg∧W'.cell? ⟨G,2,none⟩=some p2∧W'.cell? ⟨NB,0,none⟩=some x∧W'.cell? ⟨NB,1,none⟩=some y∧W'.cell? ⟨NB,2,none⟩=some d:=by
 have h1:=QI hA ho (by decide) hg;have h2:=QI hG ho (by decide) hg;have h3:=QI hN ho (by decide) hg;exact⟨h1.cell 0,h2.cell 2,h3.cell 0,h3.cell 1,h3.cell 2⟩
theorem gp{w:aF}{cM:Array fX}{o:fX}{a:mI}{K:mI→aF→Prop}{Q:A5→mI→aF→Prop}{E:Prop}(FN:o.guard=none)(s x:tE)
 (ho:o.op=.call {callee:=.builtin .append,args:= #[s,x],argTypes:= #[39,39]})(B:Nat)(v:aP)(n:Nat)(xs:List aP)(hs:a.eval s=v)(dI:w.ownsRow B 68 3 v n xs)
 (nb:Nat)(d:Int)(y z:ByteArray)(hx:a.eval x=aD (some ⟨nb,0,none⟩) 1 1)(zz:bT w nb #[aC aB d,aA y,aA z] 68)(Np:n+1≤100000)(jH:B≤w.heap.size)
 (h:∀g cap w',w'.ownsRow B 68 3 (aD (some ⟨g,0,none⟩) (n+1) cap) (n+1) (xs++[aC aB d,aA y,aA z])→w.grownBy w' v.ownBlock→(v.ownBlock=some g∨g=w.heap.size)→K (a.put o.dst (aD (some ⟨g,0,none⟩) (n+1) cap)) w'):
 if eK o (wV cM a.tmps)=true then Ng aE o a w K Q else E:=by
 obtain⟨i0,hi,yH,zB,sS⟩:=lI tQ;exact PZ w FN s x 39 ho B 68 i0 (cF #[aC aB 0,aA ⟨#[]⟩,aA ⟨#[]⟩]) 3 40 underlying39 hi yH zB sS rfl (by decide) v n xs hs dI ⟨nb,0,none⟩ 1 1 [aC aB d,aA y,aA z] hx rfl (EM zz) (by simp[kA]) (by decide) (by unfold Cm;omega) (by omega) jH _ rfl
  fun g cap w' h1 h2 h3 _=>h g cap w' h1 h2 h3
theorem TV{W:aF}{p q:cO}{v u:aP}(iC:p≠q)(h:W.cell? p=some v):(W.setCell q u).cell? p=some v:=(World.cell?_setCell_other _ _ _ _ (Ne.symm iC)).trans h
theorem NZ(qs:List Pt)(s:Int)(a z h:List UInt8):(cQ (qs++[⟨s,a,z⟩])).set (qs.length*3+2) (aA (bs h))=cQ (qs++[⟨s,a,h⟩]):=by
 rw[rE,rE,List.set_append_right _ _ (by rw[nM];omega),nM,show qs.length*3+2-3*qs.length=2 by omega];rfl
theorem Md{W:aF}{cL g m c:Nat}{qs:List Pt}{s:Int}{a z:List UInt8}(h:W.ownsRow cL 68 3 (aD (some ⟨g,0,none⟩) (m+1) c) (m+1) (cQ (qs++[⟨s,a,z⟩])))(hm:qs.length=m)(u:List UInt8):
 (W.setCell ⟨g,m*3+2,none⟩ (aA (bs u))).ownsRow cL 68 3 (aD (some ⟨g,0,none⟩) (m+1) c) (m+1) (cQ (qs++[⟨s,a,u⟩])):=by
 have:=(zZ h (m*3+2) (aA (bs u))).1;rw[←hm]at this⊢;rwa[NZ]at this
theorem way_lo{G gx gy X Y cx cy m2 m3 m4:Nat}{S N:WL}{I:SL}{xs ys:List (List UInt8)}{v:Wy}(hv:JS X Y v){W:aF}(hg:gN W G (aD (some ⟨gx,0,none⟩) X cx) (aD (some ⟨gy,0,none⟩) Y cy) m2 m3 m4 S N I)(hl:qk W gx gy X Y xs ys):
 bE aE 174 #[aY (some ⟨G,0,none⟩),cF #[aC aB v.x,aC aB v.y],aC aB v.d] W (Rt (aA (bs (Xi xs ys v))) W):=by
 obtain⟨h1,h2,h3,h4,h5,-⟩:=hv;have:=LL G gx gy X Y cx cy m2 m3 m4 S N I xs ys v.x.toNat v.y.toNat v.d h5 (by omega) (by omega) W hg hl;rw[fJ h1,fJ h3]at this;exact this
theorem way_hi{G gx gy X Y cx cy m2 m3 m4:Nat}{S N:WL}{I:SL}{xs ys:List (List UInt8)}{v:Wy}(hv:JS X Y v){W:aF}(hg:gN W G (aD (some ⟨gx,0,none⟩) X cx) (aD (some ⟨gy,0,none⟩) Y cy) m2 m3 m4 S N I)(hl:qk W gx gy X Y xs ys):
 bE aE 174 #[aY (some ⟨G,0,none⟩),cF #[aC aB (jE v.x v.d),aC aB (jF v.y v.d)],aC aB v.d] W (Rt (aA (bs (TU xs ys v))) W):=by
 obtain⟨-,-,-,-,h5,h1,h2,h3,h4⟩:=hv;have:=LL G gx gy X Y cx cy m2 m3 m4 S N I xs ys (jE v.x v.d).toNat (jF v.y v.d).toNat v.d h5 (by omega) (by omega) W hg hl;rw[fJ h1,fJ h3]at this;exact this
theorem Xj (G gx gy X Y cx cy m2 m3 m4:Nat) (S N:WL) (I:SL) (xs ys:List (List UInt8)) (b n cap:Nat) (l:List Wy) (w:aF) (hX:X≤100000) (hY:Y≤100000) (NK:0 < n) (hn:n≤10000) (IT:n≤cap) (yN:l.length=n) (hv:∀ v∈l,JS X Y v)
 (hg:gN w G (aD (some ⟨gx,0,none⟩) X cx) (aD (some ⟨gy,0,none⟩) Y cy) m2 m3 m4 S N I) (hl:qk w gx gy X Y xs ys) (rw' :CO w b 0 l) :
 bE aE 108 #[aY (some ⟨G,0,none⟩),aD (some ⟨b,0,none⟩) n cap] w fun e w' => (∃ g c,e=bA (aD (some ⟨g,0,none⟩) (fA S xs ys l).length c)∧w'.ownsRow w.heap.size 68 3 (aD (some ⟨g,0,none⟩) (fA S xs ys l).length c) (fA S xs ys l).length (cQ (fA S xs ys l)))∧Below w.heap.size w w' :=by
 have fE:=(aL w.heap.size w).alloc (aH _) (aN #[aY (some ⟨G,0,none⟩)] 78);have q0:=bT.new w #[aY (some ⟨G,0,none⟩)] 78;obtain⟨W0,eY⟩:∃ W,w.alloc (aN #[aY (some ⟨G,0,none⟩)] 78)=W:=⟨_,rfl⟩;have IF:=hg.below fE;have hl0:=hl.below fE;have hr0:=rw'.below fE;rw [eY] at fE q0 IF hl0 hr0;have HSa:bK (∀ i j,i < n→j < n→∀ W,Below W0.heap.size W0 W→bE aE 172 #[cF #[aC aB (l.getD i default).x,aC aB (l.getD i default).y,aC aB (l.getD i default).d],cF #[aC aB (l.getD j default).x,aC aB (l.getD j default).y,aC aB (l.getD j default).d],aY (some ⟨w.heap.size,0,none⟩)] W (Rt (aV (nT S (l.getD i default) (l.getD j default))) W)):=fun i j _ _ W hW=>
  LM w.heap.size G _ _ m2 m3 m4 S N I _ _ W (IF.below hW) (q0.below hW q0.lt)
 have fV:=zq fE;have nO:=zq q0;have TW:=zq IF;have HL0:=zq hl0;have HR0:=zq hr0;have FC:=zq eY;clear hg hl rw' fE q0 IF hl0 hr0 eY;go_enter func108,ntmps108;have lA:=nO.out.lt;go_upto_block 0 with fail
 rw [FC.out];clear FC;go_cut [6] (fun v W=> v=aC aB (eN S l)∧bK (Below W0.heap.size W0 W));case first=>
  go_wp2;go_loopw [6,14] (fun f i wr=> ∃ k:Nat,i=aC aB k∧f=aC aB 0∧k≤n∧kX S l k=k∧bK (Below W0.heap.size W0 wr)) (fun _ i _=> n - (aK i).toNat);case atStart=> exact⟨0,rfl,rfl,bM _,rfl,aL _ _⟩
  case round=>
   obtain⟨k,rfl,rfl,hk,hf,HB⟩:=hrel;have Hf:=zq hf;have Hln:=zq yN;by_cases hlt:k < n
   ·have hlt2:(k:Int) < n:=by omega
    obtain⟨m,hm⟩:∃ m,(k + n - 1) % n=m:=⟨_,rfl⟩;have hmn:m < n:=by rw [← hm];exact Nat.mod_lt _ NK
    have e1:IntKind.i64.wrap ((k:Int) + n)=(k:Int) + n:=bI _ (by omega);have e2:IntKind.i64.wrap ((k:Int) + n - 1)=(k:Int) + n - 1:=bI _ (by omega);have e3:Int.tmod ((k:Int) + n - 1) n=m:=by
     rw [rM (by omega),← hm,Int.natCast_emod];congr 1;omega
    have em:(m:Int) < n:=by omega
    have hnI:¬ n=0:=by omega
    have em0:(0:Int)≤m:=by omega
    have Hm:=zq hm;have HC:=zq (HSa.out m k hmn hlt);obtain⟨c0,c1,c2⟩:=(HR0.out.below HB.out) m (by rw [yN];exact hmn);obtain⟨d0,d1,d2⟩:=(HR0.out.below HB.out) k (by rw [yN];exact hlt);rw [cC] at c0 c1 c2 d0 d1 d2;obtain⟨sv,hsv⟩:∃ sv,nT S (l.getD m default) (l.getD k default)=sv:=⟨_,rfl⟩;rw [hsv] at HC;have HFs:bK (sv=false→eN S l=k):=fun e=> by
     have h1:kX S l (k + 1)=k:=by
      rw [kX,ip hf,yN,hm,iN (by rw [hsv,e];decide)]
     have h2:=JQ S (l:=l) (k:=k + 1) (by omega) (n - (k + 1));rw [show k + 1 + (n - (k + 1))=n by omega,h1] at h2;unfold eN;rw [yN,h2,iN (by omega)]
    have Nu:bK (sv=true→kX S l (k + 1)=k + 1):=fun e=> by
     rw [kX,ip hf,yN,hm,ip (by rw [hsv,e])]
    clear hm hf hsv yN;generalize l.getD m default=wm at *;generalize l.getD k default=wk at *;obtain⟨mx,my,md⟩:=wm;obtain⟨kx,ky,kd⟩:=wk;simp only [] at *;have VW:=zq ((aL wr.heap.size wr).drew);go_wp2;go_cut [34] (fun v W=> v=aV (!sv)∧bK (Below wr.heap.size wr W));case first=>
     go_region_held3 (fun w' => w'.cell? ⟨b,m * 3,none⟩=some (aC aB mx)∧w'.cell? ⟨b,m * 3 + 1,none⟩=some (aC aB my)∧w'.cell? ⟨b,m * 3 + 2,none⟩=some (aC aB md)∧w'.cell? ⟨b,k * 3,none⟩=some (aC aB kx)∧w'.cell? ⟨b,k * 3 + 1,none⟩=some (aC aB ky)∧w'.cell? ⟨b,k * 3 + 2,none⟩=some (aC aB kd)) (go_keep)
      (first
       | (go_at_call 172;(with_reducible refine(HC.out _ (aQ HB.out VW.out)).mono ?_);rintro e w1 ⟨rfl,hb1⟩;have eC:=zq (aQ VW.out hb1);have r0:=bR hb1 c0;have r1:=bR hb1 c1;have r2:=bR hb1 c2;have r3:=bR hb1 d0;have r4:=bR hb1 d1;have r5:=bR hb1 d2)
       | fail)
     all_goals
      go_wp2;go_meet;case rel=> exact⟨rfl,eC.out⟩
    case rest=>
    obtain⟨rfl,eC⟩:=hcut;have HBn:=zq (aQ HB.out eC.out);clear e1 e2 e3 c0 c1 c2 d0 d1 d2;cases sv
    ·have HF:=zq (HFs.out rfl);go_wp2;go_meet;case rel=> exact⟨by rw [HF.out] <;> rfl,HBn.out⟩
    ·have HF:=zq (Nu.out rfl);go_wp2;go_roundw;case rel=> exact⟨k + 1,by go_num,rfl,by omega,HF.out,HBn.out⟩
     case measure=> simp only [aK];omega
   ·obtain rfl:k=n:=by omega
    have HF:bK (eN S l=0):=by
     show _=_;unfold eN;rw [Hln.out,ip Hf.out]
    go_wp2;go_meet;case rel=> exact⟨by rw [HF.out] <;> rfl,HB.out⟩
 case rest=>
 obtain⟨rfl,eC⟩:=hcut;have hF:=gn S (l:=l) (by omega);have hrl:=zy (l:=l) (k:=eN S l) (by omega);have hpw:fA S xs ys l=iZ S xs ys (Fb l (eN S l)) l.length:=rfl;have hrv:∀ v∈Fb l (eN S l),JS X Y v:=fun v h=> hv v (Gx h);have JT:bK (∀ W (bb:Nat) v1 v2 c,Below W0.heap.size W0 W→v1=aD (some ⟨b,eN S l * 3,none⟩) (n - eN S l) c→v2=aD (some ⟨b,0,none⟩) (eN S l) cap→bT W bb #[v1,v2] 169→bE aE 173 #[aD (some ⟨bb,0,none⟩) 2 2] W fun e w' => (∃ g cap,e=bA (aD (some ⟨g,0,none⟩) n cap)∧w'.ownsRow W.heap.size 167 3 (aD (some ⟨g,0,none⟩) n cap) n (fL (Fb l (eN S l))))∧Below W.heap.size W w'):=fun W bb v1 v2 c hW h1 h2 gt=> by
  subst h1 h2;have hr:=HR0.out.below hW;have c0:=gt.cell 0;have c1:=gt.cell 1;simp only [aJ,aI,bC] at c0 c1;have:=concatW (some ⟨bb,0,none⟩) 2 2 [⟨b,eN S l * 3,n - eN S l,c,fL (l.drop (eN S l))⟩,⟨b,0,eN S l,cap,fL (l.take (eN S l))⟩] W rfl (by decide) (by
   intro x hx;simp only [List.mem_cons,List.not_mem_nil,or_false] at hx;rcases hx with rfl | rfl
   ·exact⟨by show n - eN S l≤10000;omega,by rw [yM,List.length_drop,yN],JO _⟩
   ·exact⟨by show eN S l≤10000;omega,by rw [yM,List.length_take];show min _ _ * 3=eN S l * 3;rw [Nat.min_eq_left (by omega)],JO _⟩)
   (by show 0 < 0 + (n - eN S l) + eN S l;omega) (by
    intro i hi;have hi:i < 2:=hi;match i,hi with
    | 0,_=> exact⟨bb,0,rfl,c0,(hr.part (eN S l)).cells⟩
    | 1,_=> exact⟨bb,0,rfl,c1,(hr.front (eN S l)).cells⟩)
  have e1:gO [⟨b,eN S l * 3,n - eN S l,c,fL (l.drop (eN S l))⟩,⟨b,0,eN S l,cap,fL (l.take (eN S l))⟩] 2=n:=by show 0 + (n - eN S l) + eN S l=n;omega
  have e2:sT [⟨b,eN S l * 3,n - eN S l,c,fL (l.drop (eN S l))⟩,⟨b,0,eN S l,cap,fL (l.take (eN S l))⟩]=fL (Fb l (eN S l)):=by
   unfold Fb;rw [JN];simp [sT]
  rw [e1,e2] at this;exact this
 rw [yN] at hpw hrl;have HPW:=zq hpw;have TZ:=zq hrl;have Hrv:=zq hrv;rw [yN] at hF;clear hpw hrl hrv HSa;generalize Fb l (eN S l)=rl at *;generalize eN S l=f at *;have f1:(f:Int)≤n:=by omega
 have f2:(n:Int)≤cap:=by omega
 have f0:(0:Int)≤f:=by omega
 have f3:(f:Int)≤cap:=by omega
 rename aF=> wc;have hcf:¬ cap=f:=by omega
 obtain⟨WC,hWC⟩:∃ V,(wc.alloc (aN #[aD (some ⟨b,f * 3,none⟩) (n - f) (cap - f),aD (some ⟨b,0,none⟩) f cap] 169)).drew=V:=⟨_,rfl⟩;have hbC:Below wc.heap.size wc WC:=by rw [← hWC];exact((aL _ _).alloc (aH _) _).drew
 have gt:bT WC wc.heap.size #[aD (some ⟨b,f * 3,none⟩) (n - f) (cap - f),aD (some ⟨b,0,none⟩) f cap] 169:=by rw [← hWC];exact bT.new _ _ _
 have HCw:=zq (JT.out WC wc.heap.size _ _ (cap - f) (aQ eC.out hbC) rfl rfl gt);have HWC:=zq hWC;have HbC:=zq hbC;clear hWC hbC gt JT;go_upto_region 9 with (fail)
 go_cut [1] (fun v W=> ∃ g cap2,v=aD (some ⟨g,0,none⟩) n cap2∧bK (W.ownsRow w.heap.size 167 3 (aD (some ⟨g,0,none⟩) n cap2) n (fL rl))∧bK (Below wc.heap.size wc W));case first=>
  go_region_with (go_at_call 173;rw [HWC.out];(with_reducible refine HCw.out.mono ?_);rintro e w1 ⟨⟨g,c2,rfl,dI⟩,hb1⟩;have Sn:=zq dI;have vL:=zq (aQ HbC.out hb1);clear dI hb1);all_goals
   go_wp2;go_meet;case rel=> exact⟨g,c2,rfl,jO Sn.out (aU fV.out.size (aU eC.out.size HbC.out.size)),vL.out⟩
 case rest=>
 obtain⟨g0,cap2,rfl,Sn,eT⟩:=hcut;rename aF=> wd;have gu:=zq (aQ eC.out eT.out);have HR:=Sn;clear eC eT Sn HCw HWC HbC f0 f1 f2 f3 hcf IT hF;go_wp2;go_loopw [8,47] (fun o iv wr=> ∃ k:Nat,iv=aC aB k∧k≤n∧bK (wr.ownsRow W0.heap.size 68 3 o (iZ S xs ys rl k).length (cQ (iZ S xs ys rl k)))∧bK (wr.ownsRow w.heap.size 167 3 (aD (some ⟨g0,0,none⟩) n cap2) n (fL rl))∧bK (Below W0.heap.size W0 wr)) (fun _ iv _=> n - (aK iv).toNat);case atStart=> exact⟨0,rfl,bM _,tG _ _ _ _,HR.out,gu.out⟩
 case round=>
  clear gu HR;obtain⟨k,rfl,hk,HO,HR,HB⟩:=hrel;by_cases hlt:k < n
  ·have hlt2:(k:Int) < n:=by omega
   have hvk:=Hrv.out _ (bU (by rw [TZ.out];exact hlt) default:rl.getD k default∈rl);have WU:bK (∀ W,Below W0.heap.size W0 W→bE aE 174 #[aY (some ⟨G,0,none⟩),cF #[aC aB (rl.getD k default).x,aC aB (rl.getD k default).y],aC aB (rl.getD k default).d] W (Rt (aA (bs (Xi xs ys (rl.getD k default)))) W)):=fun W h=> way_lo hvk (TW.out.below h) (HL0.out.below h);have HHi:bK (∀ W,Below W0.heap.size W0 W→bE aE 174 #[aY (some ⟨G,0,none⟩),cF #[aC aB (jE (rl.getD k default).x (rl.getD k default).d),aC aB (jF (rl.getD k default).y (rl.getD k default).d)],aC aB (rl.getD k default).d] W (Rt (aA (bs (TU xs ys (rl.getD k default)))) W)):=fun W h=> way_hi hvk (TW.out.below h) (HL0.out.below h);have HSt:bK (∀ W,bE aE 169 #[cF #[aC aB (rl.getD k default).x,aC aB (rl.getD k default).y],aC aB (rl.getD k default).d] W (Rt (cF #[aC aB (jE (rl.getD k default).x (rl.getD k default).d),aC aB (jF (rl.getD k default).y (rl.getD k default).d)]) W)):=fun W=> by
    obtain⟨h1,h2,h3,h4,h5, -⟩:=hvk;exact wO _ _ _ h5 W (by omega) (by omega)
   have HSa:bK (∀ W,Below W0.heap.size W0 W→bE aE 172 #[cF #[aC aB (rl.getD (k - 1) default).x,aC aB (rl.getD (k - 1) default).y,aC aB (rl.getD (k - 1) default).d],cF #[aC aB (rl.getD k default).x,aC aB (rl.getD k default).y,aC aB (rl.getD k default).d],aY (some ⟨w.heap.size,0,none⟩)] W (Rt (aV (nT S (rl.getD (k - 1) default) (rl.getD k default))) W)):=fun W hW=>
    LM w.heap.size G _ _ m2 m3 m4 S N I _ _ W (TW.out.below hW) (nO.out.below hW nO.out.lt)
   have HNew:bK (k=0∨nT S (rl.getD (k - 1) default) (rl.getD k default)=false→iZ S xs ys rl (k + 1)=iZ S xs ys rl k ++ [⟨rR S (rl.getD k default),Xi xs ys (rl.getD k default),TU xs ys (rl.getD k default)⟩]):=fun h=> Ma S xs ys h;have T4:bK (0 < k→nT S (rl.getD (k - 1) default) (rl.getD k default)=true→∃ qs s a z,iZ S xs ys rl k=qs ++ [⟨s,a,z⟩]∧iZ S xs ys rl (k + 1)=qs ++ [⟨s,a,TU xs ys (rl.getD k default)⟩]):=fun h0 h=> JP S xs ys h0 h;have qz:=zq (fun (W:aF) (h:Below W0.heap.size W0 W)=> uJ (w:=W) (TW.out.below h).s (rl.getD k default).x (rl.getD k default).y (rl.getD k default).d);obtain⟨c0,c1,c2⟩:=CO.own HR.out k (by rw [TZ.out];exact hlt);obtain⟨b0,b1,b2⟩:=CO.own HR.out (k - 1) (by rw [TZ.out];omega);rw [cC] at c0 c1 c2 b0 b1 b2;obtain⟨j,hj⟩:∃ j,k - 1=j:=⟨_,rfl⟩;rw [hj] at b0 b1 b2 HSa HNew T4;obtain⟨ps2,hps2⟩:∃ p,iZ S xs ys rl (k + 1)=p:=⟨_,rfl⟩;have Hps2:=zq hps2;rw [hps2] at HNew T4;have Zv:bK ((iZ S xs ys rl k).length≤k):=Mb S xs ys rl k;generalize iZ S xs ys rl k=ps at *;generalize Xi xs ys (rl.getD k default)=LO at *;generalize TU xs ys (rl.getD k default)=HI at *;generalize nT S (rl.getD j default) (rl.getD k default)=sv at *;have qz:bK (∀ W,Below W0.heap.size W0 W→eH aE (iR 151 (.map (some m2)) (cF #[aC aB (rl.getD k default).x,aC aB (rl.getD k default).y,aC aB (rl.getD k default).d]) false) W= .ok (aC aB (rR S (rl.getD k default))) W):=qz.out;generalize rR S (rl.getD k default)=SD at *;generalize rl.getD j default=vj at *;generalize rl.getD k default=vk at *;obtain⟨vx,vy,vd⟩:=vk;obtain⟨jx,jy,jd⟩:=vj;simp only [] at *;generalize jE vx vd=sx at *;generalize jF vy vd=sy at *;obtain⟨WD,hWD⟩:∃ V,wr.alloc (aN #[aC aB vx,aC aB vy,aC aB vd] 167)=V:=⟨_,rfl⟩;have hbD:Below wr.heap.size wr WD:=by rw [← hWD];exact(aL _ _).alloc (aH _) _
   have HQD:bK (bT WD wr.heap.size #[aC aB vx,aC aB vy,aC aB vd] 167):=by rw [← hWD];exact bT.new _ _ _
   have HBD:=zq (aQ HB.out hbD);have HOD:=zq (bJ HO.out hbD);have HRD:=zq (bJ HR.out hbD);have HWD:=zq hWD;have z0:=bR hbD b0;have z1:=bR hbD b1;have z2:=bR hbD b2;clear hWD hbD hps2 hvk;go_upto_region 14 with (fail)
   rw [HWD.out];clear HWD c0 c1 c2 b0 b1 b2 HO HR HB;generalize wr.heap.size=NB at *;obtain⟨n0,n1,n2⟩:=HQD.out.three;have ln:=HQD.out.lt;have VW:=zq ((aL WD.heap.size WD).drew);obtain⟨nb,zz⟩:∃ nb,(decide (k=0) || !sv)=nb:=⟨_,rfl⟩;have Hnb:=zq zz;clear zz;go_cut [64] (fun v W=> v=aV nb∧bK (Below WD.heap.size WD W));case first=>
    by_cases hk0:k=0
    ·subst hk0;go_quiet (fail)
     go_wp2;go_meet;case rel=> exact⟨by rw [← Hnb.out];simp,by first | exact aL _ _ | exact below_drewN (aL _ _) _⟩
    ·have fg:((k:Int)==0)=false:=by rw [beq_eq_false_iff_ne];omega
     have wj:IntKind.i64.wrap ((k:Int) - 1)=(j:Int):=(bI _ (by omega)).trans (by omega);have j1:(j:Int) < n:=by omega
     have hkd:decide (k=0)=false:=decide_eq_false hk0;go_region_held3 (fun w' => w'.cell? ⟨g0,j * 3,none⟩=some (aC aB jx)∧w'.cell? ⟨g0,j * 3 + 1,none⟩=some (aC aB jy)∧w'.cell? ⟨g0,j * 3 + 2,none⟩=some (aC aB jd)∧w'.cell? ⟨NB,0,none⟩=some (aC aB vx)∧w'.cell? ⟨NB,1,none⟩=some (aC aB vy)∧w'.cell? ⟨NB,2,none⟩=some (aC aB vd)) (go_keep)
      (first
       | (go_at_call 172;(with_reducible refine(HSa.out _ (aQ HBD.out VW.out)).mono ?_);rintro e w1 ⟨rfl,hb1⟩;have eC:=zq (aQ VW.out hb1);have r0:=bR hb1 z0;have r1:=bR hb1 z1;have r2:=bR hb1 z2;have r3:=bR hb1 n0;have r4:=bR hb1 n1;have r5:=bR hb1 n2)
       | fail)
     all_goals
      go_wp2;go_meet;case rel=> exact⟨by rw [← Hnb.out];simp [fg,hk0],eC.out⟩
   case rest=>
   obtain⟨rfl,HB3⟩:=hcut;have gw:=zq (aQ HBD.out HB3.out);have HOE:=zq (bJ HOD.out HB3.out);have HRE:=zq (bJ HRD.out HB3.out);have HQE:=zq (HQD.out.below HB3.out HQD.out.lt);clear HBD HOD HRD HQD HB3 n0 n1 n2 ln z0 z1 z2 HSa VW;rename aF=> we;have Er:ps.length≤10000:=by have:=Zv.out;omega
   have a0:=(nO.out.below gw.out nO.out.lt).cell 0;have g2:=(TW.out.below gw.out).blk.cell 2;obtain⟨n0,n1,n2⟩:=HQE.out.three;simp only [aJ,aI,bC] at a0 g2;have hA:=nO.out.below gw.out nO.out.lt;have hG:=(TW.out.below gw.out).blk;have VW:=zq ((aL we.heap.size we).drew);cases nb
   ·have hk0:0 < k:=by
     rcases jM k with e | e
     ·have:=Hnb.out;rw [e] at this;simp at this
     ·exact e
    have hsv:sv=true:=by have:=Hnb.out;cases sv <;> simp at this ⊢
    obtain⟨qs,s5,a5,z5,hq1,he5⟩:=T4.out hk0 hsv;obtain⟨m,hm⟩:∃ m,qs.length=m:=⟨_,rfl⟩;have hpm:ps.length=m + 1:=by rw [hq1,bO,hm];rfl
    have hoe:=HOE.out;rw [hpm,hq1] at hoe;obtain⟨g5,c5,rfl⟩:=oN (Nat.succ_pos m) hoe;have Km:=zq hoe;have HBF:=gw;have HRF:=HRE;have HQF:=HQE;have HE5:=zq he5;have Hm:=zq hm;rename aF=> wf;clear a0 g2 n0 n1 n2 hA hG gw HOE HRE HQE VW WU HNew T4 hoe he5 hm hq1;have wl:IntKind.i64.wrap ((m:Int) + 1 - 1)=(m:Int):=(bI _ (by omega)).trans (by omega);have i1:(m:Int) < (m:Int) + 1:=by omega
    have wl2:IntKind.i64.wrap (m:Int)=(m:Int):=bI _ (by omega);have i0:(0:Int)≤(m:Int):=by omega
    have a0:=(nO.out.below HBF.out nO.out.lt).cell 0;obtain⟨n0,n1,n2⟩:=HQF.out.three;have y0:=dZ Km.out (m * 3 + 2) (by omega);rw [(qK (qs ++ [(⟨s5,a5,z5⟩:Pt)]) m (by rw [bO,Hm.out];exact Od _)).2.2] at y0;have y1:=kF Km.out (m * 3 + 2);have ly:=(kU Km.out).2.1;simp only [aJ,aI,bC] at a0;have VW:=zq ((aL wf.heap.size wf).drew);have HnA:bK (w.heap.size≠g5):=fun e=> Gy (nO.out.below HBF.out nO.out.lt) Km.out (by decide) (by rw [e];rfl);have HnN:bK (NB≠g5):=fun e=> Gy HQF.out Km.out (by decide) (by rw [e];rfl);generalize bs ((qs ++ [(⟨s5,a5,z5⟩:Pt)]).getD m default).en=Z at *;go_upto_region 16 with (fail)
    go_region_held3 (fun w' => w'.cell? ⟨w.heap.size,0,none⟩=some (aY (some ⟨G,0,none⟩))∧w'.cell? ⟨NB,0,none⟩=some (aC aB vx)∧w'.cell? ⟨NB,1,none⟩=some (aC aB vy)∧w'.cell? ⟨NB,2,none⟩=some (aC aB vd)) (first | go_keep | ((refine⟨?_, ?_, ?_, ?_⟩) <;> (refine TV (by intro e;injection e with e1 e2;(first | exact HnA.out e1 | exact HnN.out e1)) ?_;assumption)))
     (first
      | (go_at_call 169;(with_reducible refine(HSt.out _).mono ?_);rintro e w1 ⟨rfl,hb1⟩;have eC:=zq (aQ VW.out hb1);have r0:=bR eC.out a0;have r2:=bR eC.out n0;have r3:=bR eC.out n1;have r4:=bR eC.out n2)
      | (go_at_call 174;(with_reducible refine(HHi.out _ (aQ HBF.out eC.out)).mono ?_);rintro e w2 ⟨rfl,hb2⟩;have eT:=zq (aQ eC.out hb2);have r0:=bR eT.out a0;have r2:=bR eT.out n0;have r3:=bR eT.out n1;have r4:=bR eT.out n2;have r5:=bR eT.out y0;have r6:=kF (bJ Km.out eT.out) (m * 3 + 2);have l2:=(kU (bJ Km.out eT.out)).2.1;have HOH:=zq (Md (bJ Km.out eT.out) Hm.out HI);have HOI:=zq (zZ (bJ Km.out eT.out) (m * 3 + 2) (aA (bs HI))).2)
      | fail)
    all_goals
     have HC6:bK (_∧_∧_):=⟨HOH.out,dO (v:=aD (some ⟨g5,0,none⟩) (m + 1) c5) (aQ HBF.out eT.out) HOI.out (bJ Km.out eT.out) (aH _) (aU HBF.out.size eT.out.size),(bJ HRF.out eT.out).kept HOI.out (pE (bJ HRF.out eT.out) (bJ Km.out eT.out) (by decide))⟩;obtain⟨re,zV,HR6⟩:=HC6.out;go_wp2;go_roundw;case rel=> exact⟨k + 1,by go_num,by omega,by rw [Hps2.out,HE5.out,show(qs ++ [(⟨s5,a5,HI⟩:Pt)]).length=m + 1 by rw [bO,Hm.out];rfl];exact re,HR6,zV⟩
     case measure=> simp only [aK];omega
   ·have l0:=qz.out we.drew (aQ gw.out VW.out);have lA2:=hA.lt;have lG2:=hG.lt;have ln2:=HQE.out.lt;have HHA:=zq hA;have HHG:=zq hG;clear hA hG;go_upto_region 15 with (fail)
    go_cut [8] (fun v W=> ∃ g c,v=aD (some ⟨g,0,none⟩) (ps.length + 1) c∧bK (W.ownsRow W0.heap.size 68 3 (aD (some ⟨g,0,none⟩) (ps.length + 1) c) (ps.length + 1) (cQ (ps ++ [⟨SD,LO, []⟩])))∧bK (Below W0.heap.size W0 W)∧bK (W.ownsRow w.heap.size 167 3 (aD (some ⟨g0,0,none⟩) n cap2) n (fL rl))∧bK (bT W NB #[aC aB vx,aC aB vy,aC aB vd] 167));case first=>
     go_region_held3 (fun w' => w'.cell? ⟨w.heap.size,0,none⟩=some (aY (some ⟨G,0,none⟩))∧w'.cell? ⟨G,2,none⟩=some (.map (some m2))∧w'.cell? ⟨NB,0,none⟩=some (aC aB vx)∧w'.cell? ⟨NB,1,none⟩=some (aC aB vy)∧w'.cell? ⟨NB,2,none⟩=some (aC aB vd)) (go_keep)
      (first
       | (go_at_call 174;(with_reducible refine(WU.out _ (aQ gw.out VW.out)).mono ?_);rintro e w1 ⟨rfl,hb1⟩;have eC:=zq (aQ VW.out hb1);have r0:=bR eC.out a0;have r1:=bR eC.out g2;have r2:=bR eC.out n0;have r3:=bR eC.out n1;have r4:=bR eC.out n2;have l1:=qz.out w1 (aQ gw.out eC.out))
       | (refine gp (by rfl) _ _ (by rfl) W0.heap.size u8 ps.length _ (by rfl) (bJ HOE.out (eC.out.alloc eC.out.size _)) w1.heap.size SD (bs LO) ⟨#[]⟩ (by rfl) (bT.new w1 _ _) (by omega) (aU gw.out.size (eC.out.alloc eC.out.size _).size) ?_;intro g5 c5 w5 iV oS hat5;have hal:=eC.out.alloc eC.out.size (aN #[aC aB SD,aA (bs LO),aA ⟨#[]⟩] 68);have hoo:=bJ HOE.out hal;have HP5:=zq (partAt (HHA.out.below hal HHA.out.lt) (HHG.out.below hal HHG.out.lt) (HQE.out.below hal HQE.out.lt) hoo oS);obtain⟨p0,p1,p2,p3,p4⟩:=HP5.out;have QD:=zq iV;have xX:=zq (dO (aQ gw.out hal) oS hoo (aH _) (aU gw.out.size hal.size));have rh:=zq ((bJ HRE.out hal).kept oS (pE (bJ HRE.out hal) hoo (by decide)));have vG:=zq (QI (HQE.out.below hal HQE.out.lt) hoo (by decide) oS);clear hal hoo oS hat5 iV)
       | fail)
     all_goals
      go_wp2;go_meet;case rel=> exact⟨g5,c5,rfl,by rw [QG];exact QD.out,xX.out,rh.out,vG.out⟩
    case rest=>
    obtain⟨g5,c5,rfl,Km,HBF,HRF,HQF⟩:=hcut;rename aF=> wf;have HE5:bK (ps2=ps ++ [⟨SD,LO,HI⟩]):=HNew.out (by
     have:=Hnb.out;simp only [jC,decide_eq_true_eq,Bool.not_eq_true'] at this;exact this)
    clear a0 g2 n0 n1 n2 l0 lA2 lG2 ln2 HHA HHG gw HOE HRE HQE VW WU HNew T4;obtain⟨z5,hz5⟩:∃ z:List UInt8,([]:List UInt8)=z:=⟨_,rfl⟩;rw [hz5] at Km;obtain⟨m,hm⟩:∃ m,ps.length=m:=⟨_,rfl⟩;rw [hm] at Er Km ⊢;have Hm:=zq hm;clear hz5 hm;generalize ps=qs at *;generalize SD=s5 at *;generalize LO=a5 at *;have wl:IntKind.i64.wrap ((m:Int) + 1 - 1)=(m:Int):=(bI _ (by omega)).trans (by omega);have i1:(m:Int) < (m:Int) + 1:=by omega
    have wl2:IntKind.i64.wrap (m:Int)=(m:Int):=bI _ (by omega);have i0:(0:Int)≤(m:Int):=by omega
    have a0:=(nO.out.below HBF.out nO.out.lt).cell 0;obtain⟨n0,n1,n2⟩:=HQF.out.three;have y0:=dZ Km.out (m * 3 + 2) (by omega);rw [(qK (qs ++ [(⟨s5,a5,z5⟩:Pt)]) m (by rw [bO,Hm.out];exact Od _)).2.2] at y0;have y1:=kF Km.out (m * 3 + 2);have ly:=(kU Km.out).2.1;simp only [aJ,aI,bC] at a0;have VW:=zq ((aL wf.heap.size wf).drew);have HnA:bK (w.heap.size≠g5):=fun e=> Gy (nO.out.below HBF.out nO.out.lt) Km.out (by decide) (by rw [e];rfl);have HnN:bK (NB≠g5):=fun e=> Gy HQF.out Km.out (by decide) (by rw [e];rfl);generalize bs ((qs ++ [(⟨s5,a5,z5⟩:Pt)]).getD m default).en=Z at *;go_upto_region 16 with (fail)
    go_region_held3 (fun w' => w'.cell? ⟨w.heap.size,0,none⟩=some (aY (some ⟨G,0,none⟩))∧w'.cell? ⟨NB,0,none⟩=some (aC aB vx)∧w'.cell? ⟨NB,1,none⟩=some (aC aB vy)∧w'.cell? ⟨NB,2,none⟩=some (aC aB vd)) (first | go_keep | ((refine⟨?_, ?_, ?_, ?_⟩) <;> (refine TV (by intro e;injection e with e1 e2;(first | exact HnA.out e1 | exact HnN.out e1)) ?_;assumption)))
     (first
      | (go_at_call 169;(with_reducible refine(HSt.out _).mono ?_);rintro e w1 ⟨rfl,hb1⟩;have eC:=zq (aQ VW.out hb1);have r0:=bR eC.out a0;have r2:=bR eC.out n0;have r3:=bR eC.out n1;have r4:=bR eC.out n2)
      | (go_at_call 174;(with_reducible refine(HHi.out _ (aQ HBF.out eC.out)).mono ?_);rintro e w2 ⟨rfl,hb2⟩;have eT:=zq (aQ eC.out hb2);have r0:=bR eT.out a0;have r2:=bR eT.out n0;have r3:=bR eT.out n1;have r4:=bR eT.out n2;have r5:=bR eT.out y0;have r6:=kF (bJ Km.out eT.out) (m * 3 + 2);have l2:=(kU (bJ Km.out eT.out)).2.1;have HOH:=zq (Md (bJ Km.out eT.out) Hm.out HI);have HOI:=zq (zZ (bJ Km.out eT.out) (m * 3 + 2) (aA (bs HI))).2)
      | fail)
    all_goals
     have HC6:bK (_∧_∧_):=⟨HOH.out,dO (v:=aD (some ⟨g5,0,none⟩) (m + 1) c5) (aQ HBF.out eT.out) HOI.out (bJ Km.out eT.out) (aH _) (aU HBF.out.size eT.out.size),(bJ HRF.out eT.out).kept HOI.out (pE (bJ HRF.out eT.out) (bJ Km.out eT.out) (by decide))⟩;obtain⟨re,zV,HR6⟩:=HC6.out;go_wp2;go_roundw;case rel=> exact⟨k + 1,by go_num,by omega,by rw [Hps2.out,HE5.out,show(qs ++ [(⟨s5,a5,HI⟩:Pt)]).length=m + 1 by rw [bO,Hm.out];rfl];exact re,HR6,zV⟩
     case measure=> simp only [aK];omega
  ·obtain rfl:k=n:=by omega
   have HZ:bK (fA S xs ys l=iZ S xs ys rl k):=HPW.out;obtain⟨g,c,rfl⟩:=oN (Mc S xs ys rl NK) HO.out;rw [← HZ.out] at HO;have LC:=zq (jO HO.out fV.out.size);have HBz:=zq (aQ fV.out HB.out);have HZl:bK ((iZ S xs ys rl k).length=(fA S xs ys l).length):=by show _=_;rw [HZ.out]
   clear HPW;go_wp2;go_ret;exact⟨⟨g,c,by rw [← HZl.out] <;> rfl,LC.out⟩,HBz.out⟩
end
section
instance(s:Sg)(x y:Int)(d:Nat):Decidable (Iv s x y d):=by
 unfold Iv;split <;>infer_instance
def yO(w:Wy)(Xk:Option Int)(s:Sg):Option Int:=
 if Iv s w.x w.y w.d then(match Xk with |none=>some s.side|some t=>if s.side<t then some s.side else some t)else Xk
def tR(E:List Sg)(w:Wy):Option Int:=E.foldl (yO w) none
theorem CP(E:List Sg)(s:Sg)(w:Wy):tR (E++[s]) w=yO w (tR E w) s:=by
 unfold tR;rw[Kz];rfl
theorem Me{w:Wy}{Xk:Option Int}{s:Sg}(h:Xk.isSome=true∨Iv s w.x w.y w.d):(yO w Xk s).isSome=true:=by
 unfold yO;split
 ·split
  ·rfl
  ·split <;>rfl
 ·rcases h with h|h
  ·exact h
  ·exact absurd h ‹_›
theorem Xl (E : List Sg) (w : Wy) : ∀ Xk : Option Int, (Xk.isSome = true ∨ ∃ s ∈ E, Iv s w.x w.y w.d) → (E.foldl (yO w) Xk).isSome = true := by
  induction E with
  | nil => rintro Xk (h | ⟨s, hs, -⟩)
           · exact h
           · cases hs
  | cons s E ih =>
    intro Xk h
    refine ih _ ?_
    rcases h with h | ⟨t, ht, ho⟩
    · exact .inl (Me (.inl h))
    · rcases List.mem_cons.1 ht with rfl | ht
      · exact .inl (Me (.inr ho))
      · exact .inr ⟨t, ht, ho⟩
theorem OV{E:List Sg}{w:Wy}{s:Sg}(hs:s∈E)(h:Iv s w.x w.y w.d):(tR E w).isSome=true:=Xl E w none (.inr ⟨s,hs,h⟩)
theorem gz(E:List Sg)(w:Wy)(t:Int):∀Xk:Option Int,E.foldl (yO w) Xk=some t→Xk=some t∨∃s∈E,Iv s w.x w.y w.d∧s.side=t:=by
 induction E with
 |nil=>intro Xk h;exact .inl h
 |cons s E ih=>
  intro Xk h;rcases ih _ h with h1|⟨u,hu,h1⟩
  ·unfold yO at h1;split at h1
   ·rename_i ho;split at h1
    ·cases h1;exact .inr ⟨s,cW ..,ho,rfl⟩
    ·split at h1
     ·cases h1;exact .inr ⟨s,cW ..,ho,rfl⟩
     ·exact .inl h1
   ·exact .inl h1
  ·exact .inr ⟨u,dA _ hu,h1⟩
theorem Mf{E:List Sg}{w:Wy}{t:Int}(h:tR E w=some t):∃s∈E,Iv s w.x w.y w.d∧s.side=t:=by
 rcases gz E w t none h with h|h
 ·cases h
 ·exact h
def Fc(E:List Sg)(x y:Int):Int:=oH (fun s=>if s.up=true∧s.line=x then xR s.a s.b y else 0) E
theorem IX(E:List Sg)(s:Sg)(x y:Int):Fc (E++[s]) x y=Fc E x y+(if s.up=true∧s.line=x then xR s.a s.b y else 0):=by
 unfold Fc;rw[Bd];simp only[oH];omega
structure jI(E:List Sg)(S N:List (Wy×Int)):Prop where
 net:∀x y:Int,(gV N ⟨x,y,1⟩).getD 0=Fc E x y
 sid:∀w:Wy,w.d<4→gV S w=tR E w
theorem jI.nil:jI [] [] []:=⟨fun _ _=>rfl,fun _ _=>rfl⟩
def Kn(up back:Bool):Nat:=if up=true then(if back=true then 3 else 1)else(if back=true then 2 else 0)
def eQ(a:Int)(back:Bool)(k:Nat):Int:=if back=true then a-k else a+k
def sU(side:Int)(up:Bool)(line a:Int)(back:Bool)(k:Nat):Sg:=⟨side,up,line,a,eQ a back k⟩
def rF(up:Bool)(line p:Int):Int×Int:=if up=true then(line,p)else(p,line)
def sG(up:Bool)(line a:Int)(back:Bool)(k:Nat):Wy:=⟨(rF up line (eQ a back k)).1,(rF up line (eQ a back k)).2,Kn up back⟩
theorem Gz(up:Bool)(line a:Int)(back:Bool)(k:Nat):(jE (sG up line a back k).x (Kn up back),jF (sG up line a back k).y (Kn up back))=rF up line (eQ a back (k+1)):=by
 cases up<;>cases back<;>simp[sG,Kn,rF,eQ,jE,jF]<;>omega
theorem onW_cut(side:Int)(up:Bool)(line a:Int)(back:Bool)(k:Nat)(w:Wy)(hw:w.d<4):Iv (sU side up line a back (k+1)) w.x w.y w.d↔(Iv (sU side up line a back k) w.x w.y w.d∨w=sG up line a back k):=by
 obtain⟨x,y,d⟩:=w;dsimp only at hw⊢;rw[sG,Wy.mk.injEq];match d,hw with
 |0,_=>cases up<;>cases back<;>simp(config:={decide:=true}) only[Iv,sU,Kn,rF,eQ,bS,reduceCtorEq,if_true,if_false,true_and,false_and,and_false,or_false,false_or,and_true]<;>omega
 |1,_=>cases up<;>cases back<;>simp(config:={decide:=true}) only[Iv,sU,Kn,rF,eQ,bS,reduceCtorEq,if_true,if_false,true_and,false_and,and_false,or_false,false_or,and_true]<;>omega
 |2,_=>cases up<;>cases back<;>simp(config:={decide:=true}) only[Iv,sU,Kn,rF,eQ,bS,reduceCtorEq,if_true,if_false,true_and,false_and,and_false,or_false,false_or,and_true]<;>omega
 |3,_=>cases up<;>cases back<;>simp(config:={decide:=true}) only[Iv,sU,Kn,rF,eQ,bS,reduceCtorEq,if_true,if_false,true_and,false_and,and_false,or_false,false_or,and_true]<;>omega
theorem onW_self(side:Int)(up:Bool)(line a:Int)(back:Bool)(k:Nat):¬Iv (sU side up line a back k) (sG up line a back k).x (sG up line a back k).y (sG up line a back k).d:=by
 cases up<;>cases back<;>simp only[Iv,sU,sG,Kn,rF,eQ,bS,if_true,if_false]<;>omega
theorem onW_zero(side:Int)(up:Bool)(line a:Int)(back:Bool)(w:Wy):¬Iv (sU side up line a back 0) w.x w.y w.d:=by
 obtain⟨x,y,d⟩:=w;dsimp only;unfold Iv;split <;>cases up<;>cases back<;>simp only[sU,eQ,bS,reduceCtorEq,if_true,if_false,true_and,false_and,and_false,not_false_eq_true]<;>omega
theorem crs_step(a:Int)(k:Nat)(y:Int):xR a (a+((k+1:Nat):Int)) y=xR a (a+k) y+(if y=a+k then 1 else 0)∧xR a (a-((k+1:Nat):Int)) y=xR a (a-k) y-(if y=a-((k+1:Nat):Int)then 1 else 0):=by
 unfold xR;constructor <;>(repeat' split)<;>omega
theorem jI.zero{E:List Sg}{S N:List (Wy×Int)}{side:Int}{up:Bool}{line a:Int}{back:Bool}:jI (E++[sU side up line a back 0]) S N↔jI E S N:=by
 have h1:∀x y,Fc (E++[sU side up line a back 0]) x y=Fc E x y:=fun x y=>by
  rw[IX];have:xR a (eQ a back 0) y=0:=by
   have e:eQ a back 0=a:=by cases back<;>simp[eQ]
   rw[e];unfold xR;(repeat' split)<;>omega
  simp only[sU,this];split <;>omega
 have h2:∀w,tR (E++[sU side up line a back 0]) w=tR E w:=fun w=>by
  rw[CP];unfold yO;rw[iN (onW_zero side up line a back w)]
 constructor
 ·rintro⟨k1,k2⟩;exact⟨fun x y=>by rw[k1,h1],fun w hw=>by rw[k2 w hw,h2]⟩
 ·rintro⟨k1,k2⟩;exact⟨fun x y=>by rw[k1,h1],fun w hw=>by rw[k2 w hw,h2]⟩
theorem jI.side{E:List Sg}{S N:List (Wy×Int)}{side:Int}{up:Bool}{line a:Int}{back:Bool}{k:Nat}(h:jI (E++[sU side up line a back k]) S N):
 ∀w:Wy,w.d<4→tR (E++[sU side up line a back (k+1)]) w=if w=sG up line a back k then(match gV S w with |none=>some side|some t=>if side<t then some side else some t)else gV S w:=by
 intro w hw;rw[h.sid w hw,CP,CP];unfold yO;have ho:=onW_cut side up line a back k w hw;by_cases e:w=sG up line a back k
 ·rw[ip e,ip (ho.2 (.inr e))];rw[iN (by rw[e];exact onW_self side up line a back k)];rfl
 ·rw[iN e];by_cases ho2:Iv (sU side up line a back k) w.x w.y w.d
  ·rw[ip (ho.2 (.inl ho2)),ip ho2];rfl
  ·rw[iN (fun c=>(ho.1 c).elim ho2 e),iN ho2]
theorem jI.nets{E:List Sg}{S N:List (Wy×Int)}{side:Int}{up:Bool}{line a:Int}{back:Bool}{k:Nat}(h:jI (E++[sU side up line a back k]) S N)(x y:Int):
 Fc (E++[sU side up line a back (k+1)]) x y=(gV N ⟨x,y,1⟩).getD 0+(if up=true then(if back=true then(if(x,y)=rF up line (eQ a back (k+1))then -1 else 0)else(if(x,y)=rF up line (eQ a back k)then 1 else 0))else 0):=by
 rw[h.net,IX,IX];obtain⟨c1,c2⟩:=crs_step a k y;cases up<;>cases back<;>simp only[sU,eQ,rF,bS,false_and,true_and,if_true,if_false,KG]
 ·omega
 ·omega
 ·rw[c1];by_cases e:line=x
  ·rw[ip e,ip e];by_cases e2:y=a+k
   ·rw[ip e2,ip ⟨e.symm,e2⟩];omega
   ·rw[iN e2,iN (fun c=>e2 c.2)];omega
  ·rw[iN e,iN e,iN (fun c=>e c.1.symm)];omega
 ·rw[c2];by_cases e:line=x
  ·rw[ip e,ip e];by_cases e2:y=a-((k+1:Nat):Int)
   ·rw[ip e2,ip ⟨e.symm,e2⟩];omega
   ·rw[iN e2,iN (fun c=>e2 c.2)];omega
  ·rw[iN e,iN e,iN (fun c=>e c.1.symm)];omega
theorem jI.next{E:List Sg}{S N S' N':List (Wy×Int)}{side:Int}{up:Bool}{line a:Int}{back:Bool}{k:Nat}(h:jI (E++[sU side up line a back k]) S N)
 (hS:S'=S∧(∃t,gV S (sG up line a back k)=some t∧t≤side)∨S'=gI S (sG up line a back k) side∧(∀t,gV S (sG up line a back k)=some t→side<t))
 (hN:N'=N∧up=false∨N'=gI N ⟨(rF up line (eQ a back (if back=true then k+1 else k))).1,(rF up line (eQ a back (if back=true then k+1 else k))).2,1⟩ ((gV N ⟨(rF up line (eQ a back (if back=true then k+1 else k))).1,(rF up line (eQ a back (if back=true then k+1 else k))).2,1⟩).getD 0+(if back=true then -1 else 1))∧up=true):
 jI (E++[sU side up line a back (k+1)]) S' N':=by
 refine⟨fun x y=>?_,fun w hw=>?_⟩
 ·rw[h.nets x y];rcases hN with⟨rfl,rfl⟩|⟨rfl,rfl⟩
  ·simp
  ·rw[Ai];cases back<;>simp only[bS,if_true,if_false,Wy.mk.injEq,and_true]
   ·by_cases e:(rF true line (eQ a false k)).1=x∧(rF true line (eQ a false k)).2=y
    ·rw[ip e,ip (by rw[←e.1,←e.2]),e.1,e.2];rfl
    ·rw[iN e,iN (fun c=>e ⟨by rw[←c],by rw[←c]⟩)];omega
   ·by_cases e:(rF true line (eQ a true (k+1))).1=x∧(rF true line (eQ a true (k+1))).2=y
    ·rw[ip e,ip (by rw[←e.1,←e.2]),e.1,e.2];rfl
    ·rw[iN e,iN (fun c=>e ⟨by rw[←c],by rw[←c]⟩)];omega
 ·rw[h.side w hw];rcases hS with⟨rfl,t,ht,hn⟩|⟨rfl,hn⟩
  ·by_cases e:w=sG up line a back k
   ·rw[ip e,e,ht];simp[show¬side<t by omega]
   ·rw[iN e]
  ·rw[Ai];by_cases e:w=sG up line a back k
   ·rw[ip e,ip e.symm,e];cases hm:gV S (sG up line a back k)with
    |none=>rfl
    |some t=>simp[hn t hm]
   ·rw[iN e,iN (fun c=>e c.symm)]
theorem GA{a:Int}{back:Bool}{j k:Nat}(h:eQ a back j=eQ a back k):j=k:=by
 cases back<;>simp only[eQ,bS,if_true,if_false]at h<;>omega
theorem latS(up:Bool)(line p:Int):(if up=true then(rF up line p).2 else(rF up line p).1)=p:=by cases up<;>rfl
end
section
open Go Go.RowKit Go.Lib
structure fW(X:Nat→Prop)(W W':aF):Prop where
 os:W'.os=W.os
 tape:W'.tape=W.tape
 output:W'.output=W.output
 size:W.heap.size≤W'.heap.size
 block:∀k,k<W.heap.size→¬X k→W'.heap[k]? =W.heap[k]?
theorem fW.refl(X:Nat→Prop)(W:aF):fW X W W:=⟨rfl,rfl,rfl,aH _,fun _ _ _=>rfl⟩
theorem fW.trans{X:Nat→Prop}{A B C:aF}(h:fW X A B)(k:fW X B C):fW X A C:=
 ⟨k.os.trans h.os,k.tape.trans h.tape,k.output.trans h.output,aU h.size k.size,fun i hi hn=>(k.block i (dC hi h.size) hn).trans (h.block i hi hn)⟩
theorem fW.of_below{X:Nat→Prop}{W W':aF}(h:Below W.heap.size W W'):fW X W W':=⟨h.os,h.tape,h.output,h.size,fun k hk _=>h.block k hk⟩
theorem fW.step{X:Nat→Prop}{A B C:aF}(h:fW X A B)(k:Below B.heap.size B C):fW X A C:=h.trans (.of_below k)
theorem fW.below{X:Nat→Prop}{W W':aF}{B:Nat}(h:fW X W W')(hB:B≤W.heap.size)(hX:∀k,X k→B≤k):Below B W W':=
 ⟨h.os,h.tape,h.output,h.size,fun k hk=>h.block k (dC hk hB) fun c=>absurd (hX k c) (by omega)⟩
theorem fW.putObj{X:Nat→Prop}(W:aF){m:Nat}(hm:X m)(o:Obj):fW X W (W.putObj m o):=
 ⟨rfl,rfl,rfl,by show _≤(wC _ _ _).size;rw[Array.size_setIfInBounds];exact aH _,fun k _ hn=>by
  show(wC _ _ _)[k]? =_
  rw[vQ,iN (fun e=>hn (by rw[←e];exact hm))]⟩
theorem fW.obj{X:Nat→Prop}{W W':aF}{m:Nat}{o:Obj}(h:fW X W W')(hm:W.heap[m]? =some o)(hn:¬X m):W'.heap[m]? =some o:=(h.block m (Array.getElem?_eq_some_iff.1 hm).1 hn).trans hm
theorem fW.blk{X:Nat→Prop}{W W':aF}{b:Nat}{cs:Array aP}{T:dT}(h:fW X W W')(hb:bT W b cs T)(hn:¬X b):bT W' b cs T:=h.obj hb hn
theorem fW.cell{X:Nat→Prop}{W W':aF}{a:cO}{v:aP}(h:fW X W W')(hc:W.cell? a=some v)(hn:¬X a.block):W'.cell? a=some v:=by
 have hlt:=bB W a hc;rw[←hc];unfold World.cell?;rw[h.block a.block hlt hn]
theorem eW(W:aF)(m k:Nat)(o:Obj)(h:m≠k):(W.putObj m o).heap[k]? =W.heap[k]? :=by
 show(wC _ _ _)[k]? =_;rw[vQ,iN h]
theorem yP{W:aF}{m:Nat}{u:Obj}(h:W.heap[m]? =some u)(o:Obj):(W.putObj m o).heap[m]? =some o:=by
 show(wC _ _ _)[m]? =_;rw[vQ,ip rfl,ip (Array.getElem?_eq_some_iff.1 h).1]
def CQ(m2 m3 m4:Nat):Prop:=m2≠m3∧m2≠m4∧m3≠m4
theorem kJ{W:aF}{b m:Nat}{cs:Array aP}{T:dT}{es:Array MapEntry}{c:Nat}(hb:bT W b cs T)(hm:W.heap[m]? =some (.map es c)):m≠b:=by
 intro e;subst e;have hb:W.heap[m]? =some (aN cs T (0,0)):=hb;rw[hm]at hb;cases hb
theorem Fe{W:aF}{b c:Nat}{cs ds:Array aP}{T U:dT}(h:bT W b cs T)(k:bT W c ds U)(iC:T≠U):b≠c:=by
 intro e;subst e;have h':W.heap[b]? =some (aN cs T (0,0)):=h;have k':W.heap[b]? =some (aN ds U (0,0)):=k;rw[h']at k';cases k';exact iC rfl
section
variable{W:aF}{G:Nat}{xv yv:aP}{m2 m3 m4:Nat}{S N:WL}{I:SL}
theorem gN.putI(h:gN W G xv yv m2 m3 m4 S N I)(ha:CQ m2 m3 m4)(J:SL):gN (W.putObj m4 (iU kS vB J)) G xv yv m2 m3 m4 S N J:=
 ⟨(eW _ _ _ _ (kJ h.blk h.i)).trans h.blk,(eW _ _ _ _ (Ne.symm ha.2.1)).trans h.s,(eW _ _ _ _ (Ne.symm ha.2.2)).trans h.n,yP h.i _⟩
theorem gN.putS(h:gN W G xv yv m2 m3 m4 S N I)(ha:CQ m2 m3 m4)(J:WL):gN (W.putObj m2 (iU kW vI J)) G xv yv m2 m3 m4 J N I:=
 ⟨(eW _ _ _ _ (kJ h.blk h.s)).trans h.blk,yP h.s _,(eW _ _ _ _ ha.1).trans h.n,(eW _ _ _ _ ha.2.1).trans h.i⟩
theorem gN.putN(h:gN W G xv yv m2 m3 m4 S N I)(ha:CQ m2 m3 m4)(J:WL):gN (W.putObj m3 (iU kW vI J)) G xv yv m2 m3 m4 S J I:=
 ⟨(eW _ _ _ _ (kJ h.blk h.n)).trans h.blk,(eW _ _ _ _ (Ne.symm ha.1)).trans h.s,yP h.n _,(eW _ _ _ _ ha.2.2).trans h.i⟩
end
theorem OW{f:Sg→Int}{l:List Sg}(h:∀s∈l,-1≤f s∧f s≤1): -(l.length:Int)≤oH f l∧oH f l≤l.length:=by
 induction l with
 |nil=>exact⟨by simp[oH],by simp[oH]⟩
 |cons s l ih=>
  have h1:=h s (cW ..);have h2:=ih fun t ht=>h t (dA _ ht);simp only[oH,bD];omega
theorem OX(a b y:Int): -1≤xR a b y∧xR a b y≤1:=by unfold xR;split;omega;split <;>omega
theorem Ff(E:List Sg)(x y:Int): -(E.length:Int)≤Fc E x y∧Fc E x y≤E.length:=OW fun s _=>by
 have:=OX s.a s.b y
 split <;>omega
theorem T5(E:List Sg)(i k:Int): -(E.length:Int)≤dE E i k∧dE E i k≤E.length:=OW fun s _=>by
 have:=OX s.a s.b k
 unfold Lr
 split <;>omega
def mH(E:List Sg)(X Y:Nat)(y x:Int)(I:SL):Prop:=∀i j:Int,lZ I i j=decide (0≤i∧i+1<X∧0≤j∧j+1<Y∧(j<y∨(j=y∧x≤i))∧0<dE E i j)
theorem mH.init(E:List Sg)(X Y:Nat):mH E X Y 0 X []:=fun i j=>by
 symm
 show decide _=false
 rw[decide_eq_false_iff_not]
 omega
theorem mH.line{E:List Sg}{X Y:Nat}{y:Int}{I:SL}(h:mH E X Y y 0 I):mH E X Y (y+1) X I:=fun i j=>by
 rw[h i j,decide_eq_decide]
 constructor <;>(rintro⟨h1,h2,h3,h4,h5,h6⟩;exact⟨h1,h2,h3,h4,by omega,h6⟩)
theorem mH.few{E:List Sg}{X Y:Nat}{y x z:Int}{I:SL}(h:mH E X Y y x I)(hx:(X:Int)≤x+1)(hz:(X:Int)≤z+1):mH E X Y y z I:=fun i j=>by
 rw[h i j,decide_eq_decide]
 constructor <;>(rintro⟨h1,h2,h3,h4,h5,h6⟩;exact⟨h1,h2,h3,h4,by omega,h6⟩)
theorem mH.cell{E:List Sg}{X Y:Nat}{y x:Int}{I:SL}(h:mH E X Y y x I)(hx:0<x)(hX:x<X)(hy:0≤y)(hY:y+1<Y):mH E X Y y (x-1) (gI I (x-1,y) (decide (0<dE E (x-1) y))):=fun i j=>by
 unfold lZ
 rw[Ai]
 by_cases e:(x-1,y)=(i,j)
 ·rw[ip e]
  injection e with e1 e2
  subst e1;subst e2
  rw[bX,decide_eq_decide]
  constructor
  ·intro h1;exact⟨by omega,by omega,hy,hY,.inr ⟨rfl,by omega⟩,h1⟩
  ·rintro⟨-,-,-,-,-,h1⟩;exact h1
 ·rw[iN e]
  have h1:=h i j
  unfold lZ at h1
  rw[h1,decide_eq_decide]
  have e:¬(i=x-1∧j=y):=fun c=>e (by rw[c.1,c.2])
  constructor <;>(rintro⟨h1,h2,h3,h4,h5,h6⟩;exact⟨h1,h2,h3,h4,by omega,h6⟩)
theorem mH.done{E:List Sg}{X Y:Nat}{y:Int}{I:SL}(h:mH E X Y y X I)(hy:(Y:Int)≤y+1)(i j:Int):lZ I i j=gD X Y E i j:=by
 rw[h i j];unfold gD;rw[decide_eq_decide];constructor
 ·rintro⟨h1,h2,h3,h4,h5,h6⟩;exact⟨h1,h3,h2,h4,h6⟩
 ·rintro⟨h1,h2,h3,h4,h5⟩;exact⟨h1,h3,h2,h4,by omega,h5⟩
theorem OY(G:Nat)(xa ya:Option cO)(X Y cx cy m2 m3 m4:Nat)(S N:WL)(E:List Sg)(w:aF)(hX:X≤100000)(hY:Y≤100000)(hE:E.length≤100000)(ha:CQ m2 m3 m4)(hN:∀x y,rR N ⟨x,y,1⟩=Fc E x y)(hin:∀s∈E,s.line<X∨s.up=false)
 (hg:gN w G (aD xa X cx) (aD ya Y cy) m2 m3 m4 S N []):
 bE aE 104 #[aY (some ⟨G,0,none⟩)] w fun e w'=>(∃v,e=bA v)∧fW (·=m4) w w'∧∃I,gN w' G (aD xa X cx) (aD ya Y cy) m2 m3 m4 S N I∧∀i j,lZ I i j=gD X Y E i j:=by
 have H0:∀y,dE E ((X:Int)-1) y=0:=fun y=>Ct fun s hs=>by
  unfold Lr;rw[iN];rintro⟨h1,h2⟩;rcases hin s hs with h|h
  ·omega
  ·rw[h1]at h;cases h
 have H1:∀x y,dE E (x-1) y=dE E x y+Fc E x y:=fun x y=>KM E x y;have HG:=zq hg;have HZ:=zq H0;have HS:=zq H1;have HNt:=zq hN;have vL:=zq (T5 E);have HBn:=zq (Ff E);have HE:=zq hE;have HA:=zq ha;obtain⟨g0,g1,g2,g3,g4⟩:=hg.cells;clear hg hN hin H0 H1 hE ha;have wY:IntKind.i64.wrap ((Y:Int)-1)=(Y:Int)-1:=bI _ (by omega);go_enter func104,ntmps104;go_wp2;go_loopw[12] (fun i wr=>∃y:Nat,i=aC aB y∧y≤Y-1∧bK (fW (·=m4) w wr∧∃I,gN wr G (aD xa X cx) (aD ya Y cy) m2 m3 m4 S N I∧mH E X Y y X I)) (fun i _=>(Y-1)-(aK i).toNat);case atStart=>exact⟨0,rfl,by omega,fW.refl _ _,[],HG.out,mH.init E X Y⟩
 case round=>
  clear g0 g1 g2 g3 g4 HG;obtain⟨y,rfl,hy,HI⟩:=hrel;obtain⟨hk,I,hg,hi⟩:=HI.out;obtain⟨g0,g1,g2,g3,g4⟩:=hg.cells;have HK:=zq hk;have HG:=zq hg;have HW:=zq hi;clear HI hk hg hi;by_cases hlt:y<Y-1
  ·have hlt2:(y:Int)<max ((Y:Int)-1) 0:=by omega
   have hY:y+1<Y:=by omega
   have wX:IntKind.i64.wrap ((X:Int)-1)=(X:Int)-1:=bI _ (by omega);have FC:bK (∃I,mH E X Y y ((X:Int)-1) I):=⟨I,HW.out.few (by omega) (by omega)⟩;go_wp2;go_loopw[3,4] (fun n x wi=>∃k:Int,x=aC aB k∧n=aC aB (dE E k y)∧k<X∧(k=(X:Int)-1∨0≤k)∧bK (fW (·=m4) w wi∧∃I,gN wi G (aD xa X cx) (aD ya Y cy) m2 m3 m4 S N I∧mH E X Y y k I)) (fun _ x _=>(aK x+1).toNat);case atStart=>exact⟨(X:Int)-1,rfl,by rw[HZ.out],by omega,.inl rfl,HK.out,I,HG.out,HW.out.few (by omega) (by omega)⟩
   case round=>
    clear g0 g1 g2 g3 g4 HG HK HW FC;rename aF=>wo;obtain⟨k,rfl,rfl,hkX,hk0,HI⟩:=hrel;obtain⟨hk,I,hg,hi⟩:=HI.out;obtain⟨g0,g1,g2,g3,g4⟩:=hg.cells;have HK:=zq hk;have HG:=zq hg;have HW:=zq hi;clear HI hk hg hi;rename aF=>wi;have hb:=vL.out k y;have hbn:=HBn.out k y;have hb2:=vL.out (k-1) y;have hEl:=HE.out;by_cases hpos:0<k
    ·have qz:eH aE (iR 151 (.map (some m3)) (cF #[aC aB k,aC aB y,aC aB 1]) false) wi=.ok (aC aB (Fc E k y)) wi:=by
      rw[←HNt.out];exact uJ (w:=wi) HG.out.n k y 1
     have HUp:eH aE (oE 152 (.map (some m4)) (cF #[aC aB (k-1),aC aB y]) (aV (decide (0<dE E (k-1) y)))) wi=.ok () (wi.putObj m4 (iU kS vB (gI I (k-1,(y:Int)) (decide (0<dE E (k-1) y))))):=Dq kS_ok vi HG.out.i (k-1,(y:Int)) _;have e1:dE E k y+Fc E k y=dE E (k-1) y:=(HS.out k y).symm;have w1:IntKind.i64.wrap (dE E k y+Fc E k y)=dE E (k-1) y:=by rw[e1];exact bI _ (by omega)
     have w2:IntKind.i64.wrap (k-1)=k-1:=bI _ (by omega);have Kj:=zq (HK.out.trans (fW.putObj (X:=(·=m4)) wi rfl (iU kS vB (gI I (k-1,(y:Int)) (decide (0<dE E (k-1) y))))));have HG2:=zq (HG.out.putI HA.out (gI I (k-1,(y:Int)) (decide (0<dE E (k-1) y))));have yr:=zq (HW.out.cell hpos hkX (by omega) (by omega));generalize Fc E k y=NS at *;generalize dE E k y=WN at *;generalize rS:dE E (k-1) y=WN1 at *;have HEq:=zq rS;clear rS e1 hb hbn hb2 hEl;go_wp2;go_roundw;case rel=>exact⟨k-1,rfl,by rw[HEq.out]<;>rfl,by omega,by omega,Kj.out,_,HG2.out,yr.out⟩
     case measure=>simp only[aK];omega
    ·have ia:¬(0<k):=hpos;go_wp2;go_roundw;case rel=>exact⟨y+1,by go_num,by omega,HK.out,I,HG.out,by
      have:=HW.out;rcases hk0 with e|e
      ·exact(this.few (z:=0) (by omega) (by omega)).line
      ·obtain rfl:k=0:=by omega
       exact this.line⟩
     case measure=>simp only[aK];omega
  ·have hge:¬(y:Int)<max ((Y:Int)-1) 0:=by omega
   go_wp2;go_end0;exact⟨⟨_,rfl⟩,HK.out,I,HG.out,fun i j=>HW.out.done (by omega) i j⟩
end
section
open Go Go.RowKit Go.Shelf Go.Lib
theorem Ax{P:dN}{fn:Func}{p:Tmp}{ty T:dT}(h:fn.results= #[.cell p ty])(tmps:Array aP)(w:aF)(g:Nat)(x y z:aP)
 (hp:tmps.getD p aO=aY (some ⟨g,0,none⟩))(hb:bT w g #[x,y,z] T)(ha:∀w,(isAgg ty).run P w=.ok true w)(hs:∀w,(sizeOf ty).run P w=.ok 3 w):
 (results fn tmps).run P w=.ok (cF #[x,y,z]) w:=by
 have Td:tmps[p]?.getD aO=aY (some ⟨g,0,none⟩):=by simpa using hp
 have c0:=hb.cell 0;have c1:=hb.cell 1;have c2:=hb.cell 2;simp only[aJ,aI,bC]at c0 c1 c2;simp[results,h,go_sem,Td,c0,c1,c2,ha,hs]
def rG(k:Nat):Nat:=[1,0,3].getD k 0
theorem idx3(k:Nat)(hk:k<3)(w:aF):eH aE (Instr.index 242 (cF #[aC aB 1,aC aB 0,aC aB 3]) (aC aB k)) w=.ok (aC aB (rG k)) w:=by
 match k,hk with
 |0,_=>first |kernel_rfl|rfl
 |1,_=>first |kernel_rfl|rfl
 |2,_=>first |kernel_rfl|rfl
structure Mg(w:aF)(A G:Nat)(xv yv:aP)(m2 m3 m4 C:Nat)(x y d x2 y2:Int)(S N:WL)(I:SL)(W:aF):Prop where
 bel:Below w.heap.size w W
 a:bT W A #[aC aB x,aC aB y,aC aB d] 167
 b:bT W (A+1) #[aC aB 0,aC aB 0,aC aB 0] 167
 c:bT W C #[aC aB x2,aC aB y2] 165
 g:gN W G xv yv m2 m3 m4 S N I
theorem Mg.below{w W W':aF}{A G:Nat}{xv yv:aP}{m2 m3 m4 C:Nat}{x y d x2 y2:Int}{S N:WL}{I:SL}(h:Mg w A G xv yv m2 m3 m4 C x y d x2 y2 S N I W)(hb:Below W.heap.size W W'):Mg w A G xv yv m2 m3 m4 C x y d x2 y2 S N I W':=
 ⟨aQ h.bel hb,h.a.below hb h.a.lt,h.b.below hb h.b.lt,h.c.below hb h.c.lt,h.g.below hb⟩
theorem Mh{w W:aF}{g:Nat}(h:Below w.heap.size w W)(hg:w.heap.size≤g)(a b c:aP):Below w.heap.size w (((W.setCell ⟨g,0,none⟩ a).setCell ⟨g,1,none⟩ b).setCell ⟨g,2,none⟩ c):=
 ((h.setCell (p:=⟨g,0,none⟩) hg a).setCell (p:=⟨g,1,none⟩) hg b).setCell (p:=⟨g,2,none⟩) hg c
theorem nxt_at(c:Int→Int→Bool)(x y:Int)(d:Nat):(∀j,j<3→bor c (jE x d) (jF y d) ((d+rG j)%4)=false)→jX c ⟨x,y,d⟩=⟨x,y,d⟩:=by
 intro h;have h0:=h 0 (by decide);have h1:=h 1 (by decide);have h2:=h 2 (by decide);unfold rG at h0 h1 h2;simp only[aG,aI,bC,bX,oG]at h0 h1 h2;unfold jX;simp[h0,h1,h2]
theorem nxt_hit(c:Int→Int→Bool)(x y:Int)(d k:Nat)(hk:k<3)(h:∀j,j<k→bor c (jE x d) (jF y d) ((d+rG j)%4)=false)(ht:bor c (jE x d) (jF y d) ((d+rG k)%4)=true):jX c ⟨x,y,d⟩=⟨jE x d,jF y d,(d+rG k)%4⟩:=by
 unfold jX;match k,hk,h,ht with
 |0,_,_,ht=>
  simp only[rG,aG,aI,bX]at ht;simp[ht,rG]
 |1,_,h,ht=>
  have h0:=h 0 (by decide);simp only[rG,aG,aI,bC,bX,oG]at ht h0;simp[ht,h0,rG]
 |2,_,h,ht=>
  have h0:=h 0 (by decide);have h1:=h 1 (by decide);simp only[rG,aG,aI,bC,bX,oG]at ht h0 h1;simp[ht,h0,h1,rG]
theorem ib(G:Nat)(xv yv:aP)(m2 m3 m4:Nat)(S N:WL)(I:SL)(x y:Int)(d:Nat)(hd:d<4)(hx: -100000≤x∧x≤100000)(hy: -100000≤y∧y≤100000)(w:aF)(hg:gN w G xv yv m2 m3 m4 S N I):
 bE aE 107 #[aY (some ⟨G,0,none⟩),kW ⟨x,y,d⟩] w (Rt (kW (jX (lZ I) ⟨x,y,d⟩)) w):=by
 have HSt:=zq (fun W=>wO x y d hd W (by omega) (by omega));have hb2:(-100001≤jE x d∧jE x d≤100001)∧(-100001≤jF y d∧jF y d≤100001):=by unfold jE jF;constructor <;>(split <;>omega)
 have Si:bK (∀(t:Nat)W,t<4→gN W G xv yv m2 m3 m4 S N I→bE aE 106 #[aY (some ⟨G,0,none⟩),cF #[aC aB (jE x d),aC aB (jF y d),aC aB t]] W (Rt (aV (bor (lZ I) (jE x d) (jF y d) t)) W)):=fun t W ht hG=>JK G xv yv m2 m3 m4 S N I _ _ t ht (by omega) (by omega) W hG;have HN0:=zq (nxt_at (lZ I) x y d);have HN1:=zq (nxt_hit (lZ I) x y d);obtain⟨x2,IL⟩:∃z,jE x d=z:=⟨_,rfl⟩;obtain⟨y2,QJ⟩:∃z,jF y d=z:=⟨_,rfl⟩;rw[IL,QJ]at Si HN0 HN1;simp only[IL,QJ]at HSt;have fE:=((aL w.heap.size w).alloc (aH _) (aN #[aC aB x,aC aB y,aC aB d] 167)).alloc (by simp) (aN #[aC aB 0,aC aB 0,aC aB 0] 167);have q0:=(bT.new w #[aC aB x,aC aB y,aC aB d] 167).alloc (aN #[aC aB 0,aC aB 0,aC aB 0] 167);have q1:=bT.new (w.alloc (aN #[aC aB x,aC aB y,aC aB d] 167)) #[aC aB 0,aC aB 0,aC aB 0] 167;rw[bH]at q1;obtain⟨W0,eY⟩:∃W,(w.alloc (aN #[aC aB x,aC aB y,aC aB d] 167)).alloc (aN #[aC aB 0,aC aB 0,aC aB 0] 167)=W:=⟨_,rfl⟩;have So:=hg.below fE;rw[eY]at fE q0 q1 So;have fV:=zq fE;have nO:=zq q0;have zW:=zq q1;have TW:=zq So;have FC:=zq eY;obtain⟨a0,a1,a2⟩:=q0.three;have lA:=q0.lt;unfold kW;have hd4:(d:Int)<4:=by omega
 have Hd:=zq hd;clear hx hy hb2 IL QJ hg fE q0 q1 So eY hd;go_enter func107,ntmps107;go_upto_region 1 with(fail)
 rw[FC.out];clear FC;go_wp2_with fail
 (with_reducible refine(HSt.out _).mono ?_);rintro e W1⟨rfl,hb1⟩;have Sh:=(aL W1.heap.size W1).alloc (aH _) (aN #[aC aB x2,aC aB y2] 165);have HNA:bK (Mg w w.heap.size G xv yv m2 m3 m4 W1.heap.size x y d x2 y2 S N I (W1.alloc (aN #[aC aB x2,aC aB y2] 165))):=
  ⟨aQ (aQ fV.out hb1) Sh,(nO.out.below hb1 nO.out.lt).below Sh (nO.out.below hb1 nO.out.lt).lt,(zW.out.below hb1 zW.out.lt).below Sh (zW.out.below hb1 zW.out.lt).lt,bT.new _ _ _,(TW.out.below hb1).below Sh⟩
 clear hb1 Sh fV nO zW TW a0 a1 a2 lA HSt;go_wp2;go_loopw[15] (fun i wr=>∃k:Nat,i=aC aB k∧k≤3∧bK (Mg w w.heap.size G xv yv m2 m3 m4 W1.heap.size x y d x2 y2 S N I wr∧∀j,j<k→bor (lZ I) x2 y2 ((d+rG j)%4)=false)) (fun i _=>3-(aK i).toNat);case atStart=>exact⟨0,rfl,by omega,HNA.out,fun j hj=>absurd hj (Nat.not_lt_zero _)⟩
 case round=>
  clear HNA;obtain⟨k,rfl,hk,HI⟩:=hrel;obtain⟨hn,hf⟩:=HI.out;have HN:=zq hn;have HF:=zq hf;obtain⟨a0,a1,a2⟩:=hn.a.three;obtain⟨c0,c1,-,-,lC⟩:=hn.c.two;have lA:=hn.a.lt;have lB:=hn.b.lt;clear HI hn hf;by_cases hlt:k<3
  ·have hx3:=fun W=>idx3 k hlt W;have ht4:rG k<4:=by unfold rG;match k,hlt with |0,_=>decide|1,_=>decide|2,_=>decide
   obtain⟨m,hm⟩:∃m,(d+rG k)%4=m:=⟨_,rfl⟩;have hm4:m<4:=by omega
   have e1:IntKind.i64.wrap ((d:Int)+(rG k:Nat))=(d:Int)+(rG k:Nat):=bI _ (by have:=Hd.out;omega);have e2:Int.tmod ((d:Int)+(rG k:Nat)) 4=(m:Int):=by rw[←hm,rM (by omega)];omega
   have hlt3:(k:Int)<3:=by omega
   have Hm:=zq hm;have Ht:=zq ht4;obtain⟨tn,LJ⟩:∃t:Int,((rG k:Nat):Int)=t:=⟨_,rfl⟩;simp only[LJ]at hx3 e1 e2;have hbW:=(aL wr.heap.size wr).alloc (aH _) (aN #[aC aB x2,aC aB y2,aC aB m] 167);have HNW:=zq (HN.out.below hbW);have HQW:=zq (bT.new wr #[aC aB x2,aC aB y2,aC aB m] 167);clear hbW hm ht4 LJ;go_wp2_with fail
   (with_reducible refine(Si.out m _ hm4 HNW.out.g).mono ?_);rintro e W2⟨rfl,hb2⟩;have OU:=zq (HNW.out.below hb2);have Cf:=zq (HQW.out.below hb2 HQW.out.lt);clear hb2 HNW HQW a0 a1 a2 c0 c1 lC lA lB hx3 e1 e2;obtain⟨n0,n1,n2⟩:=Cf.out.three;have ln:=Cf.out.lt;have lB:=OU.out.b.lt;obtain⟨b0,b1,b2⟩:=OU.out.b.three;have z0:=OU.out.b.fz 0;have z1:=OU.out.b.fz 1;have z2:=OU.out.b.fz 2;cases hbo:bor (lZ I) x2 y2 m
   ·go_wp2;go_roundw;case rel=>exact⟨k+1,by go_num,by omega,OU.out,fun j hj=>by
     by_cases e:j=k
     ·rw[e,Hm.out];exact hbo
     ·exact HF.out j (by omega)⟩
    case measure=>simp only[aK];omega
   ·have HE:bK (jX (lZ I) ⟨x,y,d⟩=⟨x2,y2,m⟩):=by
     have:=HN1.out k hlt HF.out (by rw[Hm.out];exact hbo);rwa[Hm.out]at this
    have HQB:=zq (((OU.out.b.set 0 (aC aB x2)).set 1 (aC aB y2)).set 2 (aC aB m));have HBB:=zq (Mh OU.out.bel (g:=w.heap.size+1) (by omega) (aC aB x2) (aC aB y2) (aC aB m));go_wp2;refine dU (Ax (T:=167) Tryz.results107 _ _ (w.heap.size+1) _ _ _ rfl HQB.out isAgg167 sizeOf167) rfl ⟨by rw[HE.out]<;>rfl,HBB.out⟩
  ·have hge:¬(k:Int)<3:=by omega
   obtain⟨b0,b1,b2⟩:=HN.out.b.three;have z0:=HN.out.b.fz 0;have z1:=HN.out.b.fz 1;have z2:=HN.out.b.fz 2;have HE:bK (jX (lZ I) ⟨x,y,d⟩=⟨x,y,d⟩):=HN0.out fun j hj=>HF.out j (by omega);have HQB:=zq (((HN.out.b.set 0 (aC aB x)).set 1 (aC aB y)).set 2 (aC aB d));have HBB:=zq (Mh HN.out.bel (g:=w.heap.size+1) (by omega) (aC aB x) (aC aB y) (aC aB d));go_wp2;refine dU (Ax (T:=167) Tryz.results107 _ _ (w.heap.size+1) _ _ _ rfl HQB.out isAgg167 sizeOf167) rfl ⟨by rw[HE.out]<;>rfl,HBB.out⟩
end
section
def ri{α:Type}(f:α→α)(w:α)(k:Nat):Prop:=0<k∧jY f k w=w∧∀j,0<j→j<k→jY f j w≠w
theorem ri.uniq{α:Type}{f:α→α}{w:α}{k l:Nat}(h:ri f w k)(g:ri f w l):k=l:=by
 rcases Nat.lt_trichotomy k l with c|c|c
 ·exact absurd h.2.1 (g.2.2 k h.1 c)
 ·exact c
 ·exact absurd g.2.1 (h.2.2 l g.1 c)
open Classical in
noncomputable def JU {α:Type} (f:α→α) (w:α):List α:=if h:∃k,ri f w k then kP f w (Classical.choose h)else[]
theorem uN{α:Type}{f:α→α}{w:α}{k:Nat}(h:ri f w k):JU f w=kP f w k:=by
 unfold JU;rw[dif_pos ⟨k,h⟩,(Classical.choose_spec (⟨k,h⟩:∃k,ri f w k)).uniq h]
def oA(X Y:Nat):List Wy:=(dD X).flatMap fun x:Nat=>(dD Y).flatMap fun y:Nat=>(dD 4).map fun d=>⟨(x:Int),(y:Int),d⟩
theorem GB{X Y:Nat}{w:Wy}:w∈oA X Y↔0≤w.x∧w.x<X∧0≤w.y∧w.y<Y∧w.d<4:=by
 obtain⟨x,y,d⟩:=w;unfold oA;simp only[List.mem_flatMap,List.mem_map,uW,Wy.mk.injEq];constructor
 ·rintro⟨a,ha,b,hb,e,he,rfl,rfl,rfl⟩;exact⟨by omega,by omega,by omega,by omega,he⟩
 ·rintro⟨h1,h2,h3,h4,h5⟩;exact⟨x.toNat,by omega,y.toNat,by omega,d,h5,by omega,by omega,rfl⟩
noncomputable def eR (c:Int→Int→Bool) (st:List Wy×List (List Wy)) (w:Wy):List Wy×List (List Wy):=
 open Classical in if w∈st.1∨lH c w=false then st else(st.1++JU (jX c) w,st.2++[JU (jX c) w])
noncomputable def jA (c:Int→Int→Bool) (ws:List Wy):List Wy×List (List Wy):=ws.foldl (eR c) ([],[])
theorem T6(c:Int→Int→Bool)(ws:List Wy)(w:Wy):jA c (ws++[w])=eR c (jA c ws) w:=by
 unfold jA;rw[Kz];rfl
def tS(c:Int→Int→Bool)(X Y:Nat):Prop:=∀i j,c i j=true→0≤i∧i+1<X∧0≤j∧j+1<Y
theorem Fg{c:Int→Int→Bool}{X Y:Nat}(h:tS c X Y){w:Wy}(hb:lH c w=true):w∈oA X Y:=by
 rw[GB];unfold lH bor at hb;rw[bQ,decide_eq_true_eq,bQ]at hb;obtain⟨hd,hl,-⟩:=hb;obtain⟨x,y,d⟩:=w;dsimp only at hd hl⊢;unfold lft at hl;split at hl
 ·have:=h _ _ hl;exact⟨by omega,by omega,by omega,by omega,hd⟩
 ·have:=h _ _ hl;exact⟨by omega,by omega,by omega,by omega,hd⟩
 ·have:=h _ _ hl;exact⟨by omega,by omega,by omega,by omega,hd⟩
 ·have:=h _ _ hl;exact⟨by omega,by omega,by omega,by omega,hd⟩
def borL(c:Int→Int→Bool)(X Y:Nat):List Wy:=(oA X Y).filter (lH c)
theorem uO{c:Int→Int→Bool}{X Y:Nat}(h:tS c X Y){w:Wy}:w∈borL c X Y↔lH c w=true:=by
 unfold borL;rw[List.mem_filter];exact⟨fun k=>k.2,fun k=>⟨Fg h k,k⟩⟩
theorem IY{c:Int→Int→Bool}{X Y:Nat}(h:tS c X Y):L8 (jX c) (borL c X Y):=
 ⟨fun _ hw=>(uO h).2 (KN ((uO h).1 hw)),fun _ hv _ hw e=>nxt_inj ((uO h).1 hv) ((uO h).1 hw) e⟩
theorem T7(X Y:Nat):(oA X Y).length=X*(Y*4):=by
 unfold oA;rw[bn];have:(List.map (fun x:Nat=>((dD Y).flatMap fun y:Nat=>(dD 4).map fun d=>(⟨(x:Int),(y:Int),d⟩:Wy)).length) (dD X))=List.replicate X (Y*4):=by
  apply List.ext_getElem?;intro i;rw[List.getElem?_map,List.getElem?_replicate];by_cases h:i<X
  ·rw[List.getElem?_range h,ip h,Option.map_some,bn];simp only[aZ,kO,List.map_const',VK]
  ·rw[iN h,List.getElem?_eq_none (by rw[kO];omega)];rfl
 rw[this,VK]
theorem IZ{c:Int→Int→Bool}{X Y:Nat}(h:tS c X Y){w:Wy}(hb:lH c w=true):∃k,ri (jX c) w k∧k≤X*(Y*4):=by
 obtain⟨k,h1,h2,h3,h4⟩:=(IY h).back ((uO h).2 hb);refine⟨k,⟨h1,h3,h4⟩,aU h2 ?_⟩;rw[←T7];exact Dp _ _
structure pG(c:Int→Int→Bool)(X Y:Nat)(st:List Wy×List (List Wy)):Prop where
 bor:∀w∈st.1,lH c w=true
 kept:∀w∈st.1,jX c w∈st.1
 all:st.1=st.2.flatten
 nd:st.1.Nodup
 pos:∀l∈st.2,l≠[]∧∃w,lH c w=true∧l=JU (jX c) w
theorem GC{c:Int→Int→Bool}{w:Wy}(hb:lH c w=true)(k:Nat):lH c (jY (jX c) k w)=true:=by
 induction k with
 |zero=>exact hb
 |succ k ih=>exact KN ih
theorem pG.nil(c:Int→Int→Bool)(X Y:Nat):pG c X Y ([],[]):=⟨by simp,by simp,rfl,List.nodup_nil,by simp⟩
theorem pG.step{c:Int→Int→Bool}{X Y:Nat}(hc:tS c X Y){st:List Wy×List (List Wy)}(h:pG c X Y st)(w:Wy):pG c X Y (eR c st w):=by
 unfold eR;split
 ·exact h
 ·rename_i hn;have hw:w∉st.1:=fun c=>hn (.inl c);have hb:lH c w=true:=by
   cases e:lH c w with
   |true=>rfl
   |false=>exact absurd (.inr e) hn
  obtain⟨k,hk,-⟩:=IZ hc hb;have e:=uN hk;have pF:∀v,v∈kP (jX c) w k→lH c v=true∧v∉st.1:=fun v hv=>by
   obtain⟨j,hj,rfl⟩:=oT.1 hv;exact⟨GC hb j,L9 hk.2.1 (U:=(·∈st.1)) h.kept hw j (jS hj)⟩
  refine⟨fun v hv=>?_,fun v hv=>?_,?_,?_,fun l hl=>?_⟩
  ·rcases List.mem_append.1 hv with h1|h1
   ·exact h.bor v h1
   ·rw[e]at h1;exact(pF v h1).1
  ·rcases List.mem_append.1 hv with h1|h1
   ·exact iL _ (h.kept v h1)
   ·rw[e]at h1;exact vP _ (by rw[e];exact gj hk.1 hk.2.1 v h1)
  ·rw[List.flatten_append,←h.all];simp
  ·rw[List.nodup_append];refine⟨h.nd,?_,?_⟩
   ·rw[e,kP,List.nodup_iff_pairwise_ne,List.pairwise_map];refine PP ?_ (List.pairwise_lt_range (n:=k));intro i j _ hj Lt;rw[uW]at hj;exact(IY hc).apart ((uO hc).2 hb) hk.2.2 i j Lt hj
   ·intro a ha b hb2 e2;rw[e]at hb2;exact(pF b hb2).2 (by rw[←e2];exact ha)
  ·rcases List.mem_append.1 hl with h1|h1
   ·exact h.pos l h1
   ·rw[eJ]at h1;subst h1;refine⟨fun e0=>?_,w,hb,rfl⟩;rw[e]at e0;have:=CN (f:=jX c) w k;rw[e0]at this;exact absurd hk.1 (by rw[←this];decide)
theorem xH{c:Int→Int→Bool}{X Y:Nat}(hc:tS c X Y)(ws:List Wy):pG c X Y (jA c ws):=by
 unfold jA;have:∀(ws:List Wy)st,pG c X Y st→pG c X Y (ws.foldl (eR c) st):=by
  intro ws;induction ws with
  |nil=>intro st h;exact h
  |cons w ws ih=>intro st h;exact ih _ (h.step hc w)
 exact this ws _ (pG.nil c X Y)
theorem flat_len{α:Type}{ls:List (List α)}(h:∀l∈ls,l≠[]):ls.length≤ls.flatten.length:=by
 induction ls with
 |nil=>exact aH _
 |cons l ls ih=>
  have h1:=ih fun m hm=>h m (dA _ hm);have h2:=List.length_pos_iff.2 (h l (cW ..));rw[List.flatten_cons,bO,bD];omega
theorem pG.len{c:Int→Int→Bool}{X Y:Nat}(hc:tS c X Y){st:List Wy×List (List Wy)}(h:pG c X Y st):st.2.length≤X*(Y*4):=by
 have h1:=flat_len fun l hl=>(h.pos l hl).1;rw[←h.all]at h1;have h2:=Dt (m:=borL c X Y) h.nd fun w hw=>(uO hc).2 (h.bor w hw);have h3:(borL c X Y).length≤(oA X Y).length:=Dp _ _;rw[T7]at h3;omega
end
section
open Go Go.RowKit Go.Shelf Go.Lib
section
attribute[local go_sem] gM
def vH(Y k:Nat):Wy:=⟨((k/4/Y:Nat):Int),((k/4%Y:Nat):Int),k%4⟩
theorem Zw{Y x y d:Nat}(hy:y<Y)(hd:d<4):vH Y ((x*Y+y)*4+d)=⟨(x:Int),(y:Int),d⟩:=by
 unfold vH;have h1:((x*Y+y)*4+d)/4=x*Y+y:=by omega
 have h2:((x*Y+y)*4+d)%4=d:=by omega
 rw[h1,h2,Nat.mul_comm x Y,Nat.mul_add_div (by omega),Nat.div_eq_of_lt hy,Nat.mul_add_mod,Nat.mod_eq_of_lt hy,oG]
theorem OZ(a b:Nat):dD (a*b)=(dD a).flatMap fun i=>(dD b).map fun j=>i*b+j:=by
 induction a with
 |zero=>simp
 |succ a ih=>rw[bd,bh,List.range_add,ih,List.range_succ,List.flatMap_append];simp
theorem T8(X Y:Nat):oA X Y=(dD (X*Y*4)).map (vH Y):=by
 rw[OZ,List.map_flatMap,OZ,List.flatMap_assoc];unfold oA;have fm {α β:Type} {f g:α→List β} {l:List α} (h:∀a∈l,f a=g a):l.flatMap f=l.flatMap g:=by
  induction l with
  |nil=>rfl
  |cons a l ih=>rw[kT,kT,h a (cW ..),ih fun b hb=>h b (dA _ hb)]
 refine fm fun x _=>?_;rw[List.flatMap_map];refine fm fun y hy=>?_;rw[List.map_map];apply List.map_congr_left;intro d hd;exact(Zw (List.mem_range.1 hy) (List.mem_range.1 hd)).symm
abbrev encK(Y k:Nat):Array aP:= #[cF #[aC aB (vH Y k).x,aC aB (vH Y k).y,aC aB (vH Y k).d]]
theorem ic(F:Fence)(n:Nat)(h7:F.fn 170)(hro:F.round=none)(hn:1≤n)(Bg G:Nat)(a b:Option cO)(X Y ca cb:Nat)(m2 m3 m4:aP)(w:aF)(hX:X≤100000)(hY:Y≤100000)
 (hB:bT w Bg #[aY (some ⟨G,0,none⟩)] 78)(hg:bT w G #[aD a X ca,aD b Y cb,m2,m3,m4] 154):
 SeqN F n aE 170 #[aY (some ⟨Bg,0,none⟩)] (encK Y) (dW (fun k=>k=Bg∨k=G)) (X*Y*4) w:=by
 intro l J Jx W hW hYd h0;have b0:=(hB.below hW hB.lt).cell 0;have hG:=hg.below hW hg.lt;have g0:=hG.cell 0;have g1:=hG.cell 1;simp only[aJ,aI,bC]at b0 g0 g1;have hcB:∀V,dW (fun k=>k=Bg∨k=G) W V→V.cell? ⟨Bg,0,none⟩=some (aY (some ⟨G,0,none⟩))∧V.cell? ⟨G,0,none⟩=some (aD a X ca)∧V.cell? ⟨G,1,none⟩=some (aD b Y cb):=fun V h=>
  ⟨(h.cell (p:=⟨Bg,0,none⟩) (.inl rfl)).trans b0,(h.cell (p:=⟨G,0,none⟩) (.inr rfl)).trans g0,(h.cell (p:=⟨G,1,none⟩) (.inr rfl)).trans g1⟩
 have HC:=zq hcB;have HY:=zq hYd;clear hB hg hW hG hcB hYd;refine callsIn_of_wp func170 rfl h7 ?_ hro;simp only[ntmps170,cD,bD,bV,dQ,dR,cA,cB,cR,cH,dF,cJ];gi_wp2;gi_loopw [11] (fun i wr=>∃x:Nat,i=aC aB x∧x≤X∧J (x*Y*4) wr∧dW (fun k=>k=Bg∨k=G) W wr) (fun i _=>X-(aK i).toNat);case atStart=>exact⟨0,rfl,bM _,by rw[yW,yW];exact h0,dW.refl _ _⟩
 case round=>
  obtain⟨x,rfl,hx,hJ,hS⟩:=hrel;rename aF=>wo;by_cases hxl:x<X
  ·have hxI:(x:Int)<X:=by omega
   obtain⟨c0,c1,c2⟩:=HC.out wo hS;clear b0 g0 g1;gi_wp2;gi_loopw [19] (fun i wr=>∃y:Nat,i=aC aB y∧y≤Y∧J ((x*Y+y)*4) wr∧dW (fun k=>k=Bg∨k=G) W wr) (fun i _=>Y-(aK i).toNat);case atStart=>exact⟨0,rfl,bM _,hJ,hS⟩
   case round=>
    clear hJ hS c0 c1 c2;obtain⟨y,rfl,hy,hJ2,uP⟩:=hrel;by_cases hyl:y<Y
    ·have hyI:(y:Int)<Y:=by omega
     gi_wp2;gi_loopw [22] (fun i wr=>∃d:Nat,i=aC aB d∧d≤4∧J ((x*Y+y)*4+d) wr∧dW (fun k=>k=Bg∨k=G) W wr) (fun i _=>4-(aK i).toNat);case atStart=>exact⟨0,rfl,by omega,hJ2,uP⟩
     case round=>
      clear hJ2 uP;obtain⟨d,rfl,hd,Ze,Sp⟩:=hrel;rename aF=>wi;by_cases hlt:d<4
      ·have hN:(x*Y+y)*4+d<X*Y*4:=by
        have h1:x*Y+y<X*Y:=by
         have:(x+1)*Y≤X*Y:=Nat.mul_le_mul_right _ hxl;rw[bd,bh]at this;omega
        omega
       obtain⟨fn,tmps,assign,body,hyy,hR⟩:=HY.out ((x*Y+y)*4+d) wi hN Ze;rw[encK,Zw hyl hlt]at hyy;have hd4:(d:Int)<4:=by omega
       gi_wp2;refine hR.mono ?_;rintro e W3 (⟨rfl,hJ4,hk4⟩|⟨rfl,hJx4⟩)
       ·gi_wp2;go_roundw;case rel=>exact⟨d+1,by go_num,by omega,hJ4,Sp.trans hk4⟩
        case measure=>simp only[aK];omega
       ·gi_wp2;refine dU (results_none rfl _ _ _) rfl ?_;exact⟨⟨_,rfl⟩,.inr ⟨(x*Y+y)*4+d+1,by omega,hJx4⟩⟩
      ·obtain rfl:d=4:=by omega
       gi_wp2;go_roundw;case rel=>exact⟨y+1,by go_num,by omega,by rw[show(x*Y+(y+1))*4=(x*Y+y)*4+4 by omega];exact Ze,Sp⟩
       case measure=>simp only[aK];omega
    ·obtain rfl:y=Y:=by omega
     gi_wp2;go_roundw;case rel=>exact⟨x+1,by go_num,by omega,by rw[bd,bh];exact hJ2,uP⟩
     case measure=>simp only[aK];omega
  ·obtain rfl:x=X:=by omega
   gi_wp2;go_end0;exact⟨⟨_,rfl⟩,.inl hJ⟩
theorem ig(G:Nat)(w:aF):
 bE aE 105 #[aY (some ⟨G,0,none⟩)] w fun e w'=>e=bA (.func (.func 170) #[] #[aY (some ⟨w.heap.size,0,none⟩)])∧w'=w.alloc (aN #[aY (some ⟨G,0,none⟩)] 78):=by
 go_enter func105,ntmps105;go_wp2;go_ret;exact⟨rfl,rfl⟩
end
abbrev UL:=List (Wy×Bool)
theorem T9{w:aF}{b:Nat}{U:UL}(h:w.heap[b]? =some (iU kW vB U))(x y:Int)(d:Nat):(iR 160 (.map (some b)) (cF #[aC aB x,aC aB y,aC aB d]) false).run aE w=.ok (aV ((gV U ⟨x,y,d⟩).getD false)) w:=
 FV (zero:=false) Eh vl zer_b h ⟨x,y,d⟩ false
open Classical in
def xI(U:UL)(us:List Wy):Prop:=∀v,gV U v=if v∈us then some true else none
theorem xI.get{U:UL}{us:List Wy}(h:xI U us)(v:Wy):(gV U v).getD false=true↔v∈us:=by
 rw[h v];split
 ·exact⟨fun _=>‹_›,fun _=>rfl⟩
 ·exact⟨fun e=>(by cases e),fun e=>absurd e ‹_›⟩
theorem xI.put{U:UL}{us:List Wy}(h:xI U us)(v:Wy):xI (gI U v true) (us++[v]):=by
 intro x;rw[Ai,h x];by_cases e:v=x
 ·rw[ip e,ip (by rw[e];simp)]
 ·rw[iN e];by_cases e2:x∈us
  ·rw[ip e2,ip (iL _ e2)]
  ·rw[iN e2,iN];intro c;rcases List.mem_append.1 c with c|c
   ·exact e2 c
   ·exact e (List.mem_singleton.1 c).symm
theorem xI.nil:xI [] []:=fun v=>by simp[gV]
structure fT(W1:aF)(M O:Nat)(us:List Wy)(Fh:List (List Pt))(W:aF):Prop where
 kept:fW (fun j=>j=M∨j=O) W1 W
 map:∃U,W.heap[M]? =some (iU kW vB U)∧xI U us
 out:∃v los,bT W O #[v] 31∧gJ W1.heap.size W v los∧los.map Lp.ps=Fh
section
variable{W1 W W':aF}{M O:Nat}{us:List Wy}{Fh:List (List Pt)}
theorem fT.below(h:fT W1 M O us Fh W)(hb:Below W.heap.size W W'):fT W1 M O us Fh W':=by
 obtain⟨h1,⟨U,h2,h3⟩,v,los,h4,h5,h6⟩:=h;exact⟨h1.step hb,⟨U,rD h2 hb,h3⟩,v,los,h4.below hb h4.lt,h5.below hb,h6⟩
theorem fT.own(hM:M<W1.heap.size)(hO:O<W1.heap.size){row:Option Nat}(h:fT W1 M O us Fh W)(hg:W.grownBy W' row)(hr:∀r,row=some r→W1.heap.size≤r∧∃o:Obj,W.heap[r]? =some o∧o.isCells=false):fT W1 M O us Fh W':=by
 obtain⟨h1,⟨U,h2,h3⟩,v,los,h4,h5,h6⟩:=h;have ne:∀k,k<W1.heap.size→some k≠row:=fun k hk e=>by have:=(hr k e.symm).1;omega
 refine⟨⟨hg.os.trans h1.os,hg.tape.trans h1.tape,hg.output.trans h1.output,aU h1.size hg.size,fun k hk hn=>(hg.block k (dC hk h1.size) (ne k hk)).trans (h1.block k hk hn)⟩,
  ⟨U,(hg.block M (Array.getElem?_eq_some_iff.1 h2).1 (ne M hM)).trans h2,h3⟩,v,los,(hg.block O h4.lt (ne O hO)).trans h4,⟨kV h5.1 hg (fun r e=>(hr r e).2),fun l hl=>kV (h5.2 l hl) hg (fun r e=>(hr r e).2)⟩,h6⟩
theorem Mi{B:Nat}{e size n:Nat}{v:aP}{xs:List aP}{row:Option Nat}(h:W.ownsRow B e size v n xs)(he:e≠167)(hr:∀r,row=some r→∃cs fz,W.heap[r]? =some (aN cs 167 fz)):v.ownBlock=none∨v.ownBlock≠row:=by
 rcases h.2 with⟨h,_⟩|⟨g,c,oL,h,_,k,_⟩
 ·left;rw[h];rfl
 ·right;rw[h];intro e2;obtain⟨cs,fz,h3⟩:=hr g e2.symm;rw[k]at h3;cases h3;exact he rfl
theorem fT.turn(hM:M<W1.heap.size)(hO:O<W1.heap.size){row:Option Nat}(h:fT W1 M O us Fh W)(hg:W.grownBy W' row)(hr:∀r,row=some r→W1.heap.size≤r∧∃cs fz,W.heap[r]? =some (aN cs 167 fz)):fT W1 M O us Fh W':=by
 obtain⟨h1,⟨U,h2,h3⟩,v,los,h4,h5,h6⟩:=h;have ne:∀k,k<W1.heap.size→some k≠row:=fun k hk e=>by have:=(hr k e.symm).1;omega
 have Zj:∀r,row=some r→∃cs fz,W.heap[r]? =some (aN cs 167 fz):=fun r e=>(hr r e).2;exact⟨⟨hg.os.trans h1.os,hg.tape.trans h1.tape,hg.output.trans h1.output,aU h1.size hg.size,fun k hk hn=>(hg.block k (dC hk h1.size) (ne k hk)).trans (h1.block k hk hn)⟩,
  ⟨U,(hg.block M (Array.getElem?_eq_some_iff.1 h2).1 (ne M hM)).trans h2,h3⟩,v,los,(hg.block O h4.lt (ne O hO)).trans h4,⟨h5.1.kept hg (Mi h5.1 (by decide) Zj),fun l hl=>(h5.2 l hl).kept hg (Mi (h5.2 l hl) (by decide) Zj)⟩,h6⟩
theorem kQ{B e size n:Nat}{v:aP}{xs:List aP}(h:W.ownsRow B e size v n xs):∀r,v.ownBlock=some r→B≤r∧∃cs fz,W.heap[r]? =some (aN cs e fz):=by
 intro r hr;rcases h.2 with⟨h,_⟩|⟨g,c,oL,h,hb,k,_⟩
 ·rw[h]at hr;cases hr
 ·rw[h]at hr;have e:g=r:=by simpa[jW]using hr
  subst e;exact⟨hb,oL,_,k⟩
theorem fT.use(h:fT W1 M O us Fh W){U:UL}(hm:W.heap[M]? =some (iU kW vB U))(hU:xI U us)(v:Wy):fT W1 M O (us++[v]) Fh (W.putObj M (iU kW vB (gI U v true))):=by
 obtain⟨h1,-,x,los,h4,h5,h6⟩:=h;have hc:(iU kW vB U).isCells=false:=rfl;exact⟨h1.trans (.putObj W (.inl rfl) _),⟨_,yP hm _,hU.put v⟩,x,los,(eW _ _ _ _ (kJ h4 hm)).trans h4,⟨kV h5.1 (rO W M _) (fun r e=>by cases e;exact⟨_,hm,hc⟩),fun l hl=>kV (h5.2 l hl) (rO W M _) (fun r e=>by cases e;exact⟨_,hm,hc⟩)⟩,h6⟩
end
theorem xJ(W:aF)(a:cO)(u:aP):W.grownBy (W.setCell a u) (some a.block):=
 ⟨rfl,rfl,rfl,by simp,fun k _ hk=>eE W a k u (fun e=>hk (by rw[e]))⟩
theorem Ua{a b c:aF}{row:Option Nat}(h:a.grownBy b row)(k:b.grownBy c row):a.grownBy c row:=
 ⟨k.os.trans h.os,k.tape.trans h.tape,k.output.trans h.output,aU h.size k.size,fun i hi hn=>(k.block i (dC hi h.size) hn).trans (h.block i hi hn)⟩
theorem ii(W:aF)(g:Nat)(a b c:aP):W.grownBy (((W.setCell ⟨g,0,none⟩ a).setCell ⟨g,1,none⟩ b).setCell ⟨g,2,none⟩ c) (some g):=
 Ua (Ua (xJ W ⟨g,0,none⟩ a) (xJ _ ⟨g,1,none⟩ b)) (xJ _ ⟨g,2,none⟩ c)
structure Zx(W1 W:aF)(M O:Nat)(us:List Wy)(Fh:List (List Pt))(f:Wy→Wy)(v:Wy)(j qn:Nat)(lv:aP)(wr:aF):Prop where
 n:bT wr qn #[aC aB (jY f j v).x,aC aB (jY f j v).y,aC aB (jY f j v).d] 167
 nb:W1.heap.size≤qn
 lo:fT W1 M O (us++kP f v j) Fh wr
 row:wr.ownsRow W1.heap.size 167 3 lv j (fL (kP f v j))
 sep:some qn≠lv.ownBlock
 kf:kR W1.heap.size W wr
theorem Ay{B:Nat}{W V V':aF}(h:kR B W V)(hb:Below V.heap.size V V'):kR B W V':=h.trans ((fQ hb).from B)
theorem uQ{B:Nat}{W V V':aF}{row:Option Nat}(h:kR B W V)(hg:V.grownBy V' row)(hr:∀r,row=some r→∃cs T fz,V.heap[r]? =some (aN cs T fz)):kR B W V':=h.trans ((R7 hg (fun r o e ho=>by
 obtain⟨cs,T,fz,h2⟩:=hr r e
 rw[h2]at ho
 cases ho
 rfl)).from B)
theorem I0{c:Int→Int→Bool}{X Y:Nat}(h:tS c X Y){w:Wy}(hb:lH c w=true):JS X Y w:=by
 obtain⟨h1,h2,h3,h4,h5⟩:=GB.1 (Fg h hb);obtain⟨t,-,-,e,-⟩:=wH hb;obtain⟨k1,k2,k3,k4,-⟩:=GB.1 (Fg h (KN hb));rw[e]at k1 k2 k3 k4;exact⟨h1,h2,h3,h4,h5,k1,k2,k3,k4⟩
theorem Ub{W:aF}{B e size n:Nat}{v:aP}{xs:List aP}(h:W.ownsRow B e size v n xs){O:Nat}(hO:O<B)(u:aP)(j:Nat):(W.setCell ⟨O,j,none⟩ u).ownsRow B e size v n xs:=
 h.kept (xJ W ⟨O,j,none⟩ u) (by
  rcases h.2 with⟨h1,_⟩|⟨g,c,oL,h1,hb,_⟩
  ·left;rw[h1];rfl
  ·right;rw[h1];intro e
   have e:g=O:=by simpa[jW]using e
   omega)
theorem fT.push{W1 W W':aF}{M O:Nat}{us:List Wy}{los:List Lp}{ov:aP}{l:Lp}{g c:Nat}(hM:M<W1.heap.size)(hO:O<W1.heap.size)(hMO:M≠O)(hk:fW (fun j=>j=M∨j=O) W1 W)(hm:∃U,W.heap[M]? =some (iU kW vB U)∧xI U us)(hb:bT W O #[ov] 31)(ho:gJ W1.heap.size W ov los)
 (hl:W.ownsRow W1.heap.size 68 3 l.v l.ps.length (cQ l.ps))(hg:W.grownBy W' ov.ownBlock)(dI:W'.ownsRow W1.heap.size 39 1 (aD (some ⟨g,0,none⟩) (los.length+1) c) (los.length+1) (los.map Lp.v++[l.v])):
 fT W1 M O us (los.map Lp.ps++[l.ps]) (W'.setCell ⟨O,0,none⟩ (aD (some ⟨g,0,none⟩) (los.length+1) c)):=by
 obtain⟨U,h2,h3⟩:=hm;have hr:=kQ ho.1;have ne:∀k,k<W1.heap.size→some k≠ov.ownBlock:=fun k hk e=>by have:=(hr k e.symm).1;omega
 have hG:=ho.grow hl hg dI;have hbO:bT W' O #[ov] 31:=(hg.block O hb.lt (ne O hO)).trans hb;refine⟨⟨hg.os.trans hk.os,hg.tape.trans hk.tape,hg.output.trans hk.output,by rw[World.size_setCell];exact aU hk.size hg.size,fun k hlt hn=>?_⟩,⟨U,?_,h3⟩,_,los++[l],hbO.set 0 _,⟨Ub hG.1 hO _ 0,fun x hx=>Ub (hG.2 x hx) hO _ 0⟩,by simp⟩
 ·rw[eE W' ⟨O,0,none⟩ k _ (fun e=>hn (.inr e))];exact(hg.block k (dC hlt hk.size) (ne k hlt)).trans (hk.block k hlt hn)
 ·rw[eE W' ⟨O,0,none⟩ M _ hMO];exact(hg.block M (Array.getElem?_eq_some_iff.1 h2).1 (ne M hM)).trans h2
theorem DC{w:aF}{cM:Array fX}{o:fX}{a:mI}{K:mI→aF→Prop}{Q:A5→mI→aF→Prop}{E:Prop}(FN:o.guard=none)(s x:tE)
 (ho:o.op=.call {callee:=.builtin .append,args:= #[s,x],argTypes:= #[31,31]})(B:Nat)(v:aP)(n:Nat)(xs:List aP)(hs:a.eval s=v)(dI:w.ownsRow B 39 1 v n xs)
 (nb:Nat)(ad:Option cO)(m c:Nat)(hx:a.eval x=aD (some ⟨nb,0,none⟩) 1 1)(zz:bT w nb #[aD ad m c] 39)(Np:n+1≤100000)(jH:B≤w.heap.size)
 (h:∀g cap w',w'.ownsRow B 39 1 (aD (some ⟨g,0,none⟩) (n+1) cap) (n+1) (xs++[aD ad m c])→w.grownBy w' v.ownBlock→(v.ownBlock=some g∨g=w.heap.size)→K (a.put o.dst (aD (some ⟨g,0,none⟩) (n+1) cap)) w'):
 if eK o (wV cM a.tmps)=true then Ng aE o a w K Q else E:=by
 obtain⟨i0,hi,yH,zB,sS⟩:=lI TR;exact PZ w FN s x 31 ho B 39 i0 (aD none 0 0) 1 24 underlying31 hi yH zB sS rfl (by decide) v n xs hs dI ⟨nb,0,none⟩ 1 1 [aD ad m c] hx rfl (EM zz) (by simp[kA]) (by decide) (by unfold Cm;omega) (by omega) jH _ rfl
  fun g cap w' h1 h2 h3 _=>h g cap w' h1 h2 h3
section
attribute[local go_sem] gM
theorem Xm{F:Fence}{n:Nat}{w:aF}{cM:Array fX}{rest:List fX}{o:fX}{a:mI}{Q:A5→mI→aF→Prop}(FN:o.guard=none)(s x:tE)
 (ho:o.op=.call {callee:=.builtin .append,args:= #[s,x],argTypes:= #[169,169]})(cL:Nat)
 (v:aP)(m:Nat)(xs:List aP)(hs:a.eval s=v)(dI:w.ownsRow cL 167 3 v m xs)
 (d1 d2 d3:Int)(hx:a.eval x=aD (some ⟨w.heap.size,0,none⟩) 1 1)(Np:m+1≤100000000)(jH:cL≤w.heap.size)
 (h:∀g cap w',w'.ownsRow cL 167 3 (aD (some ⟨g,0,none⟩) (m+1) cap) (m+1) (xs++[aC aB d1,aC aB d2,aC aB d3])→cL≤g→w.grownBy w' v.ownBlock→
  wpListIn F n aE cM Q rest (a.put o.dst (aD (some ⟨g,0,none⟩) (m+1) cap)) w'):
 wpListIn F n aE cM Q (o::rest) a (w.alloc (aN #[aC aB d1,aC aB d2,aC aB d3] 167)):=by
 obtain⟨i0,hi,yH,zB,sS⟩:=lI L6;refine wpListIn_append_own _ FN s x 169 ho cL 167 i0 (cF #[aC aB 0,aC aB 0,aC aB 0]) 3 24 underlying169 hi yH zB sS rfl (by decide) v m xs hs (dI.alloc _) ⟨w.heap.size,0,none⟩ 1 1 [aC aB d1,aC aB d2,aC aB d3] hx rfl (Is w _ _) (by simp[kA])
  (by unfold Cm;omega) (by omega) (by simp;omega) ?_
 intro v' w' lL hg Iu;obtain⟨g',FO,rfl⟩:=It lL;exact h g' FO w' lL (kU lL).1 (zA (World.grownBy_alloc w _ none) hg)
theorem gN.kept{X:Nat→Prop}{W W':aF}{G:Nat}{xv yv:aP}{m2 m3 m4:Nat}{S N:WL}{I:SL}(h:gN W G xv yv m2 m3 m4 S N I)(hk:fW X W W'){B:Nat}(hX:∀k,X k→B≤k)(h1:G<B)(h2:m2<B)(h3:m3<B)(h4:m4<B):gN W' G xv yv m2 m3 m4 S N I:=
 ⟨hk.blk h.blk fun c=>by have:=hX _ c;omega,hk.obj h.s fun c=>by have:=hX _ c;omega,hk.obj h.n fun c=>by have:=hX _ c;omega,hk.obj h.i fun c=>by have:=hX _ c;omega⟩
theorem qk.kept{X:Nat→Prop}{W W':aF}{gx gy P Q:Nat}{xs ys:List (List UInt8)}(h:qk W gx gy P Q xs ys)(hk:fW X W W'){B:Nat}(hX:∀k,X k→B≤k)(h1:gx<B∨P=0)(h2:gy<B∨Q=0):qk W' gx gy P Q xs ys:=
 ⟨h.lx,h.ly,fun i hi=>hk.cell (h.x i hi) fun c=>by have:=hX _ c;rcases h1 with h1|h1<;>simp at this<;>omega,fun i hi=>hk.cell (h.y i hi) fun c=>by have:=hX _ c;rcases h2 with h2|h2<;>simp at this<;>omega⟩
def lenV:aP→Nat
 |aD _ n _=>n
 |_=>0
theorem O4{X Y k:Nat}(hk:k<X*Y*4):(oA X Y).take (k+1)=(oA X Y).take k++[vH Y k]:=by
 rw[T8,cN (by rw[aZ,kO];exact hk)];simp
theorem Xo(xa ya:Option cO)(G gx gy X Y cx cy m2 m3 m4:Nat)(S N:WL)(I:SL)(xs ys:List (List UInt8))(w:aF)(hX:X≤100000)(hY:Y≤100000)(hXY:X*(Y*4)≤10000)(tA:tS (lZ I) X Y)(hxa:0<X→xa=some ⟨gx,0,none⟩)(hya:0<Y→ya=some ⟨gy,0,none⟩)
 (hg:gN w G (aD xa X cx) (aD ya Y cy) m2 m3 m4 S N I)(hl:qk w gx gy X Y xs ys):
 bE aE 35 #[aY (some ⟨G,0,none⟩)] w fun e w'=>(∃v los,e=bA v∧gJ w.heap.size w' v los∧los.map Lp.ps=(jA (lZ I) (oA X Y)).2.map (fA S xs ys))∧Below w.heap.size w w':=by
 have qv:= @run_makeMap aE
 have HGx:bK (∀W,0<X→0<Y→gN W G (aD xa X cx) (aD ya Y cy) m2 m3 m4 S N I→gN W G (aD (some ⟨gx,0,none⟩) X cx) (aD (some ⟨gy,0,none⟩) Y cy) m2 m3 m4 S N I):=fun W h1 h2 h=>by rw[←hxa h1,←hya h2];exact h
 clear hxa hya
 obtain⟨W0,eY⟩:∃W,(((w.alloc (aN #[aY (some ⟨G,0,none⟩)] 78)).alloc (.map #[] 0)).alloc (aN #[.map (some (w.heap.size+1))] 160)).alloc (aN #[aD none 0 0] 31)=W:=⟨_,rfl⟩
 have fE:Below w.heap.size w W0:=by rw[←eY];exact((((aL _ _).alloc (aH _) _).alloc (by simp) _).alloc (by simp <;>omega) _).alloc (by simp <;>omega) _
 have Zf:W0.heap.size=w.heap.size+4:=by rw[←eY];simp
 have q0:bT W0 w.heap.size #[aY (some ⟨G,0,none⟩)] 78:=by rw[←eY];exact(((bT.new w _ _).alloc _).alloc _).alloc _
 have qm:W0.heap[w.heap.size+1]? =some (iU kW vB []):=by
  rw[←eY]
  have e1:=heap_alloc_new (w.alloc (aN #[aY (some ⟨G,0,none⟩)] 78)) (.map #[] 0)
  rw[bH]at e1
  refine(BI _ _ _ (by simp <;>omega)).trans ((BI _ _ _ (by simp)).trans e1)
 have q2:bT W0 (w.heap.size+1+1) #[.map (some (w.heap.size+1))] 160:=by
  rw[←eY]
  have:=(bT.new ((w.alloc (aN #[aY (some ⟨G,0,none⟩)] 78)).alloc (.map #[] 0)) #[.map (some (w.heap.size+1))] 160).alloc (aN #[aD none 0 0] 31)
  rwa[bH,bH]at this
 have q3:bT W0 (w.heap.size+1+1+1) #[aD none 0 0] 31:=by
  rw[←eY]
  have:=bT.new (((w.alloc (aN #[aY (some ⟨G,0,none⟩)] 78)).alloc (.map #[] 0)).alloc (aN #[.map (some (w.heap.size+1))] 160)) #[aD none 0 0] 31
  rwa[bH,bH,bH]at this
 have hgl:G<w.heap.size∧m2<w.heap.size∧m3<w.heap.size∧m4<w.heap.size:=⟨hg.blk.lt,(Array.getElem?_eq_some_iff.1 hg.s).1,(Array.getElem?_eq_some_iff.1 hg.n).1,(Array.getElem?_eq_some_iff.1 hg.i).1⟩
 have hll:(gx<w.heap.size∨X=0)∧(gy<w.heap.size∨Y=0):=by
  constructor
  ·rcases jM X with e|e
   ·exact .inr e
   ·exact .inl (bB w ⟨gx,0,none⟩ (hl.x 0 e))
  ·rcases jM Y with e|e
   ·exact .inr e
   ·exact .inl (bB w ⟨gy,0,none⟩ (hl.y 0 e))
 have HG:=zq (hg.below fE)
 have HL:=zq (hl.below fE)
 have HGl:=zq hgl
 have HLl:=zq hll
 have fV:=zq fE
 have nO:=zq q0
 have HQm:=zq qm
 have Cf:=zq q2
 have KS:=zq q3
 have Hs0:=zq Zf
 have FC:=zq eY
 clear hg hl fE qm q2 q3 hgl hll Zf eY
 refine dM func35 rfl ?_
 simp only[ntmps35,cD,bD,bV,dQ,dR,cA,cB,cR,cH,dF,cJ]
 go_upto_region 3 with(fail)
 rw[FC.out]
 clear FC
 have b1:=q0.cell 0
 simp only[aJ,aI]at b1
 clear q0
 go_wp2_with fail
 refine(ig G W0).mono ?_
 rintro e W1⟨rfl,rS⟩
 have hb1:Below W0.heap.size W0 W1:=by rw[rS];exact(aL _ _).alloc (aH _) _
 have tL:W1.heap.size=w.heap.size+5:=by rw[rS,bH,Hs0.out]
 have vL:bK (bT W1 W0.heap.size #[aY (some ⟨G,0,none⟩)] 78):=by rw[rS];exact bT.new _ _ _
 have HG1:=zq (HG.out.below hb1)
 have HL1:=zq (HL.out.below hb1)
 have eC:=zq (aQ fV.out hb1)
 have nO:=zq (nO.out.below hb1 nO.out.lt)
 have HQm:=zq (rD HQm.out hb1)
 have Cf:=zq (Cf.out.below hb1 Cf.out.lt)
 have KS:=zq (KS.out.below hb1 KS.out.lt)
 have Hs1:=zq tL
 have HBwn:bK (W0.heap.size=w.heap.size+4):=Hs0.out
 clear hb1 rS HG HL b1 tL fV Hs0
 generalize W0.heap.size=Bw at *
 have HX:bK (∀k,(k=w.heap.size+1∨k=w.heap.size+1+1+1)→w.heap.size≤k):=fun k h=>by omega
 have HGof:bK (∀W,fW (fun j=>j=w.heap.size+1∨j=w.heap.size+1+1+1) W1 W→gN W G (aD xa X cx) (aD ya Y cy) m2 m3 m4 S N I∧qk W gx gy X Y xs ys):=fun W h=>
  ⟨HG1.out.kept h HX.out HGl.out.1 HGl.out.2.1 HGl.out.2.2.1 HGl.out.2.2.2,HL1.out.kept h HX.out HLl.out.1 HLl.out.2⟩
 go_wp2_with fail
 have QK:∀k,(k=Bw∨k=G)→k<W1.heap.size:=fun k h=>h.elim (fun e=>by rw[e];exact vL.out.lt) (fun e=>by rw[e];exact HG1.out.blk.lt)
 have QL:w.heap.size+1<W1.heap.size:=by rw[Hs1.out];omega
 have Uc:w.heap.size+1+1+1<W1.heap.size:=by rw[Hs1.out];omega
 refine Lm (gf:=170) (lb:= #[aY (some ⟨Bw,0,none⟩)]) rfl (enters_of func170 (by kernel_rfl) rfl)
  (ic Fence.wide 8 trivial rfl (by decide) Bw G _ _ X Y cx cy _ _ _ W1 hX hY vL.out HG1.out.blk).m dW.trans (dW.putObj QK) (fun _=>rfl)
  (fun k W=>fT W1 (w.heap.size+1) (w.heap.size+1+1+1) (jA (lZ I) ((oA X Y).take k)).1 ((jA (lZ I) ((oA X Y).take k)).2.map (fA S xs ys)) W) (fun _ _ _=>False)
  (fun _ _ _ _ hs hg hr=>hs.own QL Uc hg hr) (fun c _ _ _ _ hs _ _=>hs) ⟨fW.refl _ _,⟨[],HQm.out,xI.nil⟩,_,[],KS.out,⟨tG _ _ _ _,fun l hl=>by cases hl⟩,rfl⟩
  (fun a' k W=>(∃q,a'={tmps:= #[aY (some ⟨G,0,none⟩),aY (some ⟨w.heap.size,0,none⟩),aD none 0 0,aY (some ⟨w.heap.size+1+1,0,none⟩),aY (some ⟨w.heap.size+1+1+1,0,none⟩),aY (some ⟨q,0,none⟩),aO,aO,.map (some (w.heap.size+1)),aY (some ⟨G,0,none⟩),.func (.func 170) #[] #[aY (some ⟨Bw,0,none⟩)],cF #[aC aB (vH Y k).x,aC aB (vH Y k).y,aC aB (vH Y k).d],aO,aO,aO,aO,aO,aO,aO,aO,aO,aO,aO,aO,aO,aO,aO,aO,aO,aO,aO,aO,aO,aO,aO,aO,aO,aO,aO,aO,aO,aO,aO],defers:=[]}∧bT W q #[aC aB (vH Y k).x,aC aB (vH Y k).y,aC aB (vH Y k).d] 167)∧fT W1 (w.heap.size+1) (w.heap.size+1+1+1) (jA (lZ I) ((oA X Y).take k)).1 ((jA (lZ I) ((oA X Y).take k)).2.map (fA S xs ys)) W)
  (fun a'=>eO (Own.from (fun s A B row hs hg hr=>by obtain⟨q,e,h⟩:=hs;exact⟨q,e,h.own hg hr⟩) _) (fun _ _ _ _ hs hg hr=>hs.own QL Uc hg hr))
  ?assign ?body ?done ?stop
 case assign=>
  intro l k W K hk hI hK
  obtain⟨V,hV⟩:∃V,W.alloc (aN #[aC aB (vH Y k).x,aC aB (vH Y k).y,aC aB (vH Y k).d] 167)=V:=⟨_,rfl⟩
  have hb:Below W.heap.size W V:=by rw[←hV];exact(aL _ _).alloc (aH _) _
  have HN:bK (bT V W.heap.size #[aC aB (vH Y k).x,aC aB (vH Y k).y,aC aB (vH Y k).d] 167):=by rw[←hV];exact bT.new _ _ _
  have HKf:=zq ((fQ hb).from W1.heap.size)
  have HSa:bK (dW (fun k=>k=Bw∨k=G) W V):=dW.below hb (fun k h=>dC (QK k h) hI.kept.size)
  have HIv:=zq (hI.below hb)
  have HV:=zq hV
  clear hb hI hV
  gi_wp2
  try rw[HV.out]
  clear HV
  generalize W.heap.size=q at *
  exact hK _ _ HKf.out HSa.out ⟨⟨q,rfl,HN.out⟩,HIv.out⟩
 case done=>
  rintro D W hD hB hK
  obtain⟨fg,-,v,los,ho,Nx,nL⟩:=hB
  have hcn:(Obj.deferred (some [])).isCells=false:=rfl
  have HK:=zq hK
  have HBW:=zq (eC.out.trans (fg.below (B:=w.heap.size) (by rw[Hs1.out];omega) HX.out))
  have HBD:=zq (iH (B:=w.heap.size) (by have:=Hs1.out;omega) hK (o':=.deferred none))
  have HLp:bK (gJ w.heap.size (W.putObj D (.deferred none)) v los):=⟨jO (kV Nx.1 (rO W D _) (fun r e=>by cases e;exact⟨_,hK,hcn⟩)) (by rw[Hs1.out];omega),fun l hl=>jO (kV (Nx.2 l hl) (rO W D _) (fun r e=>by cases e;exact⟨_,hK,hcn⟩)) (by rw[Hs1.out];omega)⟩
  have HPs:bK (los.map Lp.ps=(jA (lZ I) (oA X Y)).2.map (fA S xs ys)):=by
   show _=_
   rw[nL,eM]
   rw[T8,aZ,kO]
   exact aH _
  have b3:=ho.cell 0
  simp only[aJ,aI]at b3
  clear fg ho Nx nL hK hD
  go_wp2
  refine⟨by simp,.inl ⟨_,_,rfl,run_takeDeferred HK.out,?_⟩⟩
  exact⟨_,results_tmp Tryz.results35 _ _ _,⟨v,los,rfl,HLp.out,HPs.out⟩,HBW.out.trans HBD.out⟩
 case stop=>
  rintro D c k W hD hk h
  exact absurd h (fun h=>h)
 case body=>
  rintro l k a' W hk⟨⟨q,rfl,hq⟩,hI⟩
  have hvin:vH Y k∈oA X Y:=by
   have:=List.mem_of_mem_take (l:=oA X Y) (i:=k+1) (a:=vH Y k) (by rw[O4 hk];simp)
   exact this
  have HSt:bK (jA (lZ I) ((oA X Y).take (k+1))=eR (lZ I) (jA (lZ I) ((oA X Y).take k)) (vH Y k)):=by show _=_;rw[O4 hk,T6]
  have HInv:=zq (xH tA ((oA X Y).take k))
  have Ud:bK (∀V,fT W1 (w.heap.size+1) (w.heap.size+1+1+1) (eR (lZ I) (jA (lZ I) ((oA X Y).take k)) (vH Y k)).1 ((eR (lZ I) (jA (lZ I) ((oA X Y).take k)) (vH Y k)).2.map (fA S xs ys)) V→fT W1 (w.heap.size+1) (w.heap.size+1+1+1) (jA (lZ I) ((oA X Y).take (k+1))).1 ((jA (lZ I) ((oA X Y).take (k+1))).2.map (fA S xs ys)) V):=fun V h=>by rw[HSt.out];exact h
  generalize jA (lZ I) ((oA X Y).take k)=st at *
  generalize vH Y k=v at *
  obtain⟨hx0,hx1,hy0,rj,hd⟩:=GB.1 hvin
  obtain⟨vx,vy,vd⟩:=v
  simp only[]at hx0 hx1 hy0 rj hd hq
  have b0:=(hI.kept.blk nO.out (by intro c;omega)).cell 0
  have b2:=(hI.kept.blk Cf.out (by intro c;omega)).cell 0
  simp only[aJ,aI]at b0 b2
  obtain⟨e0,e1,e2⟩:=hq.three
  obtain⟨U,hm,hU⟩:=hI.map
  have HL:=T9 hm vx vy vd
  have hget:=hU.get ⟨vx,vy,vd⟩
  obtain⟨ub,hub⟩:∃b,(gV U ⟨vx,vy,vd⟩).getD false=b:=⟨_,rfl⟩
  rw[hub]at HL hget
  have HGet:=zq hget
  have HI:=zq hI
  have HUU:=zq hU
  have Hm:=zq hm
  have Hq:=zq hq
  clear hI hU hm hub hget hvin
  cases ub
  ·have Ue:(⟨vx,vy,vd⟩:Wy)∉st.1:=fun c=>by have:=HGet.out.2 c;cases this
   have gu:=zq (JK G _ _ m2 m3 m4 S N I vx vy vd hd (by omega) (by omega) W (HGof.out W HI.out.kept).1)
   obtain⟨bb,hbb⟩:∃b,bor (lZ I) vx vy vd=b:=⟨_,rfl⟩
   rw[hbb]at gu
   have Hbb:=zq hbb
   have Hnot:=zq Ue
   clear hbb Ue
   gi_wp2_with fail
   refine⟨trivial,(Calls.round gu.out _ _).mono ?_⟩
   rintro e W2⟨rfl,hb2⟩
   cases bb
   ·have Kj:=zq ((fQ hb2).from W1.heap.size)
    have HS2:bK (dW (fun k=>k=Bw∨k=G) W W2):=dW.below hb2 (fun k h=>dC (QK k h) HI.out.kept.size)
    have wu:bK (fT W1 (w.heap.size+1) (w.heap.size+1+1+1) (eR (lZ I) st ⟨vx,vy,vd⟩).1 ((eR (lZ I) st ⟨vx,vy,vd⟩).2.map (fA S xs ys)) W2):=by
     have e:eR (lZ I) st ⟨vx,vy,vd⟩=st:=by
      unfold eR
      rw[ip]
      right
      unfold lH
      rw[Hbb.out,Bool.and_false]
     rw[e]
     exact HI.out.below hb2
    clear hb2
    gi_wp2
    exact⟨Kj.out,HS2.out,Ud.out _ wu.out⟩
   ·have GD:lH (lZ I) ⟨vx,vy,vd⟩=true:=by
     unfold lH
     rw[Hbb.out,Bool.and_true]
     exact decide_eq_true hd
    obtain⟨kp,Xp,hkp⟩:=IZ tA GD
    have hkp:kp≤10000:=aU hkp hXY
    have hkp0:0<kp:=Xp.1
    have HFr:bK (∀j,j<kp→jY (jX (lZ I)) j ⟨vx,vy,vd⟩∉st.1++kP (jX (lZ I)) ⟨vx,vy,vd⟩ j):=fun j hj c=>by
     rcases List.mem_append.1 c with c|c
     ·exact L9 Xp.2.1 (U:=(·∈st.1)) HInv.out.kept Hnot.out j (jS hj) c
     ·obtain⟨i,hi,e⟩:=oT.1 c
      exact(IY tA).apart ((uO tA).2 GD) Xp.2.2 i j hi hj e
    have Zy:bK (jY (jX (lZ I)) kp ⟨vx,vy,vd⟩∈st.1++kP (jX (lZ I)) ⟨vx,vy,vd⟩ kp):=vP _ (oT.2 ⟨0,hkp0,Xp.2.1.symm⟩)
    have Si:bK (∀j,JS X Y (jY (jX (lZ I)) j ⟨vx,vy,vd⟩)):=fun j=>I0 tA (GC GD j)
    have HSt2:bK (eR (lZ I) st ⟨vx,vy,vd⟩=(st.1++kP (jX (lZ I)) ⟨vx,vy,vd⟩ kp,st.2++[kP (jX (lZ I)) ⟨vx,vy,vd⟩ kp])):=by
     show _=_
     unfold eR
     rw[iN (fun c=>c.elim Hnot.out (fun e=>by rw[GD]at e;cases e)),uN Xp]
    have Hper:=zq Xp
    have yr:=zq hb2
    have wu:=zq (HI.out.below hb2)
    have Hq2:=zq (Hq.out.below hb2 Hq.out.lt)
    obtain⟨V2,Uf⟩:∃V,W2.alloc (aN #[aC aB vx,aC aB vy,aC aB vd] 167)=V:=⟨_,rfl⟩
    have rU:Below W2.heap.size W2 V2:=by rw[←Uf];exact(aL _ _).alloc (aH _) _
    have xi:bK (Zx W1 W (w.heap.size+1) (w.heap.size+1+1+1) st.1 (st.2.map (fA S xs ys)) (jX (lZ I)) ⟨vx,vy,vd⟩ 0 W2.heap.size (aD none 0 0) V2):=
     ⟨by rw[←Uf];exact bT.new _ _ _,aU wu.out.kept.size (aH _),by show fT _ _ _ (st.1++[]) _ _;rw[pZ];exact wu.out.below rU,tG _ _ _ _,by simp[jW],Ay ((fQ hb2).from _) rU⟩
    have NU:=zq Uf
    obtain⟨e0,e1,e2⟩:=Hq2.out.three
    have b0:=(wu.out.kept.blk nO.out (by intro c;omega)).cell 0
    have b2:=(wu.out.kept.blk Cf.out (by intro c;omega)).cell 0
    simp only[aJ,aI]at b0 b2
    have hkW:=HI.out.kept
    clear hb2 rU Uf Xp GD HL
    gi_wp2
    gi_loopw [6,7] (fun lv nv wr=>∃(j qn:Nat),nv=aY (some ⟨qn,0,none⟩)∧j≤kp∧lenV lv=j∧bK (Zx W1 W (w.heap.size+1) (w.heap.size+1+1+1) st.1 (st.2.map (fA S xs ys)) (jX (lZ I)) ⟨vx,vy,vd⟩ j qn lv wr)) (fun lv _ _=>kp-lenV lv)
    case atStart=>exact⟨0,W2.heap.size,rfl,bM _,rfl,by rw[NU.out];exact xi.out⟩
    case round=>
     clear xi NU wu Hq2 e0 e1 e2 b0 b2
     obtain⟨j,qn,rfl,hj,hlen,HR⟩:=hrel
     obtain⟨hn,zz,Zz,zF,Mj,hkf⟩:=HR.out
     have JV:∀j,jY (jX (lZ I)) (j+1) ⟨vx,vy,vd⟩=jX (lZ I) (jY (jX (lZ I)) j ⟨vx,vy,vd⟩):=fun j=>rfl
     have HN1:=zq (JV j)
     have HCy:=zq (gh (f:=jX (lZ I)) ⟨vx,vy,vd⟩ j)
     have HFrj:=zq (HFr.out j)
     have HBoj:=zq (Si.out j)
     have HBkj:bK (j=kp→jY (jX (lZ I)) j ⟨vx,vy,vd⟩∈st.1++kP (jX (lZ I)) ⟨vx,vy,vd⟩ j):=fun e=>by rw[e];exact Zy.out
     obtain⟨u,hu⟩:∃u,jY (jX (lZ I)) j ⟨vx,vy,vd⟩=u:=⟨_,rfl⟩
     rw[hu]at hn HN1 HCy HFrj HBoj HBkj
     obtain⟨U2,QM,hU2⟩:=Zz.map
     have hgt:=hU2.get u
     have b0:=(Zz.kept.blk nO.out (by intro c;omega)).cell 0
     have b2:=(Zz.kept.blk Cf.out (by intro c;omega)).cell 0
     simp only[aJ,aI]at b0 b2
     obtain⟨n0,n1,n2⟩:=hn.three
     have ln:=hn.lt
     have WU:=zq Zz
     have Xq:=zq zF
     have HSep:=zq Mj
     have HKf:=zq hkf
     have HNb:=zq zz
     have HNn:=zq hn
     have HU2:=zq hU2
     have HM2:=zq QM
     obtain⟨ux,uy,ud⟩:=u
     simp only[]at n0 n1 n2 HNn
     have hL2:=T9 QM ux uy ud
     obtain⟨ub,hub⟩:∃b,(gV U2 ⟨ux,uy,ud⟩).getD false=b:=⟨_,rfl⟩
     rw[hub]at hL2 hgt
     have HGt:=zq hgt
     clear HR Zz zF Mj hkf zz hn hU2 hgt hub hu JV
     by_cases hjk:j<kp
     ·obtain rfl:ub=false:=by
       cases ub
       ·rfl
       ·exact absurd (HGt.out.1 rfl) (HFrj.out hjk)
      have HUp:eH aE (oE 160 (.map (some (w.heap.size+1))) (cF #[aC aB ux,aC aB uy,aC aB ud]) (aV true)) wr=.ok () (wr.putObj (w.heap.size+1) (iU kW vB (gI U2 ⟨ux,uy,ud⟩ true))):=Dq Eh vl QM ⟨ux,uy,ud⟩ true
      obtain⟨WA,NR⟩:∃V,wr.putObj (w.heap.size+1) (iU kW vB (gI U2 ⟨ux,uy,ud⟩ true))=V:=⟨_,rfl⟩
      have hLA:fT W1 (w.heap.size+1) (w.heap.size+1+1+1) (st.1++kP (jX (lZ I)) ⟨vx,vy,vd⟩ j++[⟨ux,uy,ud⟩]) (st.2.map (fA S xs ys)) WA:=by rw[←NR];exact WU.out.use QM HU2.out ⟨ux,uy,ud⟩
      have hgA:wr.grownBy WA (some (w.heap.size+1)):=by rw[←NR];exact rO wr _ _
      have hnA:bT WA qn #[aC aB ux,aC aB uy,aC aB ud] 167:=by rw[←NR];exact(eW _ _ _ _ (kJ HNn.out QM)).trans HNn.out
      have hrA:WA.ownsRow W1.heap.size 167 3 u6 j (fL (kP (jX (lZ I)) ⟨vx,vy,vd⟩ j)):=kV Xq.out hgA (fun r e=>by cases e;exact⟨_,QM,rfl⟩)
      have hkA:kR W1.heap.size W WA:=HKf.out.trans (KeepsFrom.of_grownBy hgA (fun r e=>by cases e;exact QL))
      have hsA:W1.heap.size≤WA.heap.size:=hLA.kept.size
      rw[NR]at HUp
      have HUp1:=HUp
      have HCyw:bK (fL (kP (jX (lZ I)) ⟨vx,vy,vd⟩ (j+1))=fL (kP (jX (lZ I)) ⟨vx,vy,vd⟩ j)++[aC aB ux,aC aB uy,aC aB ud]):=by show _=_;rw[HCy.out,JN];rfl
      have HLA:=zq hLA;have HNA:=zq hnA;have xi:=zq hrA;have HKA:=zq hkA;have HSA:=zq hsA
      have a2':=(hLA.kept.blk Cf.out (by intro c;omega)).cell 0
      simp only[aJ,aI]at a2'
      obtain⟨k0,k1,k2⟩:=hnA.three
      have lnA:=hnA.lt
      clear NR hLA hgA hnA hkA QM
      have zF:=xi.out
      have NT:=HSA.out
      have hj1:j+1≤100000000:=by omega
      gi_wp2_with (gi_at_builtin;refine Xm rfl _ _ rfl W1.heap.size u6 j _ rfl zF ux uy ud rfl hj1 NT ?_;intro g5 c5 w5 iV Zr oS;have x5:bT w5 qn #[aC aB ux,aC aB uy,aC aB ud] 167:=(oS.block qn HNA.out.lt HSep.out).trans HNA.out;obtain⟨y0,y1,y2⟩:=x5.three;have ly:=x5.lt;have X5:=zq x5;clear x5;have xA:bT w5 w.heap.size #[aY (some ⟨G,0,none⟩)] 78:=(HLA.out.turn QL Uc oS (kQ xi.out)).kept.blk nO.out (by intro c;omega);have y3:w5.cell? ⟨w.heap.size,0,none⟩=some (aY (some ⟨G,0,none⟩)):=xA.cell 0;have ly3:=xA.lt;clear xA)
      have hl5:=HLA.out.turn QL Uc oS (kQ xi.out)
      have hk5:=uQ HKA.out oS (fun r e=>by obtain⟨-,cs,fz,h⟩:=kQ xi.out r e;exact⟨cs,_,fz,h⟩)
      rw[←HCyw.out]at iV
      obtain⟨V5,hV5⟩:∃V,w5.alloc (aN #[aC aB ux,aC aB uy,aC aB ud] 167)=V:=⟨_,rfl⟩
      have hb5:Below w5.heap.size w5 V5:=by rw[←hV5];exact(aL _ _).alloc (aH _) _
      have hn5:bT V5 w5.heap.size #[aC aB ux,aC aB uy,aC aB ud] 167:=by rw[←hV5];exact bT.new _ _ _
      have hl6:=hl5.below hb5
      have hk6:=Ay hk5 hb5
      have hr6:=bJ iV hb5
      have hsz5:W1.heap.size≤w5.heap.size:=hl5.kept.size
      have hgl5:g5<w5.heap.size:=(kU iV).2.1
      have a0':=(hl6.kept.blk nO.out (by intro c;omega)).cell 0
      simp only[aJ,aI]at a0'
      obtain⟨x0,x1,x2⟩:=hn5.three
      have Zt:=zq (ib G _ _ m2 m3 m4 S N I ux uy ud HBoj.out.2.2.2.2.1 (by have:=HBoj.out;unfold JS at this;simp only[]at this;omega) (by have:=HBoj.out;unfold JS at this;simp only[]at this;omega) V5 (HGof.out V5 hl6.kept).1)
      have HL6:=zq hl6;have HK6:=zq hk6;have HR6:=zq hr6;have HN6:=zq hn5;have HS5:=zq hsz5;have ZA:=zq hgl5
      try rw[hV5]
      clear hV5 hb5 hl5 hk5 iV oS hl6 hk6 hr6 hn5 zF NT y0 y1 y2 ly y3 ly3 k0 k1 k2 lnA
      generalize w5.heap.size=qn2 at *
      refine⟨trivial,(Calls.round Zt.out _ _).mono ?_⟩
      obtain⟨t,ht⟩:∃t,jX (lZ I) ⟨ux,uy,ud⟩=t:=⟨_,rfl⟩
      rw[ht]at HN1⊢
      obtain⟨tx,ty,td⟩:=t
      rintro e W6⟨rfl,hb6⟩
      unfold kW
      have Ml:=zq (HN6.out.below hb6 HN6.out.lt)
      have HL7:=zq (HL6.out.below hb6)
      have zr:=zq (Ay HK6.out hb6)
      have HR7:=zq (bJ HR6.out hb6)
      clear hb6 x0 x1 x2 ht a0'
      obtain⟨x0,x1,x2⟩:=Ml.out.three
      have z0:=Ml.out.fz 0
      have z1:=Ml.out.fz 1
      have z2:=Ml.out.fz 2
      have lq:=Ml.out.lt
      have GE:=ii W6 qn2 (aC aB tx) (aC aB ty) (aC aB td)
      have BM:∀r,some qn2=some r→W1.heap.size≤r∧∃cs fz,W6.heap[r]? =some (aN cs 167 fz):=fun r e=>by cases e;exact⟨HS5.out,_,_,Ml.out⟩
      have HN8:=zq (((Ml.out.set 0 (aC aB tx)).set 1 (aC aB ty)).set 2 (aC aB td))
      have HL8:=zq (HL7.out.turn QL Uc GE BM)
      have HK8:=zq (uQ zr.out GE (fun r e=>by obtain⟨-,cs,fz,h⟩:=BM r e;exact⟨cs,_,fz,h⟩))
      have HR8:=zq (HR7.out.kept GE (.inr (by show some g5≠some qn2;have:=ZA.out;intro e;cases e;omega)))
      have HSp:bK (some qn2≠(aD (some ⟨g5,0,none⟩) (j+1) c5).ownBlock):=by show some qn2≠some g5;have:=ZA.out;intro e;cases e;omega
      clear GE BM
      gi_wp2
      go_roundw
      case rel=>exact⟨j+1,qn2,rfl,by omega,rfl,by rw[HN1.out];exact HN8.out,HS5.out,by rw[HCy.out,←List.append_assoc];exact HL8.out,HR8.out,HSp.out,HK8.out⟩
      case measure=>have h1:=hlen;show kp-(j+1)<kp-lenV u6;omega
     ·obtain rfl:j=kp:=by omega
      obtain rfl:ub=true:=by
       cases ub
       ·exact absurd (HGt.out.2 (HBkj.out rfl)) (by decide)
       ·rfl
      obtain⟨gl,cl,rfl⟩:=oN hkp0 Xq.out
      obtain⟨uR,zg,ov,los,If,Nx,nL⟩:=WU.out
      have IT:=(kU Xq.out).2.2.1
      have HPt:=zq (Xj G gx gy X Y cx cy m2 m3 m4 S N I xs ys gl j cl (kP (jX (lZ I)) ⟨vx,vy,vd⟩ j) wr.drew hX hY hkp0 hkp IT (CN _ _) (fun x hx=>by obtain⟨i,-,rfl⟩:=oT.1 hx;exact Si.out i) (HGx.out _ (by omega) (by omega) (HGof.out wr.drew ⟨uR.os,uR.tape,uR.output,uR.size,uR.block⟩).1) (HGof.out wr.drew ⟨uR.os,uR.tape,uR.output,uR.size,uR.block⟩).2 (CO.own Xq.out))
      have hsr:W1.heap.size≤wr.drew.heap.size:=uR.size
      have o0:=If.cell 0
      simp only[aJ,aI]at o0
      have lO:=If.lt
      have hlen2:los.length+1≤100000:=by
       have h1:=HInv.out.len tA
       have h2:=congrArg List.length nL
       rw[aZ,aZ]at h2
       omega
      gi_wp2
      refine rY (S:=(fun w'=>w'.cell? ⟨w.heap.size,0,none⟩=some (aY (some ⟨G,0,none⟩)))) (by kernel_rfl) (by kernel_rfl) ?_ (fun jP=>?_)
      ·exact b0
      refine tH 1 rfl ?_
      refine tH 2 rfl ?_
      try simp only[cS,aX,aR,aS,aM,aT,aW]
      refine fC (rs:=[0,3]) (by kernel_rfl) (by simp) ?_
      refine dJ rfl (fun K hK=>?_) (dJ rfl (fun K hK=>?_) dX)
      focus
       go_simp
       show K _ _
       refine hK.out _ _ b0 (fun jP=>?_)
       clear hK K
       try simp only[cS,aX,aR,aS,aM,aT,aW]
       refine fC (rs:=[3]) (by kernel_rfl) (by simp) ?_
       refine dJ rfl (fun K hK=>?_) dX
       go_simp
       (with_reducible refine HPt.out.mono ?_)
       rintro e w1⟨⟨g6,c6,rfl,Av⟩,hb6⟩
       have zV:=zq (aQ (aL wr.heap.size wr).drew hb6)
       have re:=zq (jO Av hsr)
       clear Av hb6
       have r0:=bR zV.out o0
       have r1:=bR zV.out b0
       show K _ _
       refine hK.out _ _ r1 (fun jP=>?_)
       clear hK K
       try simp only[cS,aX,aR,aS,aM,aT,aW]
       refine fC (rs:=[4]) (by kernel_rfl) (by simp) ?_
       refine dJ rfl (fun K hK=>?_) dX
       go_simp
       show K _ _
       have hal:=zV.out.alloc zV.out.size (aN #[aD (some ⟨g6,0,none⟩) (fA S xs ys (kP (jX (lZ I)) ⟨vx,vy,vd⟩ j)).length c6] 39)
       have u0:=bR hal o0
       have u1:=bR hal b0
       refine hK.out _ _ u1 (fun jP=>?_)
       clear hK K
       try simp only[cS,aX,aR,aS,aM,aT,aW]
       refine fC (rs:=[5]) (by kernel_rfl) (by simp) ?_
       refine dJ rfl (fun K hK=>?_) dX
       refine DC (by rfl) _ _ (by rfl) W1.heap.size ov los.length _ (by rfl) (bJ Nx.1 hal) w1.heap.size (some ⟨g6,0,none⟩) _ c6 (by rfl) (bT.new w1 _ _) (by omega) (aU uR.size hal.size) ?_
       intro g7 c7 w7 oR CU hat7
       have hb7:=bJ re.out ((aL w1.heap.size w1).alloc (aH _) (aN #[aD (some ⟨g6,0,none⟩) (fA S xs ys (kP (jX (lZ I)) ⟨vx,vy,vd⟩ j)).length c6] 39))
       have hLz:=fT.push (l:=⟨some ⟨g6,0,none⟩,c6,fA S xs ys (kP (jX (lZ I)) ⟨vx,vy,vd⟩ j)⟩) QL Uc (by omega) (uR.step hal) (by obtain⟨U,h1,h2⟩:=zg;exact⟨U,rD h1 hal,h2⟩) (If.below hal If.lt) (Nx.below hal) hb7 CU oR
       have hA7:w7.cell? ⟨w.heap.size,0,none⟩=some (aY (some ⟨G,0,none⟩)):=(CU.cell_far ⟨w.heap.size,0,none⟩ (bB _ _ u1) (fun e=>by have h:W1.heap.size≤w.heap.size:=(kQ (bJ Nx.1 hal) _ e.symm).1;have:=Hs1.out;omega)).trans u1
       have ZB:bT w7 (w.heap.size+1+1+1) #[ov] 31:=(CU.block _ (If.below hal If.lt).lt (fun e=>by have:=(kQ (bJ Nx.1 hal) _ e.symm).1;omega)).trans (If.below hal If.lt)
       have hKz:=uQ (uQ (Ay HKf.out hal) CU (fun r e=>by obtain⟨-,cs,fz,h⟩:=kQ (bJ Nx.1 hal) r e;exact⟨cs,_,fz,h⟩)) (xJ w7 ⟨w.heap.size+1+1+1,0,none⟩ (aD (some ⟨g7,0,none⟩) (los.length+1) c7)) (fun r e=>by cases e;exact⟨_,_,_,ZB⟩)
       have HLz:=zq hLz
       have HKz:=zq hKz
       have y0:=ZB.cell 0
       have y1:=ZB.fz 0
       have ly:=ZB.lt
       simp only[aJ,aI]at y0
       refine hK.out _ _ hA7 (fun jP=>?_)
       clear hK K hLz hKz hb7 oR CU hat7
       try simp only[cS,aX,aR,aS,aM,aT,aW]
       refine fC (rs:=[6]) (by kernel_rfl) (by simp) ?_
       refine dJ rfl (fun K hK=>?_) dX
       go_simp
       show K _ _
       refine hK.out _ _ (TV (by intro e;injection e with e1 e2;omega) hA7) (fun jP=>?_)
       clear hK K
       try simp only[cS,aX,aR,aS,aM,aT,aW]
       refine EI (by kernel_rfl) ?_ _
       refine iM.normal ?_
       have qq:bK (dW (fun k=>k=Bw∨k=G) W (w7.setCell ⟨w.heap.size+1+1+1,0,none⟩ (aD (some ⟨g7,0,none⟩) (los.length+1) c7))):=fun k h=>by
        have hkn:¬(k=w.heap.size+1∨k=w.heap.size+1+1+1):=by have:=HBwn.out;have:=HGl.out.1;rcases h with h|h<;>omega
        rw[HLz.out.kept.block k (QK k h) hkn,hkW.block k (QK k h) hkn]
       have HLe:bK (fT W1 (w.heap.size+1) (w.heap.size+1+1+1) (eR (lZ I) st ⟨vx,vy,vd⟩).1 ((eR (lZ I) st ⟨vx,vy,vd⟩).2.map (fA S xs ys)) (w7.setCell ⟨w.heap.size+1+1+1,0,none⟩ (aD (some ⟨g7,0,none⟩) (los.length+1) c7))):=by
        rw[HSt2.out]
        have:=HLz.out
        rw[nL]at this
        rw[eV]
        exact this
       gi_wp2
       exact⟨HKz.out,qq.out,Ud.out _ HLe.out⟩
      focus
       go_simp
       (with_reducible refine HPt.out.mono ?_)
       rintro e w1⟨⟨g6,c6,rfl,Av⟩,hb6⟩
       have zV:=zq (aQ (aL wr.heap.size wr).drew hb6)
       have re:=zq (jO Av hsr)
       clear Av hb6
       have r0:=bR zV.out o0
       have r1:=bR zV.out b0
       show K _ _
       refine hK.out _ _ r1 (fun jP=>?_)
       clear hK K
       try simp only[cS,aX,aR,aS,aM,aT,aW]
       refine fC (rs:=[0,4]) (by kernel_rfl) (by simp) ?_
       refine dJ rfl (fun K hK=>?_) (dJ rfl (fun K hK=>?_) dX)
       focus
        go_simp
        show K _ _
        refine hK.out _ _ r1 (fun jP=>?_)
        clear hK K
        try simp only[cS,aX,aR,aS,aM,aT,aW]
        refine fC (rs:=[4]) (by kernel_rfl) (by simp) ?_
        refine dJ rfl (fun K hK=>?_) dX
        go_simp
        show K _ _
        have hal:=zV.out.alloc zV.out.size (aN #[aD (some ⟨g6,0,none⟩) (fA S xs ys (kP (jX (lZ I)) ⟨vx,vy,vd⟩ j)).length c6] 39)
        have u0:=bR hal o0
        have u1:=bR hal b0
        refine hK.out _ _ u1 (fun jP=>?_)
        clear hK K
        try simp only[cS,aX,aR,aS,aM,aT,aW]
        refine fC (rs:=[5]) (by kernel_rfl) (by simp) ?_
        refine dJ rfl (fun K hK=>?_) dX
        refine DC (by rfl) _ _ (by rfl) W1.heap.size ov los.length _ (by rfl) (bJ Nx.1 hal) w1.heap.size (some ⟨g6,0,none⟩) _ c6 (by rfl) (bT.new w1 _ _) (by omega) (aU uR.size hal.size) ?_
        intro g7 c7 w7 oR CU hat7
        have hb7:=bJ re.out ((aL w1.heap.size w1).alloc (aH _) (aN #[aD (some ⟨g6,0,none⟩) (fA S xs ys (kP (jX (lZ I)) ⟨vx,vy,vd⟩ j)).length c6] 39))
        have hLz:=fT.push (l:=⟨some ⟨g6,0,none⟩,c6,fA S xs ys (kP (jX (lZ I)) ⟨vx,vy,vd⟩ j)⟩) QL Uc (by omega) (uR.step hal) (by obtain⟨U,h1,h2⟩:=zg;exact⟨U,rD h1 hal,h2⟩) (If.below hal If.lt) (Nx.below hal) hb7 CU oR
        have hA7:w7.cell? ⟨w.heap.size,0,none⟩=some (aY (some ⟨G,0,none⟩)):=(CU.cell_far ⟨w.heap.size,0,none⟩ (bB _ _ u1) (fun e=>by have h:W1.heap.size≤w.heap.size:=(kQ (bJ Nx.1 hal) _ e.symm).1;have:=Hs1.out;omega)).trans u1
        have ZB:bT w7 (w.heap.size+1+1+1) #[ov] 31:=(CU.block _ (If.below hal If.lt).lt (fun e=>by have:=(kQ (bJ Nx.1 hal) _ e.symm).1;omega)).trans (If.below hal If.lt)
        have hKz:=uQ (uQ (Ay HKf.out hal) CU (fun r e=>by obtain⟨-,cs,fz,h⟩:=kQ (bJ Nx.1 hal) r e;exact⟨cs,_,fz,h⟩)) (xJ w7 ⟨w.heap.size+1+1+1,0,none⟩ (aD (some ⟨g7,0,none⟩) (los.length+1) c7)) (fun r e=>by cases e;exact⟨_,_,_,ZB⟩)
        have HLz:=zq hLz
        have HKz:=zq hKz
        have y0:=ZB.cell 0
        have y1:=ZB.fz 0
        have ly:=ZB.lt
        simp only[aJ,aI]at y0
        refine hK.out _ _ hA7 (fun jP=>?_)
        clear hK K hLz hKz hb7 oR CU hat7
        try simp only[cS,aX,aR,aS,aM,aT,aW]
        refine fC (rs:=[6]) (by kernel_rfl) (by simp) ?_
        refine dJ rfl (fun K hK=>?_) dX
        go_simp
        show K _ _
        refine hK.out _ _ (TV (by intro e;injection e with e1 e2;omega) hA7) (fun jP=>?_)
        clear hK K
        try simp only[cS,aX,aR,aS,aM,aT,aW]
        refine EI (by kernel_rfl) ?_ _
        refine iM.normal ?_
        have qq:bK (dW (fun k=>k=Bw∨k=G) W (w7.setCell ⟨w.heap.size+1+1+1,0,none⟩ (aD (some ⟨g7,0,none⟩) (los.length+1) c7))):=fun k h=>by
         have hkn:¬(k=w.heap.size+1∨k=w.heap.size+1+1+1):=by have:=HBwn.out;have:=HGl.out.1;rcases h with h|h<;>omega
         rw[HLz.out.kept.block k (QK k h) hkn,hkW.block k (QK k h) hkn]
        have HLe:bK (fT W1 (w.heap.size+1) (w.heap.size+1+1+1) (eR (lZ I) st ⟨vx,vy,vd⟩).1 ((eR (lZ I) st ⟨vx,vy,vd⟩).2.map (fA S xs ys)) (w7.setCell ⟨w.heap.size+1+1+1,0,none⟩ (aD (some ⟨g7,0,none⟩) (los.length+1) c7))):=by
         rw[HSt2.out]
         have:=HLz.out
         rw[nL]at this
         rw[eV]
         exact this
        gi_wp2
        exact⟨HKz.out,qq.out,Ud.out _ HLe.out⟩
       focus
        go_simp
        show K _ _
        have hal:=zV.out.alloc zV.out.size (aN #[aD (some ⟨g6,0,none⟩) (fA S xs ys (kP (jX (lZ I)) ⟨vx,vy,vd⟩ j)).length c6] 39)
        have u0:=bR hal o0
        have u1:=bR hal b0
        refine hK.out _ _ u1 (fun jP=>?_)
        clear hK K
        try simp only[cS,aX,aR,aS,aM,aT,aW]
        refine fC (rs:=[0]) (by kernel_rfl) (by simp) ?_
        refine dJ rfl (fun K hK=>?_) dX
        go_simp
        show K _ _
        refine hK.out _ _ u1 (fun jP=>?_)
        clear hK K
        try simp only[cS,aX,aR,aS,aM,aT,aW]
        refine fC (rs:=[5]) (by kernel_rfl) (by simp) ?_
        refine dJ rfl (fun K hK=>?_) dX
        refine DC (by rfl) _ _ (by rfl) W1.heap.size ov los.length _ (by rfl) (bJ Nx.1 hal) w1.heap.size (some ⟨g6,0,none⟩) _ c6 (by rfl) (bT.new w1 _ _) (by omega) (aU uR.size hal.size) ?_
        intro g7 c7 w7 oR CU hat7
        have hb7:=bJ re.out ((aL w1.heap.size w1).alloc (aH _) (aN #[aD (some ⟨g6,0,none⟩) (fA S xs ys (kP (jX (lZ I)) ⟨vx,vy,vd⟩ j)).length c6] 39))
        have hLz:=fT.push (l:=⟨some ⟨g6,0,none⟩,c6,fA S xs ys (kP (jX (lZ I)) ⟨vx,vy,vd⟩ j)⟩) QL Uc (by omega) (uR.step hal) (by obtain⟨U,h1,h2⟩:=zg;exact⟨U,rD h1 hal,h2⟩) (If.below hal If.lt) (Nx.below hal) hb7 CU oR
        have hA7:w7.cell? ⟨w.heap.size,0,none⟩=some (aY (some ⟨G,0,none⟩)):=(CU.cell_far ⟨w.heap.size,0,none⟩ (bB _ _ u1) (fun e=>by have h:W1.heap.size≤w.heap.size:=(kQ (bJ Nx.1 hal) _ e.symm).1;have:=Hs1.out;omega)).trans u1
        have ZB:bT w7 (w.heap.size+1+1+1) #[ov] 31:=(CU.block _ (If.below hal If.lt).lt (fun e=>by have:=(kQ (bJ Nx.1 hal) _ e.symm).1;omega)).trans (If.below hal If.lt)
        have hKz:=uQ (uQ (Ay HKf.out hal) CU (fun r e=>by obtain⟨-,cs,fz,h⟩:=kQ (bJ Nx.1 hal) r e;exact⟨cs,_,fz,h⟩)) (xJ w7 ⟨w.heap.size+1+1+1,0,none⟩ (aD (some ⟨g7,0,none⟩) (los.length+1) c7)) (fun r e=>by cases e;exact⟨_,_,_,ZB⟩)
        have HLz:=zq hLz
        have HKz:=zq hKz
        have y0:=ZB.cell 0
        have y1:=ZB.fz 0
        have ly:=ZB.lt
        simp only[aJ,aI]at y0
        refine hK.out _ _ hA7 (fun jP=>?_)
        clear hK K hLz hKz hb7 oR CU hat7
        try simp only[cS,aX,aR,aS,aM,aT,aW]
        refine fC (rs:=[6]) (by kernel_rfl) (by simp) ?_
        refine dJ rfl (fun K hK=>?_) dX
        go_simp
        show K _ _
        refine hK.out _ _ (TV (by intro e;injection e with e1 e2;omega) hA7) (fun jP=>?_)
        clear hK K
        try simp only[cS,aX,aR,aS,aM,aT,aW]
        refine EI (by kernel_rfl) ?_ _
        refine iM.normal ?_
        have qq:bK (dW (fun k=>k=Bw∨k=G) W (w7.setCell ⟨w.heap.size+1+1+1,0,none⟩ (aD (some ⟨g7,0,none⟩) (los.length+1) c7))):=fun k h=>by
         have hkn:¬(k=w.heap.size+1∨k=w.heap.size+1+1+1):=by have:=HBwn.out;have:=HGl.out.1;rcases h with h|h<;>omega
         rw[HLz.out.kept.block k (QK k h) hkn,hkW.block k (QK k h) hkn]
        have HLe:bK (fT W1 (w.heap.size+1) (w.heap.size+1+1+1) (eR (lZ I) st ⟨vx,vy,vd⟩).1 ((eR (lZ I) st ⟨vx,vy,vd⟩).2.map (fA S xs ys)) (w7.setCell ⟨w.heap.size+1+1+1,0,none⟩ (aD (some ⟨g7,0,none⟩) (los.length+1) c7))):=by
         rw[HSt2.out]
         have:=HLz.out
         rw[nL]at this
         rw[eV]
         exact this
        gi_wp2
        exact⟨HKz.out,qq.out,Ud.out _ HLe.out⟩
  ·have wu:bK (fT W1 (w.heap.size+1) (w.heap.size+1+1+1) (eR (lZ I) st ⟨vx,vy,vd⟩).1 ((eR (lZ I) st ⟨vx,vy,vd⟩).2.map (fA S xs ys)) W):=by
    have e:eR (lZ I) st ⟨vx,vy,vd⟩=st:=by
     unfold eR
     rw[ip (.inl (HGet.out.1 rfl))]
    rw[e]
    exact HI.out
   gi_wp2_with fail
   refine⟨trivial,?_⟩
   gi_wp2
   exact⟨KeepsFrom.refl _ _,dW.refl _ _,Ud.out _ wu.out⟩
end
end
section
open Go Go.Lib
def sI(xs:List (List UInt8)):Prop:=xs.Pairwise fun s t=>cT s<cT t
def bL(ds:List (List UInt8)):List (List UInt8):=mV (ds.mergeSort leQ).toArray ds.length
theorem Ug(l:List (List UInt8))(hs:l.Pairwise fun s t=>cT s≤cT t)(hN:∀s∈l,Nm s):∀m,m≤l.length→sI (mV l.toArray m)∧∀z,z∈mV l.toArray m↔z∈l.take m:=by
 intro m;induction m with
 |zero=>intro _;exact⟨by simp[mV,sI],by simp[mV]⟩
 |succ m ih=>
  intro hm;obtain⟨h1,h2⟩:=ih (by omega);have hlt:m<l.length:=by omega
  have e0:l.toArray[m]! =l[m]:=by simp[hlt]
  have et:l.take (m+1)=l.take m++[l[m]]:=cN hlt;rw[compactUpTo_succ,et,e0];by_cases hz:m=0
  ·subst hz;rw[keeps_lt_one _ 0 (by decide),ip rfl];simp[mV,sI]
  ·have e1:l.toArray[m-1]! =l[m-1]:=by simp[show m-1<l.length by omega]
   have pF:l[m-1]∈l.take m:=List.mem_take_iff_getElem.2 ⟨m-1,by omega,rfl⟩;by_cases he:l[m]=l[m-1]
   ·rw[keeps_neg (by omega) (by rw[e0,e1];exact he),iN (by decide),pZ];refine⟨h1,fun z=>?_⟩;rw[h2 z,nG,eJ];constructor
    ·exact .inl
    ·rintro(h|h)
     ·exact h
     ·rw[h,he];exact pF
   ·rw[keeps_pos (by rw[e0,e1];exact he),ip rfl];refine⟨?_,fun z=>by rw[nG,nG,h2 z]⟩;unfold sI;rw[List.pairwise_append];refine⟨h1,List.pairwise_singleton ..,fun s h3 t h4=>?_⟩;rw[eJ]at h4;rw[h4];obtain⟨i,hi,rfl⟩:=List.mem_take_iff_getElem.1 ((h2 s).1 h3);rw[AV]at hs;have k1:cT l[m-1]≤cT l[m]:=hs (m-1) m (by omega) hlt (by omega);have k2:cT l[m-1]≠cT l[m]:=fun e=>he ((hN _ (gL _)).inj (hN _ (gL _)) e.symm);have k3:cT l[i]≤cT l[m-1]:=by
     by_cases hi2:i=m-1
     ·subst hi2;grind
     ·exact hs i (m-1) (by omega) (by omega) (by omega)
    grind
theorem ij(a b c:List UInt8):leQ a b=true→leQ b c=true→leQ a c=true:=by
 unfold leQ;rw[decide_eq_true_eq,decide_eq_true_eq,decide_eq_true_eq];intro h1 h2;grind
theorem ik(a b:List UInt8):(leQ a b||leQ b a)=true:=by
 unfold leQ;rw[jC,decide_eq_true_eq,decide_eq_true_eq];grind
theorem mZ{ds:List (List UInt8)}(hN:∀s∈ds,Nm s):sI (bL ds)∧(∀z,z∈bL ds↔z∈ds):=by
 have h:=Ug (ds.mergeSort leQ) ((List.pairwise_mergeSort ij ik ds).imp fun h=>by unfold leQ at h;exact of_decide_eq_true h) (fun s hs=>hN s (List.mem_mergeSort.1 hs)) ds.length (by rw[Wg];exact aH _);refine⟨h.1,fun z=>?_⟩;unfold bL;rw[h.2 z,eM (by rw[Wg];exact aH _),List.mem_mergeSort]
theorem Bp(ds:List (List UInt8)):(bL ds).length≤ds.length:=by
 unfold bL mV;rw[aZ];refine aU (Dp ..) ?_;rw[kO];exact aH _
def uZ(xs:List (List UInt8))(t:List UInt8):Nat:=xs.idxOf t
section
variable{xs:List (List UInt8)}{s t:List UInt8}
theorem vM(h:t∈xs):uZ xs t<xs.length:=List.idxOf_lt_length_of_mem h
theorem qO(h:t∈xs):xs.getD (uZ xs t) []=t:=by
 rw[aG,bN (vM h),bX];exact List.getElem_idxOf (vM h)
theorem QN(ha:sI xs){i j:Nat}(hj:j<xs.length)(Lt:i<j):cT (xs.getD i [])<cT (xs.getD j []):=by
 unfold sI at ha;rw[AV]at ha;have:=ha i j (by omega) hj Lt;simpa[aG,hj,show i<xs.length by omega]using this
theorem ZC(ha:sI xs)(hs:s∈xs)(ht:t∈xs):uZ xs s<uZ xs t↔cT s<cT t:=by
 constructor
 ·intro h;have:=QN ha (vM ht) h;rwa[qO hs,qO ht]at this
 ·intro h;rcases fP (uZ xs s) (uZ xs t)with h1|h1
  ·exact h1
  ·exfalso;rcases fP (uZ xs t) (uZ xs s)with h2|h2
   ·have:=QN ha (vM hs) h2;rw[qO hs,qO ht]at this;grind
   ·have e:uZ xs s=uZ xs t:=by omega
    have k1:=qO hs;rw[e,qO ht]at k1;rw[k1]at h;grind
theorem ix_place(ha:sI xs)(hN:∀s∈xs,Nm s)(ht:t∈xs):(∀i,i<uZ xs t→(fH (xs.getD i []) t).1<0)∧(∀i,uZ xs t≤i→i<xs.length→0≤(fH (xs.getD i []) t).1)∧(fH (xs.getD (uZ xs t) []) t).1=0:=by
 have gm:∀i,i<xs.length→Nm (xs.getD i []):=fun i hi=>hN _ (by rw[aG,bN hi,bX];exact gL _);have hl:=vM ht;refine⟨fun i hi=>?_,fun i h1 h2=>?_,?_⟩
 ·rw[(gm i (by omega)).lt (hN _ ht)];have:=QN ha hl hi;rwa[qO ht]at this
 ·rw[←Int.not_lt,(gm i h2).lt (hN _ ht)];rcases fP (uZ xs t) i with h|h
  ·have:=QN ha h2 h;rw[qO ht]at this;grind
  ·obtain rfl:i=uZ xs t:=by omega
   rw[qO ht];grind
 ·rw[qO ht,(hN _ ht).cmp (hN _ ht)];show nH _ _=0;unfold nH;rw[iN (by grind),iN (by grind)]
end
def gT(fs:List Fr)(at':List (List UInt8))(xs ys:List (List UInt8))(p:Pt):Sg:=
 if(fs.getD p.side.toNat default).up=true then⟨p.side,true,uZ xs (at'.getD p.side.toNat []),uZ ys p.fr,uZ ys p.en⟩
 else⟨p.side,false,uZ ys (at'.getD p.side.toNat []),uZ xs p.fr,uZ xs p.en⟩
structure Bq(fs:List Fr)(at':List (List UInt8))(xs ys:List (List UInt8))(p:Pt):Prop where
 side:∃s:Nat,p.side=s∧s<fs.length
 x:(bW fs at' p).x∈xs
 y:(bW fs at' p).y∈ys
 en:p.en∈if(fs.getD p.side.toNat default).up=true then ys else xs
 dir:(fs.getD p.side.toNat default).dir=1∨(fs.getD p.side.toNat default).dir= -1
 adv:0≤zC fs p
def GF(f:Fr):Bool:=if f.up=true then decide (0<f.dir)else !decide (0<f.dir)
theorem dir_back(f:Fr):uH f=(Kn f.up (GF f):Nat):=by
 unfold uH Kn GF;by_cases hd:0<f.dir<;>cases f.up<;>simp[hd]
theorem fwd_back{f:Fr}(h:f.dir=1∨f.dir= -1):E6 f=if GF f=true then -1 else 1:=by
 unfold E6 GF;cases f.up<;>rcases h with e|e<;>rw[e]<;>decide
def Xr(s:Sg)(back:Bool):Nat:=if back=true then(s.a-s.b).toNat else(s.b-s.a).toNat
theorem cut_of{s:Sg}{back:Bool}(h:if back=true then s.b≤s.a else s.a≤s.b):s=sU s.side s.up s.line s.a back (Xr s back)∧s.b=eQ s.a back (Xr s back):=by
 obtain⟨sd,up,l,a,b⟩:=s;have e:b=eQ a back (Xr ⟨sd,up,l,a,b⟩ back):=by
  cases back<;>simp only[eQ,Xr,bS,if_true,if_false]at h⊢<;>omega
 refine⟨?_,e⟩;unfold sU;show Sg.mk sd up l a b=Sg.mk sd up l a (eQ a back (Xr ⟨sd,up,l,a,b⟩ back));rw[←e]
theorem seg_back{fs:List Fr}{at' xs ys:List (List UInt8)}{p:Pt}(hx:sI xs)(hy:sI ys)(hNx:∀s∈xs,Nm s)(hNy:∀s∈ys,Nm s)(h:Bq fs at' xs ys p):
 if GF (fs.getD p.side.toNat default)=true then(gT fs at' xs ys p).b≤(gT fs at' xs ys p).a else(gT fs at' xs ys p).a≤(gT fs at' xs ys p).b:=by
 obtain⟨-,h1,h2,h3,h4,h5⟩:=h;unfold zC at h5;rw[fwd_back h4]at h5;unfold bW at h1 h2;unfold gT;generalize fs.getD p.side.toNat default=f at *;have key:∀{zs:List (List UInt8)},sI zs→(∀s∈zs,Nm s)→p.en∈zs→p.fr∈zs→if GF f=true then(uZ zs p.en:Int)≤uZ zs p.fr else(uZ zs p.fr:Int)≤uZ zs p.en:=by
  intro zs ha hN he hf;by_cases hb:GF f=true
  ·rw[ip hb]at h5⊢;have:¬uZ zs p.fr<uZ zs p.en:=by
    rw[ZC ha hf he];intro hlt;have h6:(fH p.en p.fr).1=1:=by
     rw[(hN _ he).cmp (hN _ hf)];show nH _ _=1;unfold nH;rw[iN (by grind),ip (by grind)]
    rw[h6]at h5;omega
   omega
  ·rw[iN hb]at h5⊢;have:¬uZ zs p.en<uZ zs p.fr:=by
    rw[ZC ha he hf];intro hlt;have:=((hN _ he).lt (hN _ hf)).2 hlt;omega
   omega
 by_cases hu:f.up=true
 ·simp only[ip hu]at h1 h2 h3⊢;exact key hy hNy h3 h2
 ·simp only[iN hu]at h1 h2 h3⊢;exact key hx hNx h3 h1
end
section
open Go Go.RowKit
section
variable{P:dN}{cM:Array fX}{Q:A5→mI→aF→Prop}{md:gU}
def CV(md:gU)(cM:Array fX)(L:Array Bool):Prop:=
 ∀j o,cM[j]? =some o→L.getD j false=true→∀e∈o.after,sM md e=true→L.getD e.on false=true
theorem CV.set{L:Array Bool}{j:Nat}(h:CV md cM L)(hj:j∈cU md cM L):CV md cM (L.setIfInBounds j true):=by
 intro k o hk hL e he hb;obtain⟨-,oj,Ny,hall⟩:=mem_ready.1 hj;by_cases hjk:j=k
 ·subst hjk;rw[Ny]at hk;cases hk;exact getD_set_true (hall e he hb)
 ·rw[fN false hjk]at hL;exact getD_set_true (h k o hk hL e he hb)
theorem CV.none(n:Nat):CV md cM (gR n false):=by
 intro j o _ h;exfalso;by_cases hj:j<n<;>simp[hj]at h
theorem Mm{L:Array Bool}{i:Nat}(h:L.getD i true=false):L.getD i false=false:=by
 by_cases hlt:i<L.size
 ·simp[hlt]at h⊢;exact h
 ·simp[Array.getElem?_eq_none (Nat.le_of_not_lt hlt)]at h
def waits(md:gU)(cM:Array fX)(j k:Nat):Bool:=match cM[j]? with
 |some o=>o.after.any (fun e=>sM md e&&e.on==k)
 |none=>false
theorem CV.up{L:Array Bool}{j k:Nat}(h:CV md cM L)(hw:waits md cM j k=true)(hk:L.getD k false=false):L.getD j false=false:=by
 unfold waits at hw;cases ho:cM[j]? with
 |none=>rw[ho]at hw;cases hw
 |some o=>
  rw[ho]at hw;simp only[Array.any_eq_true']at hw;obtain⟨e,he,hb⟩:=hw;rw[bQ,beq_iff_eq]at hb;cases hj:L.getD j false with
  |false=>rfl
  |true=>
   have:=h j o ho hj e he hb.1;rw[hb.2,hk]at this;cases this
def qP(P:dN)(md:gU)(cM:Array fX)(Q:A5→mI→aF→Prop)(st:Array Bool→Bool)(S:aF→Prop):Nat→Array Bool→mI→aF→Prop
 |0,L,a,w=>cU md cM L=[]∧Q .normal a w
 |fuel+1,L,a,w=>(cU md cM L=[]→Q .normal a w)∧
  ∀i∈cU md cM L,wpOp P cM Q i (fun a' w'=>(st (L.setIfInBounds i true)=false→S w')∧qP P md cM Q st S fuel (L.setIfInBounds i true) a' w') a w
variable{st:Array Bool→Bool}{S:aF→Prop}
theorem Mn:∀(fuel:Nat)(L:Array Bool)(a:mI)(w:aF),qP P md cM Q st S fuel L a w→wpAny P md cM Q fuel L a w
 |0,_,_,_,h=>h
 |fuel+1,_,_,_,h=>⟨h.1,fun i hi=>wpOp_mono (fun a' w' h'=>Mn fuel _ a' w' h'.2) (h.2 i hi)⟩
theorem QO{i:Nat}{oi:fX}{v:aP}(hi:cM[i]? =some oi)(Xs:∀(j:Nat)(o:fX)cs b,cM[j]? =some o→o.op≠.select cs b)
 (hQ:∀c a w,Q (.panic c) (a.put oi.dst v) w→Q (.panic c) a w){S':aF→Prop}(Cd:∀L w,CV md cM L→L.getD i false=false→(st L=false→S w)→S' w)(hsti:∀L,st (L.setIfInBounds i true)=st L):
 ∀(fuel:Nat)(L:Array Bool)(a:mI)(w:aF),CV md cM L→
  (∀j oj,cM[j]? =some oj→j≠i→L.getD j true=false→(∀e∈oj.after,sM md e=true→e.on≠i)→oi.apart cM oj=true)→
  i∈cU md cM L→YieldsIf P cM S' oi v a→(st L=false→S w)→
  qP P md cM Q st S fuel (L.setIfInBounds i true) (a.put oi.dst v) w→qP P md cM Q st S (fuel+1) L a w:=by
 intro fuel;induction fuel with
 |zero=>
  intro L a w hL0 _ hr hy hS H;refine⟨fun h=>(by rw[h]at hr;cases hr),fun j hj=>?_⟩;by_cases hji:j=i
  ·subst hji;exact hy.wpOp hi (Cd L w hL0 (Mm (mem_ready.1 hr).1) hS) ⟨fun h=>hS (by rw[←hsti];exact h),H⟩
  ·have:=qB hj hji;rw[H.1]at this;cases this
 |succ fuel ih=>
  intro L a w hL Az hr hy hS H;refine⟨fun h=>(by rw[h]at hr;cases hr),fun j hj=>?_⟩;by_cases hji:j=i
  ·subst hji;exact hy.wpOp hi (Cd L w hL (Mm (mem_ready.1 hr).1) hS) ⟨fun h=>hS (by rw[←hsti];exact h),H⟩
  ·have h1:=H.2 j (qB hj hji);obtain⟨Fi,oj,Ny,hall⟩:=mem_ready.1 hj;have hiun:=(mem_ready.1 hr).1;have hiun':L.getD i false=false:=Mm hiun;have Ue:∀e∈oj.after,sM md e=true→e.on≠i:=fun e he hb heq=>by
    have:=hall e he hb;rw[heq,hiun']at this;cases this
   have h2:=wpOp_putIf Ny (Az j oj Ny hji Fi Ue) (fun cs b=>Xs i oi cs b hi) (fun cs b=>Xs j oj cs b Ny) hQ hy h1;have hL':=hL.set hj;have hiun2:(L.setIfInBounds j true).getD i false=false:=by rw[fN false hji];exact hiun'
   have hfree':∀k ok,cM[k]? =some ok→k≠i→(L.setIfInBounds j true).getD k true=false→
    (∀e∈ok.after,sM md e=true→e.on≠i)→oi.apart cM ok=true:=fun k ok hk hki hun hno=>by
    refine Az k ok hk hki ?_ hno;by_cases hjk:j=k
    ·subst hjk;exact Fi
    ·rw[fN true hjk]at hun;exact hun
   refine wpOp_mono (fun a' w' h3=>?_) h2;have hc:(L.setIfInBounds i true).setIfInBounds j true=(L.setIfInBounds j true).setIfInBounds i true:=Array.setIfInBounds_comm _ _ (Ne.symm hji);have hS':st (L.setIfInBounds j true)=false→S w':=fun h=>h3.2.1 (by rw[hc,hsti];exact h);refine⟨hS',ih _ a' w' hL' hfree' (qB hr (Ne.symm hji)) h3.1 hS' ?_⟩;rw[←hc];exact h3.2.2
theorem fD{i:Nat}{oi:fX}{v:aP}{fuel:Nat}{L:Array Bool}{a:mI}{w:aF}(hi:cM[i]? =some oi)
 (hs:Region.noSelect cM=true)(hf:Region.free md cM L i=true)(hr:(cU md cM L).contains i=true)
 (hQ:∀c a w,Q (.panic c) (a.put oi.dst v) w→Q (.panic c) a w){S':aF→Prop}(Cd:∀L w,CV md cM L→L.getD i false=false→(st L=false→S w)→S' w)(hsti:∀L,st (L.setIfInBounds i true)=st L)
 (hL:CV md cM L)(hy:YieldsIf P cM S' oi v a)(hS:st L=false→S w)
 (h:CV md cM (L.setIfInBounds i true)→qP P md cM Q st S fuel (L.setIfInBounds i true) (a.put oi.dst v) w):qP P md cM Q st S (fuel+1) L a w:=
 QO hi (Region.noSelect_spec hs) hQ Cd hsti fuel L a w hL (Region.free_spec hi hf) (by simpa using hr) hy hS (h (hL.set (by simpa using hr)))
theorem Xt{rs:List Nat}{fuel:Nat}{L:Array Bool}{a:mI}{w:aF}(hr:cU md cM L=rs)(iC:rs≠[])
 (h:∀i∈rs,wpOp P cM Q i (fun a' w'=>(st (L.setIfInBounds i true)=false→S w')∧qP P md cM Q st S fuel (L.setIfInBounds i true) a' w') a w):qP P md cM Q st S (fuel+1) L a w:=
 ⟨fun h0=>absurd (hr▸h0) iC,hr▸h⟩
theorem Uh{L:Array Bool}{a:mI}{w:aF}(hr:cU md cM L=[])(h:Q .normal a w):∀fuel,qP P md cM Q st S fuel L a w
 |0=>⟨hr,h⟩
 |_+1=>⟨fun _=>h,by rw[hr];simp⟩
def rV(P:dN)(md:gU)(cM:Array fX)(Q:A5→mI→aF→Prop)(st:Array Bool→Bool)(S:aF→Prop)(fuel:Nat)(L:Array Bool)(a:mI)(w:aF)(rs:List Nat):Prop:=
 ∀i∈rs,CV md cM (L.setIfInBounds i true)→wpOp P cM Q i (fun a' w'=>(st (L.setIfInBounds i true)=false→S w')∧qP P md cM Q st S fuel (L.setIfInBounds i true) a' w') a w
theorem rV.nil{fuel:Nat}{L:Array Bool}{a:mI}{w:aF}:rV P md cM Q st S fuel L a w []:=fun _ h=>by cases h
theorem rV.cons{fuel:Nat}{L:Array Bool}{a:mI}{w:aF}{i:Nat}{o:fX}{rs:List Nat}(ho:cM[i]? =some o)
 (h:CV md cM (L.setIfInBounds i true)→∀K':mI→aF→Prop,bK (∀a w,(st (L.setIfInBounds i true)=false→S w)→qP P md cM Q st S fuel (L.setIfInBounds i true) a w→K' a w)→if eK o (wV cM a.tmps)=true then Ng P o a w K' Q else K' (a.put o.dst aO) w)
 (hs:rV P md cM Q st S fuel L a w rs):rV P md cM Q st S fuel L a w (i::rs):=fun j hj hL=>by
 rcases List.mem_cons.1 hj with rfl|hj
 ·unfold wpOp
  simp only[ho]
  have:=h hL (fun a' w'=>(st (L.setIfInBounds j true)=false→S w')∧qP P md cM Q st S fuel (L.setIfInBounds j true) a' w') (fun a w h1 h2=>⟨h1,h2⟩)
  split
  ·rename_i hw;rw[ip hw]at this;exact .inl this
  ·rename_i hw;rw[iN hw]at this;exact this
 ·exact hs j hj hL
theorem iI{rs:List Nat}{fuel:Nat}{L:Array Bool}{a:mI}{w:aF}(hr:cU md cM L=rs)(iC:rs≠[])(hL:CV md cM L)
 (h:rV P md cM Q st S fuel L a w rs):qP P md cM Q st S (fuel+1) L a w:=Xt hr iC fun i hi=>h i hi (hL.set (by rw[hr];exact hi))
theorem Ui{id:Nat}{a:mI}{w:aF}(hm:P.follows .mixedOrders=true)
 (h:qP P .any cM Q st S cM.size (gR cM.size false) a {w with drawn:=w.drawn+1}):(tD id cM true).wp P Q a w:=
 wp_region_any hm (Mn _ _ _ _ h)
theorem I3{id:Nat}{a:mI}{w:aF}(hm:P.follows .mixedOrders=true)(hS:S w.drew)
 (h:CV .any cM (gR cM.size false)→S w.drew→qP P .any cM Q st S cM.size (gR cM.size false) a w.drew):(tD id cM true).wp P Q a w:=
 Ui hm (h (CV.none _) hS)
end
end
section
open Go Go.RowKit Go.Lib
theorem gP{W:aF}{b cL e size n:Nat}{cs:Array aP}{T:dT}{v:aP}{xs:List aP}(hb:bT W b cs T)(h:W.ownsRow cL e size v n xs)(iC:T≠e):some b≠v.ownBlock:=by
 rcases h.2 with⟨h,_⟩|⟨g,c,oL,h,_,k,_⟩
 ·rw[h];simp[jW]
 ·rw[h];intro e;have e:b=g:=by simpa[jW]using e
  subst e;have JG:W.heap[b]? =some (aN cs T (0,0)):=hb;rw[JG]at k;cases k;exact iC rfl
theorem jQ{W W':aF}{b:Nat}{cs:Array aP}{T:dT}(h:bT W b cs T){row:Option Nat}(hg:W.grownBy W' row)(iC:some b≠row):bT W' b cs T:=(hg.block b h.lt iC).trans h
theorem I4(W:aF)(a:cO)(u:aP):W.grownBy (W.setCell a u) (some a.block):=
 ⟨rfl,rfl,rfl,by simp,fun k _ hk=>eE W a k u (fun e=>hk (by rw[e]))⟩
theorem xK{W:aF}{b c:Nat}{cs ds:Array aP}{T U:dT}(h:bT W b cs T)(k:bT W c ds U)(iC:T≠U):b≠c:=by
 intro e;subst e;have h':W.heap[b]? =some (aN cs T (0,0)):=h;have k':W.heap[b]? =some (aN ds U (0,0)):=k;rw[h']at k';cases k';exact iC rfl
theorem nA{W:aF}{cL e size n:Nat}{v:aP}{xs:List aP}(h:W.ownsRow cL e size v n xs):∃a c,v=aD a n c:=by
 rcases h.2 with⟨h,h0⟩|⟨g,c,oL,h,_⟩
 ·exact⟨none,0,by rw[h,h0]⟩
 ·exact⟨_,_,h⟩
theorem AA{w:aF}{cM:Array fX}{o:fX}{a:mI}{K:mI→aF→Prop}{Q:A5→mI→aF→Prop}{E:Prop}(FN:o.guard=none)(s x:tE)
 (ho:o.op=.call {callee:=.builtin .append,args:= #[s,x],argTypes:= #[62,62]})(B:Nat)(v:aP)(n:Nat)(xs:List aP)(hs:a.eval s=v)(dI:w.ownsRow B 34 1 v n xs)
 (nb:Nat)(u:ByteArray)(hx:a.eval x=aD (some ⟨nb,0,none⟩) 1 1)(zz:bT w nb #[aA u] 34)(Np:n+1≤100000)(jH:B≤w.heap.size)
 (h:∀g cap w',w'.ownsRow B 34 1 (aD (some ⟨g,0,none⟩) (n+1) cap) (n+1) (xs++[aA u])→w.grownBy w' v.ownBlock→(v.ownBlock=some g∨g=w.heap.size)→K (a.put o.dst (aD (some ⟨g,0,none⟩) (n+1) cap)) w'):
 if eK o (wV cM a.tmps)=true then Ng aE o a w K Q else E:=by
 obtain⟨i0,hi,yH,zB,sS⟩:=lI CE;exact PZ w FN s x 62 ho B 34 i0 (aA ⟨#[]⟩) 1 16 underlying62 hi yH zB sS rfl (by decide) v n xs hs dI ⟨nb,0,none⟩ 1 1 [aA u] hx rfl (EM zz) (by simp[kA]) (by decide) (by unfold Cm;omega) (by omega) jH _ rfl
  fun g cap w' h1 h2 h3 _=>h g cap w' h1 h2 h3
end
end Go.Proofs.YtkchhginppjaiaaGreatDoor
