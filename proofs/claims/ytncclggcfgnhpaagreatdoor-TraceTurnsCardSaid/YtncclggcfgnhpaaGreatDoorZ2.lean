import Derived.Sort.CutIn
import Derived.Shelf.SlicesE.Compact
import Derived.Shelf.SlSortCmp.NoneTotal
import Derived.StillTailTactics
import Derived.Shelf.Spec.SlicesGrow
import Derived.Deep.AppendLies
import Derived.Deep.CutBlock
import Derived.Test.YtncclggcfgnhpaaGreatDoorZ1
namespace Go.Proofs.YtncclggcfgnhpaaGreatDoor
set_option maxRecDepth 100000
set_option maxHeartbeats 8000000
set_option linter.all false
open Go.Proofs.Tryz
open _root_.Array renaming replicate_succ->bG,replicate_zero->bH,size_append->lM,getElem?_append_left->Aq,getElem?_eq_none->Du,getElem?_modify->D3,modify->JB,size_modify->JC
open _root_.Bool renaming true->ι,false->ν,not_eq_true'->bX,eq_iff_iff->oC
open _root_.Classical renaming byContradiction->aG
open _root_.Go renaming World->η,Value->χ,undef->ψ,Calls->aE,Addr->bW,Program->cQ,TypeId->cS,bodyPost_ret->cU,below_drewN->dO,wpAnyH_ready->eM,Oper->eZ,results->gP,KeepsFrom->iB,run_takeDeferred->iD,Act->iS,info_parts->jJ,Operand->mC,callFunc->nU,Exit->sG,results_none->tW,wpAnyH_done->wR,Machine->xX,maxLen->yE,OwnFrom->zM,Frame->Ap,wpList->Dk,Code->Dl,Ending->Fg,Fence->Jy,run_endLoop->Qd,Dying->Um,YieldAt->XR,callsIn_of_wp->ol
open Go.Act renaming put->oQ
open Go.AllReadyH renaming cons->cP,nil->dH
open Go.ByteArray renaming toList_eq->dM
open Go.Calls renaming mono->uN
open Go.Code renaming rangeFunc->Bi
open Go.Ending renaming returned->σ
open Go.Fence renaming wide->eD
open Go.Instr renaming endRound->F8,takeDeferred->om
open Go.IntKind renaming i64->Ξ
open Go.KeepsOthers renaming setCell->dA,of_grownBy->FN
open Go.Lib renaming compactUpTo->lL
open Go.Obj renaming cells->π
open Go.Op renaming equalIn->Fi
open Go.Oper renaming semAt_some->eQ
open Go.OwnFrom renaming and->eJ
open Go.Program renaming fieldsOf->Jn
open Go.Proofs renaming enters_of->iC,sortWorld->KW,ltOf->dm
open Go.Proofs.Tryz renaming prog->γ,underlying3->dB,underlying4->eW,zeroValue4->gJ,zeroValue3->gV,sizeOf3->gW,underlying68->jL,isAgg3->jF,underlying9->jG,sizeOf4->jR,isAgg4->lK,zeroValue9->mB,sizeOf9->oN,underlying0->pK,isAgg9->qH,zeroValue0->rK,underlying32->rQ,sizeOf0->xT,isAgg0->Aj,isAgg68->Mq,ntmps122->Uj,sizeOf29->Uk,func122->Yb,isAgg29->Yc,func174->dh
open Go.RowKit renaming intOf->ξ,Hid->aQ
open Go.RowKit.Below renaming refl->μ,heap_alloc->xR
open Go.Sem renaming run->fD,runT_eq->sJ
open Go.Shelf renaming Ren->iG
open Go.Sort renaming ahead->Ul
open Go.Value renaming string->Δ,slice->Θ,int->Υ,bool->ω,pointer->aB,agg->bQ,tuple->bT,oneCell'->iP,ownBlock->iQ
open Go.World renaming block_lt_of_cell?->aD,size_alloc->aL,putObj_heap_other->cZ,alloc_heap_new->kZ,putObj_heap_same->pJ,cell?_of_block->Gc,ownsRow->Il,grownBy_alloc->de
open Go.World.ownsRow renaming cellAt->dN,frozenAt->jB
open _root_.Inhabited renaming default->Γ
open _root_.Int renaming natAbs_natCast->dX,tmod_eq_emod_of_nonneg->kO,natAbs_mul->Cw
open _root_.List renaming getD_eq_getElem?_getD->Ω,length_map->υ,length_cons->aC,length_append->aJ,getElem?_eq_getElem->aS,getElem?_cons_zero->aU,setIfInBounds_toArray->aX,length_nil->bB,getElem?_toArray->bC,size_toArray->bI,take_succ_eq_append_getElem->bM,cons_append->bV,append_toArray->bN,set_cons_zero->bU,push_toArray->cE,range->cI,nil_append->cM,getElem?_cons_succ->cO,set_cons_succ->cR,mem_singleton->dE,take_of_length_le->eA,map_congr_left->eB,map_append->dV,map_map->eH,getElem_cons_succ->eR,getElem_cons_zero->eS,getElem_toArray->fH,mem_append_left->gU,mem_append->iV,getD_cons_succ->jS,mem_cons->jT,getElem?_take->kP,append_nil->kQ,getElem?_eq_none->nW,map->oO,not_mem_nil->pL,mem_append_right->rM,append_assoc->sI,getElem?_map->oP,length_filter_le->xF,length_mergeSort->xG,ext_getElem?->Mo,replicate->Qg
open _root_.Nat renaming le_refl->θ,le_trans->aA,mod_eq_of_lt->aT,zero_le->aP,mod_lt->aV,zero_add->bD,reduceAdd->cL,lt_of_lt_of_le->cN,reduceSub->dF,add_mod_right->gQ,lt_or_ge->fO,mul_le_mul_right->tA,not_lt_zero->vJ,le_succ->Jq,one_mul->OU
open _root_.Option renaming none->δ,some->ζ,map_some->yF
open _root_.Option.some renaming inj->dZ,injEq->vF
open _root_.Rat renaming intCast_mul->rL,intCast_sub->Pj,div_def->og
variable{W W' Z w w' A C V V':η}{gx gy X Y c B B1 B2 e g i k cH size cap j O gf off G cx cy m2 m3 m4 id:Nat}{xs:List χ}{ys at':List (List UInt8)}{a:iS}{cs args lb ds:Array χ}{T U:cS}{α ε β:Type}{p P:cQ}{l:List Wy}{Zi Eh:Bool}{rest:List eZ}{gs:Array Goroutine}{m':xX}{f:FQ}{s:Sg}{t:List UInt8}{L:Array Bool}{F:Jy}{cF:Array eZ}{fn:Func}{z:Rat}{row:Option Nat}{fs:List Fr}{ps:List Pt}{assign body:Dl}{L0:List Rat}{aZ:List Lp}{xv yv:χ}{S N:WL}{I:SL}{rs:List Nat}
section
open Go Go.RowKit Go.Lib
theorem rh(a b nf n ca cb fs ls z w)(hE:mV w)(hT:J2 w a b nf n fs ls)(hz:Lz z)(hA:oI fs (dL fs z) ls ν=ι):
 aE γ 18 #[Θ a nf ca,Θ b n cb,Δ (bs z)] w (aR6 w (rV fs (dL fs z) ls) 0):=by
 have fL:=nA w (π #[Δ (bs z)] 29);have rz:=Al.one w z;have HC:=zq (uV a b (ζ ⟨w.heap.size,0,δ⟩) nf n 1 ca cb 1 fs ls [z] _ (hE.below fL) (hT.below fL) rfl dD (fun x hx=>by rw [dE] at hx;subst hx;exact hz) rz);obtain⟨hf,hl,Vj,hn,sR,My,rf,rl⟩:=hT;have Kb:aQ (∀ b2 c2 W,Bw w W->Al W b2 (dL fs z)->aE γ 26 #[bQ #[Θ a nf ca,Θ b2 nf c2],Θ b n cb,ω ν] W (Rt (ω ι) W)):=fun b2 c2 W hW ha=>
  Td a b2 b nf n ca c2 cb fs (dL fs z) ls ν W (hE.below hW) hf (by rw [uS];exact hf) hl hn (fun f hm=>(sR f hm).dir) My (rf.below hW) ha (rl.below hW) hA
 have HCo:aQ (∀ i,i < n->∀ j,j < (ls.getD i Γ).ps.length->∀ b2 c2 W,Bw w W->Al W b2 (dL fs z)->
  aE γ 45 #[bQ #[Θ a nf ca,Θ b2 nf c2],((ls.getD i Γ).ps.getD j Γ).v] W (Rt ((bA fs (dL fs z) ((ls.getD i Γ).ps.getD j Γ)).v) W)):=fun i hi j hj b2 c2 W hW ha=>by
  obtain⟨s,h1,h2⟩:=QH hA (by rw [hl];exact hi) hj;exact BS a b2 nf ca c2 fs (dL fs z) _ s W h1 oM hf (by rw [uS];exact hf) (rf.below hW) ha
 have Hps:aQ (∀ i,i < n->(ls.getD i Γ).ps.length<=96):=fun i hi=>(My _ (aN (by rw [hl];exact hi) Γ)).1;have Hl:=zq hl;have Rl:=zq rl;have gH:=zq fL;clear hE hf hl sR My hz rf rl rz fL hA;have hL':dL fs (([z]:List (List UInt8)).getD 0 [])=dL fs z:=rfl;generalize bs z=Z,hL:dL fs z=L at *;clear hL;unfold qw at HC;rw [hL'] at HC;go_enter func18,ntmps18;go_wp2_with fail
 refine HC.o.mono ?_;rintro e W1 ⟨⟨a2,n2,c2,rfl,hk⟩,hb1⟩;obtain⟨h4,ha⟩:=hk (by first | exact Nat.zero_lt_one | trivial | simp);obtain rfl:=h4.symm;have eG:=gH.bS hb1;have Y9:=zq (eG.o.alloc eG.o.size (π #[Θ a nf ca,Θ a2 nf c2] 70));have QT:=zq (bE.new W1 #[Θ a nf ca,Θ a2 nf c2] 70);have Ha:=zq (ha.below (nA W1 (π #[Θ a nf ca,Θ a2 nf c2] 70)));clear ha hb1 HC gH;go_wp2_with fail
 refine ka (Kb.o _ _ _ Y9.o Ha.o) fun W3 hb2=>?_;have HB3:=Y9.bS hb2;have QT:=QT.bb hb2;have Ha:=zq (Ha.o.below hb2);obtain⟨G,hG⟩:=nm W1.heap.size;rw [hG] at QT |-;clear hb2 Kb Y9 hG eG;have O0:aQ (BU W3.heap.size W3 (Θ δ 0 0) []):=⟨⟨sP,.inl ⟨rfl,rfl⟩⟩,fun l hl=>absurd hl sP⟩;go_wp2;go_loopw [10,33] (fun o i wr=>∃ (ad:Option bW) (co:Nat) (aZ:List Lo),i=Υ Ξ (aZ.length:Nat)/\aZ.length<=n/\o=Θ ad aZ.length co/\aQ (aZ.map Lo.qs=(rV fs L ls).take aZ.length)/\aQ (BU W3.heap.size wr (Θ ad aZ.length co) aZ)/\aQ (Bw W3 wr)) (fun _ i _=>n - (ξ i).toNat);case atStart=>exact⟨_,0,[],rfl,aP _,rfl,rfl,O0.o,μ _ _⟩
 case round=>
  clear O0;obtain⟨ad,co,aZ,rfl,hk,rfl,Hq,HO,HB⟩:=hrel;have wF:=zq (aW HB3.o HB.o);obtain⟨k,hkk⟩:=nm aZ.length;rw [hkk] at hk Hq HO |-;by_cases hlt:k < n
  .obtain⟨lb,lo,rfl,c0,rp⟩:=(Rl.o.below wF.o).at (i:=k) (by rw [Hl.o];exact hlt) rfl;have Rp:=zq rp;have QD:=zq (HCo.o k hlt);have Hpt:aQ ((rV fs L ls).take (k+1)=(rV fs L ls).take k ++ [(ls.getD k Γ).ps.map fun p=>bA fs L p]):=by
    show _=_;unfold rV;rw [bM (by rw [υ,Hl.o];exact hlt)];simp [Ω,Hl.o,hlt]
   have Hkk:=zq hkk;have L7:=Hps.o k hlt;generalize ls.getD k Γ=l at *;generalize l.cap=lcp,l.a=la at *;obtain⟨qs,QJ⟩:=nm (l.ps.map (fun p=>bA fs L p));rw [QJ] at Hpt;have Hqs:aQ (∀ j,j < l.ps.length->qs.take (j+1)=qs.take j ++ [bA fs L (l.ps.getD j Γ)]):=fun j hj=>by
    rw [<- QJ,bM (by rw [υ];exact hj)];simp [Ω,hj]
   have Hql:aQ (qs.length=l.ps.length):=by show _=_;rw [<- QJ,υ]
   clear QJ rp hkk;rename η=>wo;have QTo:=zq (QT.o.below HB.o QT.o.lt);obtain⟨m,hm⟩:=nm l.ps.length;rw [hm] at QD Hqs Hql c0 L7;have Hm:=zq hm;clear hm;go_wp2;go_loopw [13,39] (fun o i wr=>∃ (j:Nat) (al:Option bW) (cl:Nat),i=Υ Ξ j/\j<=m/\o=Θ al j cl/\aQ (wr.ownsRow wo.heap.size 59 2 (Θ al j cl) j (rA (qs.take j)))/\aQ (Bw wo wr)) (fun _ i _=>m - (ξ i).toNat);case atStart=>exact⟨0,δ,0,rfl,aP _,rfl,⟨by simp [rA],.inl ⟨rfl,rfl⟩⟩,μ _ _⟩
   case round=>
    obtain⟨j,al,cl,rfl,hj,rfl,sS,FV⟩:=hrel;obtain⟨t0,t1,-,-,tl⟩:=(QTo.o.below FV.o QTo.o.lt).two;by_cases hjm:j < m
    .obtain⟨pb,po,rfl,d0,d1,d2⟩:=(Rp.o.below FV.o).at (i:=j) (by rw [Hm.o];exact hjm) rfl;have HCj:=zq (fun (W:η) (h:Bw wr W)=>QD.o j hjm a2 c2 W (aW (aW wF.o FV.o) h) (((Ha.o.below HB.o).below FV.o).below h));have Hqj:=zq (Hqs.o j hjm);unfold Pt.v Pt.cells at HCj;generalize l.ps.getD j Γ=p at *;generalize bA fs L p=C at *;unfold Po.v Po.cells at HCj;obtain⟨ps,pf,pe⟩:=p;obtain⟨cx,cy⟩:=C;simp only [] at *;generalize bs pe=PEn,bs pf=PF at *;obtain⟨CX,hCX⟩:=nm (bs cx);obtain⟨CY,hCY⟩:=nm (bs cy);rw [hCX,hCY] at HCj;have HCX:=zq hCX;have HCY:=zq hCY;clear hCX hCY;have hBp:=nA wr (π #[Υ Ξ ps,Δ PF,Δ PEn] 35);have HBp:=zq hBp;clear hBp;go_wp2_with fail
     refine ka (HCj.o _ HBp.o) fun W5 hb5=>?_;have hb6:=aW HBp.o hb5;have wG:=FV.bS hb6;have lJ:=aR sS.o hb6;clear hb5 hb6 HCj sS FV;go_wp2_with (at_builtin;refine aR4 rfl _ _ rfl wo.heap.size (Θ al j cl) j _ rfl lJ _ _ rfl oM wG.o.size ?_;intro g6 bb8 w6 BV hg6 af3)
     have xU:=zq (dT wG.o af3 lJ (θ _) wG.o.size);have e6:rA (qs.take j) ++ [Δ CX,Δ CY]=rA (qs.take (j+1)):=by
      rw [Hqj.o,Vh,HCX.o,HCY.o]
     rw [e6] at BV;have bb9:=zq BV;clear e6 lJ BV af3 wG;go_wp2;go_roundw;case rel=>exact⟨j+1,_,bb8,by go_num,oM,rfl,bb9.o,xU.o⟩
     case measure=>simp only [ξ];omega
    .obtain rfl:m=j:=oM;have hqt:qs.take m=qs:=eA (by rw [Hql.o];exact θ _);rw [hqt] at sS;have Uv:=zq (aW HB.o FV.o);have Ps:=zq (HO.o.below FV.o);have DN:=jU sS.o HB.o.size;have ri:=zq DN;clear hqt DN sS FV HO;have Zf:aQ ((aZ ++ [(⟨al,cl,qs⟩:Lo)]).map Lo.qs=(rV fs L ls).take (k+1)):=by
      show _=_;rw [dV,Hq.o,Hpt.o];rfl
     have rB:=Ps.o.1;rw [Hkk.o] at rB;have aM7:(aZ ++ [(⟨al,cl,qs⟩:Lo)]).length=k+1:=by rw [aJ,Hkk.o];rfl
     have Vk:=zq aM7;clear aM7;go_wp2_with (at_builtin;refine aR5 rfl _ _ rfl W3.heap.size (Θ ad k co) k _ rfl rB al m cl rfl oM Uv.o.size ?_;intro g8 Vl w8 IM hg8 No)
     have HB8:=zq (dT Uv.o No rB (θ _) Uv.o.size);have HO8:aQ (BU W3.heap.size w8 (Θ (ζ ⟨g8,0,δ⟩) (k+1) Vl) (aZ ++ [⟨al,cl,qs⟩])):=by
      have:=BU.grow (l:=⟨al,cl,qs⟩) (g:=g8) (cap:=Vl) Ps.o (by
       have:=ri.o;show Il _ _ _ _ (Θ al qs.length cl) qs.length (rA qs);rw [Hql.o];exact this) No (by
       rw [Hkk.o];show Il _ _ _ _ _ _ (_ ++ [Θ al qs.length cl]);rw [Hql.o];exact IM)
      rwa [Hkk.o] at this
     clear rB IM No Ps ri;go_wp2;go_roundw;case rel=>exact⟨_,Vl,aZ ++ [⟨al,cl,qs⟩],by rw [Vk.o];go_num,by rw [Vk.o];omega,by rw [Vk.o],by rw [Vk.o];exact Zf.o,by rw [Vk.o];exact HO8.o,HB8.o⟩
     case measure=>simp only [ξ];omega
  .obtain rfl:n=k:=oM;have CW:(rV fs L ls).take n=rV fs L ls:=eA (by unfold rV;rw [υ,Hl.o];exact θ _);rw [CW] at Hq;have R:aQ (aR6 w (rV fs L ls) 0 (σ (bT #[Θ ad n co,Υ Ξ 0])) wr):=by
    have hlen:(rV fs L ls).length=n:=by unfold rV;rw [υ,Hl.o]
    exact⟨⟨ad,co,aZ,by rw [hlen],Hq.o,BU.reads HO.o⟩,wF.o⟩
   clear CW hkk;go_wp2;go_ret2;exact R.o
section
attribute[local go_sem] eQ
structure Lns(W:η)(gx gy X Y:Nat)(xs ys:List (List UInt8)):Prop where
 lx:xs.length=X
 ly:ys.length=Y
 x:∀i,i<X->W.cell? ⟨gx,i,δ⟩=ζ (Δ (bs (xs.getD i [])))
 y:∀i,i<Y->W.cell? ⟨gy,i,δ⟩=ζ (Δ (bs (ys.getD i [])))
theorem Lns.below{xs:List (List UInt8)}(h:Lns W gx gy X Y xs ys)(hb:Bw W W'):Lns W' gx gy X Y xs ys:=
 ⟨h.lx,h.ly,fun i hi=>(hb.cell (p:=⟨gx,i,δ⟩) (aD W _ (h.x i hi))).trans (h.x i hi),fun i hi=>(hb.cell (p:=⟨gy,i,δ⟩) (aD W _ (h.y i hi))).trans (h.y i hi)⟩
def wH(xs ys:List (List UInt8))(x y d:Nat):List UInt8:=if d%2=1 then ys.getD y []else xs.getD x []
theorem Np(G gx gy X Y cx cy m2 m3 m4:Nat)(S N:WL)(I:SL)(xs ys:List (List UInt8))(x y d:Nat)(hd:d<4)(hx:x<X)(hy:y<Y)(w:η)(hg:iJ w G (Θ (ζ ⟨gx,0,δ⟩) X cx) (Θ (ζ ⟨gy,0,δ⟩) Y cy) m2 m3 m4 S N I)(hl:Lns w gx gy X Y xs ys):
 aE γ 124 #[aB (ζ ⟨G,0,δ⟩),bQ #[Υ Ξ x,Υ Ξ y],Υ Ξ d] w (Rt (Δ (bs (wH xs ys x y d))) w):=by
 have fL:=nA w (π #[Υ Ξ x,Υ Ξ y] 128);have JU:=hg.below fL;have hl0:=hl.below fL;have g0:=JU.blk.cell 0;have g1:=JU.blk.cell 1;have cX:=hl0.x x hx;have cY:=hl0.y y hy;have lG:=JU.blk.lt;obtain⟨e0,e1,-,-,lT⟩:=(bE.new w #[Υ Ξ x,Υ Ξ y] 128).two;have gH:=zq fL;have hxX:(x:Int)<X:=oM;have hyY:(y:Int)<Y:=oM;obtain⟨W0,fI⟩:=nm (w.alloc (π #[Υ Ξ x,Υ Ξ y] 128));rw[fI]at gH e0 e1 lT g0 g1 cX cY lG;have If:=zq fI;simp only[bC,aU,cO]at g0 g1;have et:Int.tmod (d:Int) 2=((d%2:Nat):Int):=by rw[kO oM];omega
 clear hg hl fL JU hl0 fI;by_cases hp:d%2=1
 .have R:aQ (wH xs ys x y d=ys.getD y []):=ip hp;rw[hp]at et;generalize ys.getD y []=YV at *;go_enter func124,ntmps124;go_upto_region 2 with(fail)
  try rw[If.o]
  clear If;go_quiet (fail)
  go_wp2;go_ret;exact⟨by rw[R.o]<;>rfl,by first |exact gH.o|exact dO gH.o _⟩
 .have gz:d%2=0:=oM;have R:aQ (wH xs ys x y d=xs.getD x []):=iN hp;rw[gz]at et;generalize xs.getD x []=XV at *;go_enter func124,ntmps124;go_upto_region 3 with(fail)
  try rw[If.o]
  clear If;go_quiet (fail)
  go_wp2;go_ret;exact⟨by rw[R.o]<;>rfl,by first |exact gH.o|exact dO gH.o _⟩
def mF(S:WL)(a b:Wy):Bool:=decide (a.d=b.d)&&decide (rU S a=rU S b)
theorem Nq(Bg G xv yv m2 m3 m4 S N I a b w)(hg:iJ w G xv yv m2 m3 m4 S N I)(hb:bE w Bg #[aB (ζ ⟨G,0,δ⟩)] 74):
 aE γ 122 #[kW a,kW b,aB (ζ ⟨Bg,0,δ⟩)] w (Rt (ω (mF S a b)) w):=by
 obtain⟨x,y,d⟩:=a;obtain⟨x',y',d'⟩:=b;have fL:=(nA w (π #[Υ Ξ x,Υ Ξ y,Υ Ξ d] 130)).alloc sP (π #[Υ Ξ x',Υ Ξ y',Υ Ξ d'] 130);have q0:=(bE.new w #[Υ Ξ x,Υ Ξ y,Υ Ξ d] 130).alloc (π #[Υ Ξ x',Υ Ξ y',Υ Ξ d'] 130);have q1:=bE.new (w.alloc (π #[Υ Ξ x,Υ Ξ y,Υ Ξ d] 130)) #[Υ Ξ x',Υ Ξ y',Υ Ξ d'] 130;rw[aL]at q1;have JU:=hg.below fL;have b1:=(hb.below fL hb.lt).cell 0;obtain⟨W0,fI⟩:=nm ((w.alloc (π #[Υ Ξ x,Υ Ξ y,Υ Ξ d] 130)).alloc (π #[Υ Ξ x',Υ Ξ y',Υ Ξ d'] 130));rw[fI]at fL q0 q1 JU b1;obtain⟨a0,a1,a2⟩:=q0.three;obtain⟨c0,c1,c2⟩:=q1.three;have lA:=q0.lt;have lC:=q1.lt;have g2:=JU.blk.cell 2;have lG:=JU.blk.lt;simp only[bC,aU,cO]at b1 g2;have gH:=zq fL;have If:=zq fI;have HL1:=fun n=>BM (w:=W0.drewN n) JU.s x y d;have ri:=fun n=>BM (w:=W0.drewN n) JU.s x' y' d';have R:aQ (mF S ⟨x,y,d⟩ ⟨x',y',d'⟩=(decide (d=d')&&decide (rU S ⟨x,y,d⟩=rU S ⟨x',y',d'⟩))):=rfl;generalize rU S ⟨x',y',d'⟩=v,rU S ⟨x,y,d⟩=u at *;unfold kW;clear hg hb fL q0 q1 JU fI;by_cases hp:d=d'
 .subst hp;by_cases hq:u=v
  .subst hq;go_enter Yb,Uj;go_upto_region 1 with(fail)
   try rw[If.o]
   clear If;go_quiet (fail)
   go_wp2;go_ret;exact⟨by rw[R.o];simp,by first |exact gH.o|exact dO gH.o _⟩
  .have hq1:decide (u=v)=ν:=decide_eq_false hq;go_enter Yb,Uj;go_upto_region 1 with(fail)
   try rw[If.o]
   clear If;go_quiet (fail)
   go_wp2;go_ret;exact⟨by rw[R.o];simp[hq],by first |exact gH.o|exact dO gH.o _⟩
 .have hp1:((d:Int)==(d':Int))=ν:=by rw[beq_eq_false_iff_ne];omega
  have hp2:¬(d:Int)=(d':Int):=oM;go_enter Yb,Uj;go_upto_region 1 with(fail)
  try rw[If.o]
  clear If;go_quiet (fail)
  go_wp2;go_ret;exact⟨by rw[R.o];simp[hp],by first |exact gH.o|exact dO gH.o _⟩
end
theorem HB.inv{a b:Nat}{x:Rat}(h1:HB a b x)(h0:x≠0):HB b a x⁻¹:=by
 have hn:x.num≠0:=fun e=>h0 (Rat.num_eq_zero.1 e);refine⟨?_,?_⟩
 .rw[Rat.num_inv,Cw,dX];have:x.num.sign.natAbs<=1:=by rw[Int.natAbs_sign];split <;>omega
  exact Nat.lt_of_le_of_lt (tA _ this) (by rw[OU];exact h1.2)
 .rw[Rat.den_inv,iN hn];exact h1.1
theorem HB.div{a b d:Nat}{x y:Rat}(h1:HB a b x)(h2:HB c d y)(h0:y≠0):HB (a+d) (b+c) (x/y):=by
 rw[og];exact h1.mul (h2.inv h0)
theorem aA0{x y:Rat}(h:bs (aO x)=bs (aO y)):x=y:=by
 have h1:aO x=aO y:=by rw[<-gL (aO x),h,gL]
 rw[<-iI x,h1,iI]
theorem Vm(x y):((bs (aO x)).toList==(bs (aO y)).toList)=decide (x=y):=by
 rw[dM,dM,gL,gL];by_cases h:x=y
 .subst h;simp
 .rw[decide_eq_false h];exact beq_eq_false_iff_ne.2 fun e=>h (aA0 (by rw[e]))
theorem af4(x):((bs (aO x)).toList==[48])=decide (x=0):=by
 have:=Vm x 0;rwa[zB,show(bs [48]).toList=[48] by rw[dM];rfl]at this
theorem ic(f g):uR f g=((g.co-f.co:Int):Rat):=by unfold uR;rw[Pj]
theorem aR7{f g:FQ}(hf:f.Good)(hg:g.Good):HB 5 1 (uR f g):=by
 rw[ic];exact HB.int (by have:=hf.co0;have:=hf.co1;have:=hg.co0;have:=hg.co1;omega)
theorem A7{x y:Int}{a b:Nat}(h1:x.natAbs<=a)(h2:y.natAbs<=b):(x*y).natAbs<=a*b:=by
 rw[Cw];exact Nat.mul_le_mul h1 h2
theorem FQ.Good.vq{q:FQ}(h:q.Good):∃(n:Int)(d:Nat),n.natAbs<=48/\1<=d/\d<=48/\q.vel*((d:Int):Rat)=(n:Rat):=by
 obtain⟨n,d,h1,h2,h3,h4⟩:=h.v;refine⟨q.dir*n,d,?_,h2,h3,?_⟩
 .have:=h.dir;rw[Cw,dX,show q.dir.natAbs=1 by omega];omega
 .unfold FQ.vel;rw[Rat.mul_assoc,h4,rL]
theorem BW{q:FQ}(h:q.Good):DO q.t:=by
 obtain⟨k,h1,h2⟩:=h.t;refine DO.of (N:=k) (D:=1) (by rw[h2];exact Rat.mul_one _) dD oM dD
theorem ig{f:FQ}{gap:Int}(hf:f.Good)(hg:gap.natAbs<=65536)(h0:f.vel≠0):DO (f.t+gap/f.vel):=by
 obtain⟨n,d,h1,h2,h3,h4⟩:=hf.vq;obtain⟨k,h5,h6⟩:=hf.t;have hn:n≠0:=fun e=>by
  rw[e]at h4;have hd:((d:Int):Rat)≠0:=by exact_mod_cast (by omega:(d:Int)≠0)
  rcases Rat.mul_eq_zero.1 h4 with h|h
  .exact h0 h
  .exact hd h
 refine DO.of (N:=k*n+gap*d) (D:=n) ?_ hn ?_ oM
 .rw[Rat.intCast_add,rL,rL,<-h6,<-h4];have:=Rat.div_mul_cancel (a:=(gap:Rat)) h0;generalize(gap:Rat)/f.vel=x at *;rw[<-this];grind
 .have e1:=A7 (x:=k) (y:=n) (a:=65536) oM h1;have e2:=A7 (x:=gap) (y:=d) (b:=48) hg oM;omega
theorem aA1{f g:FQ}{gap:Int}(hf:f.Good)(hg:g.Good)(hgp:gap.natAbs<=65536)(h0:f.vel-g.vel≠0):DO (((gap:Rat)+(f.vel*f.t-g.vel*g.t))/(f.vel-g.vel)):=by
 obtain⟨n,d,h1,h2,h3,h4⟩:=hf.vq;obtain⟨k,h5,h6⟩:=hf.t;obtain⟨m,e,i1,i2,i3,i4⟩:=hg.vq;obtain⟨j,i5,i6⟩:=hg.t;have hd:((d:Int):Rat)≠0:=by exact_mod_cast (by omega:(d:Int)≠0)
 have he:((e:Int):Rat)≠0:=by exact_mod_cast (by omega:(e:Int)≠0)
 have hD:((n*e-m*d:Int):Rat)=(f.vel-g.vel)*(((d:Int):Rat)*((e:Int):Rat)):=by
  rw[Pj,rL,rL,<-h4,<-i4];grind
 refine DO.of (N:=gap*(d*e)+(n*e*k-m*d*j)) (D:=n*e-m*d) ?_ (fun z=>?_) ?_ ?_
 .have:=Rat.div_mul_cancel (a:=(gap:Rat)+(f.vel*f.t-g.vel*g.t)) h0;rw[hD,<-Rat.mul_assoc,this];simp only[Rat.intCast_add,Pj,rL];rw[<-h4,<-i4,h6,i6];grind
 .rw[z]at hD;rcases Rat.mul_eq_zero.1 hD.symm with h|h
  .exact h0 h
  .rcases Rat.mul_eq_zero.1 h with h|h
   .exact hd h
   .exact he h
 .have b1:=A7 (x:=d) (y:=e) (a:=48) (b:=48) oM oM;have b2:=A7 hgp b1;have b3:=A7 (A7 (y:=(e:Int)) (b:=48) h1 oM) (y:=(k:Int)) (b:=65536) oM;have b4:=A7 (A7 (y:=(d:Int)) (b:=48) i1 oM) (y:=(j:Int)) (b:=65536) oM;generalize m*(d:Int)*j=C,n*(e:Int)*k=B,gap*((d:Int)*e)=A at *;omega
 .have b3:=A7 (y:=(e:Int)) (b:=48) h1 oM;have b4:=A7 (y:=(d:Int)) (b:=48) i1 oM;generalize m*(d:Int)=B,n*(e:Int)=A at *;omega
theorem QK{f g:FQ}(hf:f.Good)(hg:g.Good):∀z∈jI f g,DO z:=by
 intro z hz;have hgp:(g.co-f.co).natAbs<=65536:=by have:=hf.co0;have:=hf.co1;have:=hg.co0;have:=hg.co1;omega
 unfold jI at hz;rw[ic]at hz;simp only[iV,jT,pL,or_false]at hz;rcases hz with(((rfl|rfl)|h)|h)|h
 .exact BW hf
 .exact BW hg
 .by_cases c:f.vel≠0
  .rw[ip c,dE]at h;subst h;exact ig hf hgp c
  .rw[iN c]at h;cases h
 .by_cases c:g.vel≠0
  .rw[ip c,dE]at h;subst h;have:=ig (gap:=-(g.co-f.co)) hg oM c;rwa[Rat.intCast_neg,og,Rat.neg_mul,<-og,<-Rat.sub_eq_add_neg]at this
  .rw[iN c]at h;cases h
 .by_cases c:f.vel≠g.vel
  .rw[ip c,dE]at h;subst h;exact aA1 hf hg hgp (by grind)
  .rw[iN c]at h;cases h
end
section
open Go Go.RowKit Go.Shelf Go.Lib
section
attribute[local go_sem] eQ
def nR(B B1 B2:Nat)(V V':η):Prop:=Below B V V'/\eK (fun k=>k=B1\/k=B2) V V'
theorem nR.trans{X Y:η}(h:nR B B1 B2 X Y)(k:nR B B1 B2 Y Z):nR B B1 B2 X Z:=⟨h.1.trans k.1,h.2.trans k.2⟩
theorem nR.call{X Y:η}(h:Bw X Y)(hB:B<=X.heap.size)(h1:B1<X.heap.size)(h2:B2<X.heap.size):nR B B1 B2 X Y:=
 ⟨h.mono hB,eK.below h (by rintro k (rfl|rfl)<;>assumption)⟩
theorem nR.blk1{X Y:η}(h:nR B B1 B2 X Y)(k:bE X B1 cs T):bE Y B1 cs T:=(h.2 B1 (.inl rfl)).trans k
theorem nR.blk2{X Y:η}(h:nR B B1 B2 X Y)(k:bE X B2 cs T):bE Y B2 cs T:=(h.2 B2 (.inr rfl)).trans k
def ce2(f g:FQ):List Rat:=[f.t,g.t]
def ce3(f g:FQ):List Rat:=ce2 f g++(if f.vel≠0 then[f.t+uR f g/f.vel]else[])
def ce4(f g:FQ):List Rat:=ce3 f g++(if g.vel≠0 then[g.t-uR f g/g.vel]else[])
theorem IN(f g):jI f g=ce4 f g++(if f.vel≠g.vel then[(uR f g+(f.vel*f.t-g.vel*g.t))/(f.vel-g.vel)]else[]):=rfl
theorem Te{xs ys:List Rat}{c:Prop}[Decidable c]{x:Rat}(h:ys=xs++(if c then[x]else[])):(c->ys=xs++[x])/\(¬c->ys=xs):=
 ⟨fun k=>by rw[h,ip k],fun k=>by rw[h,iN k,kQ]⟩
theorem Tf{P xs ys zs:List Rat}{x:Rat}(h1:ys=xs++[x])(h2:P=ys++zs):P.getD xs.length 0=x/\xs.length<P.length/\ys.length=xs.length+1:=by
 subst h1 h2;refine⟨by simp[Ω],sP,sP⟩
theorem yb{e:Fg}{P R:Prop}(h:(e=σ (ω ι)/\P)\/(e=σ (ω ν)/\R)):∃b:Bool,e=σ (ω b)/\aQ ((b=ι/\P)\/(b=ν/\R)):=by
 rcases h with⟨h,p⟩|⟨h,r⟩
 .exact⟨ι,h,.inl ⟨rfl,p⟩⟩
 .exact⟨ν,h,.inr ⟨rfl,r⟩⟩
theorem af5(f g):∃zs,jI f g=ce4 f g++zs:=⟨_,IN f g⟩
theorem af6(f g):∃zs,jI f g=ce3 f g++zs:=⟨_,(IN f g).trans (sI ..)⟩
def Nr(f g:FQ)(k:Nat):Rat:=(jI f g).getD k 0
theorem af7(B1 B2 B:Nat)(f g:FQ)(hf:f.Good)(hg:g.Good)(w:η)(hB:B<=w.heap.size)(Vf:B1<w.heap.size)(DN:B2<w.heap.size)
 (hE:∀V,Below B w V->mV V)(q1:bE w B1 f.fr.cells 46)(q2:bE w B2 g.fr.cells 46):
 UM eD 8 γ 187 #[aB (ζ ⟨B1,0,δ⟩),aB (ζ ⟨B2,0,δ⟩)] (fun k=>#[Δ (bs (aO (Nr f g k)))]) (nR B B1 B2) (jI f g).length w:=by
 intro l J Jx W hW hJ hY h0;have K0:nR B B1 B2 w W:=nR.call hW hB Vf DN;have p1:=K0.blk1 q1;have p2:=K0.blk2 q2;have hE:=zq (fun V(h:Below B W V)=>hE V (K0.1.trans h));have rj:B<=W.heap.size:=aA hB hW.size;have bu1:B1<W.heap.size:=p1.lt;have bu2:B2<W.heap.size:=p2.lt;clear q1 q2 K0 hB Vf DN hW;have Zg:=aR7 hf hg;have v1:=hf.hvel;have v2:=hg.hvel;have m1:=v1.mul hf.ht;have m2:=v2.mul hg.ht;have sm:=m1.sub m2 (k:=10) dD dD;have am:=Zg.add sm (k:=12) dD dD;have sv:=v1.sub v2 (k:=4) dD dD;have QL:=zq (fun V(h:Below B W V)=>AG f hf V (hE.o V h));have Px:=zq (fun V(h:Below B W V)=>AG g hg V (hE.o V h));have HW1:=zq (fun V(h:Below B W V)=>II V (hE.o V h) f.co (by have:=hf.co0;have:=hf.co1;omega));have HW2:=zq (fun V(h:Below B W V)=>II V (hE.o V h) g.co (by have:=hg.co0;have:=hg.co1;omega));have HGp:aQ (∀V,Below B W V->aE γ 164 #[Δ (bs (aO (g.co:Rat))),Δ (bs (aO (f.co:Rat)))] V (Rt (Δ (bs (aO (uR f g)))) V)):=fun V h=>Nj _ _ V (hE.o V h) (show Cr 16 5 1 5 1 (g.co:Rat) (f.co:Rat)from⟨hg.hco,hf.hco,dD⟩);have Yk:=zq (fun(h0:f.vel≠0)V(h:Below B W V)=>Y8 _ _ V (hE.o V h) (show Cr 17 5 1 2 2 (uR f g) f.vel from⟨Zg,v1,dD⟩) h0);have Uw:=zq (fun(h0:f.vel≠0)V(h:Below B W V)=>Y7 _ _ V (hE.o V h) (show Cr 16 5 1 7 3 f.t (uR f g/f.vel)from⟨hf.ht,Zg.div v1 h0,dD⟩));have Pu:=zq (fun(h0:g.vel≠0)V(h:Below B W V)=>Y8 _ _ V (hE.o V h) (show Cr 17 5 1 2 2 (uR f g) g.vel from⟨Zg,v2,dD⟩) h0);have HS2:=zq (fun(h0:g.vel≠0)V(h:Below B W V)=>Nj _ _ V (hE.o V h) (show Cr 16 5 1 7 3 g.t (uR f g/g.vel)from⟨hg.ht,Zg.div v2 h0,dD⟩));have HM1:=zq (fun V(h:Below B W V)=>S8 _ _ V (hE.o V h) (show Mu 2 2 5 1 f.vel f.t from⟨v1,hf.ht,dD⟩));have HM2:=zq (fun V(h:Below B W V)=>S8 _ _ V (hE.o V h) (show Mu 2 2 5 1 g.vel g.t from⟨v2,hg.ht,dD⟩));have HSm:=zq (fun V(h:Below B W V)=>Nj _ _ V (hE.o V h) (show Cr 16 7 3 7 3 (f.vel*f.t) (g.vel*g.t)from⟨m1,m2,dD⟩));have HAm:=zq (fun V(h:Below B W V)=>Y7 _ _ V (hE.o V h) (show Cr 16 5 1 11 6 (uR f g) (f.vel*f.t-g.vel*g.t)from⟨Zg,sm,dD⟩));have HSv:=zq (fun V(h:Below B W V)=>Nj _ _ V (hE.o V h) (show Cr 16 2 2 2 2 f.vel g.vel from⟨v1,v2,dD⟩));have HDl:=zq (fun(h0:f.vel-g.vel≠0)V(h:Below B W V)=>Y8 _ _ V (hE.o V h) (show Cr 17 13 7 5 4 (uR f g+(f.vel*f.t-g.vel*g.t)) (f.vel-g.vel)from⟨am,sv,dD⟩) h0);have c4:=zq (Te (IN f g));have c3:=zq (Te (xs:=ce3 f g) (ys:=ce4 f g) rfl);have c2:=zq (Te (xs:=ce2 f g) (ys:=ce3 f g) rfl);have z1:=zq (af4 f.vel);have z2:=zq (af4 g.vel);have z3:=zq (Vm f.vel g.vel);clear Zg hf hg hE v1 v2 m1 m2 sm am sv;have rk:aQ (∀k V,k<(jI f g).length->J k V->XR eD 7 γ l #[Δ (bs (aO ((jI f g).getD k 0)))] V fun e V'=>(e=σ (ω ι)/\J (k+1) V'/\nR B B1 B2 V V')\/(e=σ (ω ν)/\Jx (k+1) V')):=hY;have HJ:=zq hJ;have JU:(jI f g).getD 0 0=f.t:=rfl;have hg1:(jI f g).getD 1 0=g.t:=rfl;have hlen:2<=(jI f g).length:=by rw[IN,ce4,ce3,ce2];simp only[aJ,aC,bB];omega
 have Y2:aQ (f.vel≠0->(ce3 f g).length<=(jI f g).length/\∀V,J (ce2 f g).length V->XR eD 7 γ l #[Δ (bs (aO (f.t+uR f g/f.vel)))] V fun e V'=>(e=σ (ω ι)/\J (ce3 f g).length V'/\nR B B1 B2 V V')\/(e=σ (ω ν)/\Jx (ce3 f g).length V')):=fun h=>by
  obtain⟨zs,hz⟩:=af6 f g;obtain⟨e1,e2,e3⟩:=Tf (c2.o.1 h) hz;refine⟨by rw[hz,aJ];omega,fun V hV=>?_⟩;have:=rk.o _ V e2 hV;rwa[e1,<-e3]at this
 have Y3:aQ (g.vel≠0->(ce4 f g).length<=(jI f g).length/\∀V,J (ce3 f g).length V->XR eD 7 γ l #[Δ (bs (aO (g.t-uR f g/g.vel)))] V fun e V'=>(e=σ (ω ι)/\J (ce4 f g).length V'/\nR B B1 B2 V V')\/(e=σ (ω ν)/\Jx (ce4 f g).length V')):=fun h=>by
  obtain⟨zs,hz⟩:=af5 f g;obtain⟨e1,e2,e3⟩:=Tf (c3.o.1 h) hz;refine⟨by rw[hz,aJ];omega,fun V hV=>?_⟩;have:=rk.o _ V e2 hV;rwa[e1,<-e3]at this
 have Y4:aQ (f.vel≠g.vel->∀V,J (ce4 f g).length V->XR eD 7 γ l #[Δ (bs (aO ((uR f g+(f.vel*f.t-g.vel*g.t))/(f.vel-g.vel))))] V fun e V'=>(e=σ (ω ι)/\J (jI f g).length V'/\nR B B1 B2 V V')\/(e=σ (ω ν)/\Jx (jI f g).length V')):=fun h=>by
  obtain⟨e1,e2,e3⟩:=Tf (zs:=[]) (c4.o.1 h) (kQ _).symm;intro V hV;have:=rk.o _ V e2 hV;rwa[e1,<-e3]at this
 have L2:aQ (f.vel=0->(ce3 f g).length=(ce2 f g).length):=fun h=>by rw[c2.o.2 (fun k=>k h)]
 have L3:aQ (g.vel=0->(ce4 f g).length=(ce3 f g).length):=fun h=>by rw[c3.o.2 (fun k=>k h)]
 have L4:aQ (f.vel=g.vel->(jI f g).length=(ce4 f g).length):=fun h=>by rw[c4.o.2 (fun k=>k h)]
 have Y0:=zq (fun V(h:J 0 V)=>rk.o 0 V oM h);have Y1:=zq (fun V(h:J 1 V)=>rk.o 1 V oM h);rw[JU]at Y0;rw[hg1]at Y1;have c0:W.cell? ⟨B1,0,δ⟩=ζ (ω f.up):=p1.cell 0;have c1:W.cell? ⟨B1,1,δ⟩=ζ (Υ Ξ f.co):=p1.cell 1;have qj:W.cell? ⟨B1,2,δ⟩=ζ (Υ Ξ f.dir):=p1.cell 2;have c3':W.cell? ⟨B1,3,δ⟩=ζ (Δ (bs (aO f.v))):=p1.cell 3;have c4':W.cell? ⟨B1,4,δ⟩=ζ (Δ (bs (aO f.t))):=p1.cell 4;have d4:W.cell? ⟨B2,4,δ⟩=ζ (Δ (bs (aO g.t))):=p2.cell 4;have P1:aQ (bE W B1 #[ω f.up,Υ Ξ f.co,Υ Ξ f.dir,Δ (bs (aO f.v)),Δ (bs (aO f.t))] 46):=p1;have P2:aQ (bE W B2 #[ω g.up,Υ Ξ g.co,Υ Ξ g.dir,Δ (bs (aO g.v)),Δ (bs (aO g.t))] 46):=p2;have Q1:=zq P1.o;have Q2:=zq P2.o;have QL:aQ (∀V,Below B W V->aE γ 163 #[bQ #[ω f.up,Υ Ξ f.co,Υ Ξ f.dir,Δ (bs (aO f.v)),Δ (bs (aO f.t))]] V (Rt (Δ (bs (aO f.vel))) V)):=QL;have Px:aQ (∀V,Below B W V->aE γ 163 #[bQ #[ω g.up,Υ Ξ g.co,Υ Ξ g.dir,Δ (bs (aO g.v)),Δ (bs (aO g.t))]] V (Rt (Δ (bs (aO g.vel))) V)):=Px;have H0:=zq h0;have HYa:=zq hY;obtain⟨N,hN⟩:=nm ((jI f g).length);rw[hN]at hlen Y2 Y3 Y4 L4|-;have L1:aQ ((ce2 f g).length=2):=rfl;generalize(ce2 f g).length=k2 at *;generalize(ce3 f g).length=k3 at *;generalize(ce4 f g).length=k4 at *;have HN:=zq hN;clear p1 p2 h0 hY hJ rk JU hg1 hN;generalize g.dir=dir2,g.up=up2,f.dir=dir1,f.up=up1,bs (aO (g.co:Rat))=C2,bs (aO (f.co:Rat))=C1,bs (aO (uR f g))=GT,bs (aO g.vel)=WT,bs (aO f.vel)=VT,bs (aO g.t)=T2,bs (aO f.t)=T1,bs (aO g.v)=S2,bs (aO f.v)=S1 at *;refine ol func187 rfl trivial ?_ rfl;simp only[ntmps187,bI,aC,bB,cL,dF,bG,bH,cE,bN,cM,bV];obtain⟨fn,tmps,assign,body,hy,hR⟩:=Y0.o W H0.o;clear Y0;gi_wp2;refine hR.mono ?_;rintro e W1 (⟨rfl,hJ1,Yo⟩|⟨rfl,hx⟩);case inr=>
  gi_wp2;repeat(refine⟨fun _ h=>(by cases h),?_⟩;gi_wp2)
  refine cU (tW rfl _ _ _) rfl ?_;exact⟨⟨_,rfl⟩,.inr ⟨1,aA dD hlen,hx⟩⟩
 have K1:=zq Yo;have d4:=(K1.o.2.cell (p:=⟨B2,4,δ⟩) (.inr rfl)).trans d4;obtain⟨fn,tmps,assign,body,hy,hR⟩:=Y1.o W1 hJ1;clear Y1 H0 hJ1 Yo c0 c1 qj c3' c4';gi_wp2;refine hR.mono ?_;rintro e W2 (⟨rfl,hJ2,hk2⟩|⟨rfl,hx⟩);case inr=>
  gi_wp2;refine cU (tW rfl _ _ _) rfl ?_;exact⟨⟨_,rfl⟩,.inr ⟨2,hlen,hx⟩⟩
 have K2:=zq (K1.o.trans hk2);have HJ2:=zq hJ2;clear hJ2 hk2 K1 d4 hlen;have P1:=zq (K2.o.blk1 P1.o);have P2:=zq (K2.o.blk2 P2.o);gi_wp2;obtain⟨c0,c1,qj,c3',c4'⟩:=P1.o.front;obtain⟨d0,d1,d2,d3,d4⟩:=P2.o.front;have KB2:=zq K2.o.1;have hs2:B<=W2.heap.size:=aA rj KB2.o.size;gi_cut [4,5]from 7 (fun a b V=>a=Δ VT/\b=Δ WT/\aQ (Bw W2 V));case first =>
  refine wpIn_wide.2 ?_;go_region_held3 (fun w'=>w'.cell? ⟨B1,0,δ⟩=ζ (ω up1)/\w'.cell? ⟨B1,1,δ⟩=ζ (Υ Ξ f.co)/\w'.cell? ⟨B1,2,δ⟩=ζ (Υ Ξ dir1)/\w'.cell? ⟨B1,3,δ⟩=ζ (Δ S1)/\w'.cell? ⟨B1,4,δ⟩=ζ (Δ T1)/\w'.cell? ⟨B2,0,δ⟩=ζ (ω up2)/\w'.cell? ⟨B2,1,δ⟩=ζ (Υ Ξ g.co)/\w'.cell? ⟨B2,2,δ⟩=ζ (Υ Ξ dir2)/\w'.cell? ⟨B2,3,δ⟩=ζ (Δ S2)/\w'.cell? ⟨B2,4,δ⟩=ζ (Δ T2)) (go_keep)
   (first
    |(go_at_call 163;with_reducible refine(QL.o _ KB2.o.drew).mono ?_;rintro e w1 ⟨rfl,hb1⟩;have Ig:=zq (aW (μ _ W2).drew hb1);have:=ck hb1 B1 0 (ω up1);have:=ck hb1 B1 1 (Υ Ξ f.co);have:=ck hb1 B1 2 (Υ Ξ dir1);have:=ck hb1 B1 3 (Δ S1);have:=ck hb1 B1 4 (Δ T1);have:=ck hb1 B2 0 (ω up2);have:=ck hb1 B2 1 (Υ Ξ g.co);have:=ck hb1 B2 2 (Υ Ξ dir2);have:=ck hb1 B2 3 (Δ S2);have:=ck hb1 B2 4 (Δ T2))
    |(go_at_call 163;with_reducible refine(Px.o _ (KB2.o.trans (Ig.o.mono hs2))).mono ?_;rintro e w2 ⟨rfl,hb2⟩;have mQ:=Ig.bS hb2;have:=ck hb2 B1 0 (ω up1);have:=ck hb2 B1 1 (Υ Ξ f.co);have:=ck hb2 B1 2 (Υ Ξ dir1);have:=ck hb2 B1 3 (Δ S1);have:=ck hb2 B1 4 (Δ T1);have:=ck hb2 B2 0 (ω up2);have:=ck hb2 B2 1 (Υ Ξ g.co);have:=ck hb2 B2 2 (Υ Ξ dir2);have:=ck hb2 B2 3 (Δ S2);have:=ck hb2 B2 4 (Δ T2)))
  all_goals
   gi_wp2;gi_meet;case rel=>exact⟨rfl,rfl,mQ.o⟩
 case rest=>
 obtain⟨rfl,rfl,eU⟩:=hcut;rename η=>W3;have HJ3:=zq (HJ.o _ _ _ HJ2.o eU.o);have K3:=zq (K2.o.trans (nR.call eU.o (aA rj K2.o.1.size) P1.o.lt P2.o.lt));have KB3:=zq K3.o.1;have hs3:B<=W3.heap.size:=aA rj KB3.o.size;clear c0 c1 qj c3' c4' d0 d1 d2 d3 d4;have P1:=zq (P1.o.below eU.o P1.o.lt);have P2:=zq (P2.o.below eU.o P2.o.lt);clear eU HJ2 K2;obtain⟨c0,c1,qj,c3',c4'⟩:=P1.o.front;obtain⟨d0,d1,d2,d3,d4⟩:=P2.o.front;gi_wp2;gi_cut [6]from 7 (fun a V=>a=Δ GT/\aQ (Bw W3 V));case first =>
  refine wpIn_wide.2 ?_;go_region_held3 (fun w'=>w'.cell? ⟨B1,1,δ⟩=ζ (Υ Ξ f.co)/\w'.cell? ⟨B1,4,δ⟩=ζ (Δ T1)/\w'.cell? ⟨B2,1,δ⟩=ζ (Υ Ξ g.co)/\w'.cell? ⟨B2,4,δ⟩=ζ (Δ T2)) (go_keep)
   (first
    |(go_at_call 160;with_reducible refine(HW2.o _ KB3.o.drew).mono ?_;rintro e w1 ⟨rfl,hb1⟩;have Ig:=zq (aW (μ _ W3).drew hb1);have:=ck hb1 B1 1 (Υ Ξ f.co);have:=ck hb1 B1 4 (Δ T1);have:=ck hb1 B2 1 (Υ Ξ g.co);have:=ck hb1 B2 4 (Δ T2))
    |(go_at_call 160;with_reducible refine(HW1.o _ (KB3.o.trans (Ig.o.mono hs3))).mono ?_;rintro e w2 ⟨rfl,hb2⟩;have mQ:=Ig.bS hb2;have:=ck hb2 B1 1 (Υ Ξ f.co);have:=ck hb2 B1 4 (Δ T1);have:=ck hb2 B2 1 (Υ Ξ g.co);have:=ck hb2 B2 4 (Δ T2))
    |(go_at_call 164;with_reducible refine(HGp.o _ (KB3.o.trans (mQ.o.mono hs3))).mono ?_;rintro e w3 ⟨rfl,hb3⟩;have Ft:=mQ.bS hb3;have:=ck hb3 B1 1 (Υ Ξ f.co);have:=ck hb3 B1 4 (Δ T1);have:=ck hb3 B2 1 (Υ Ξ g.co);have:=ck hb3 B2 4 (Δ T2)))
  all_goals
   gi_wp2;gi_meet;case rel=>exact⟨rfl,Ft.o⟩
 case rest=>
 obtain⟨rfl,HB3⟩:=hcut;rename η=>W4;have HJ4:aQ (J k2 W4):=by have:=HJ.o _ _ _ HJ3.o HB3.o;rw[L1.o];exact this
 have K4:=zq (K3.o.trans (nR.call HB3.o (aA rj K3.o.1.size) P1.o.lt P2.o.lt));have KB4:=zq K4.o.1;have hs4:B<=W4.heap.size:=aA rj KB4.o.size;clear c0 c1 qj c3' c4' d0 d1 d2 d3 d4;have P1:=zq (P1.o.below HB3.o P1.o.lt);have P2:=zq (P2.o.below HB3.o P2.o.lt);clear HB3 HJ3 K3 QL Px HW1 HW2 HGp;obtain⟨-,c1,-,-,c4'⟩:=P1.o.front;obtain⟨-,d1,-,-,d4⟩:=P2.o.front;gi_wp2;gi_cut [42]from 7 (fun v V=>(v=ω ν/\aQ (J k3 V)/\aQ (nR B B1 B2 W V))\/(v=ω ι/\aQ (∃k,k<=N/\Jx k V)));case first =>
  by_cases hv:f.vel=0
  .have Zh:(VT.toList==[48])=ι:=by rw[z1.o];exact decide_eq_true hv
   have L2:=L2.o hv;refine wpIn_wide.2 ?_;refine wp_region_held_drew (S:=(fun _=>True)) kF ?_ (fun iW=>?_)
   .trivial
   refine tH 0 rfl ?_;refine tH 1 rfl ?_;refine tH 2 rfl ?_;refine sH 3 rfl ?_;refine sH 4 rfl ?_;refine sH 5 rfl ?_;refine sH 6 rfl ?_;refine sH 7 rfl ?_;refine sH 8 rfl ?_;refine sH 9 rfl ?_;refine sH 10 rfl ?_;refine sH 11 rfl ?_;refine tH 12 rfl ?_;try simp only[oQ,fH,eR,eS,aX,bU,cR]
   refine wR kF ?_ _;gi_wp2;gi_meet;case rel=>exact .inl ⟨rfl,HJ.o k3 W4 _ (by rw[L2];exact HJ4.o) (μ _ W4).drew,K4.o.trans (nR.call (μ _ W4).drew hs4 P1.o.lt P2.o.lt)⟩
  .have Zh:(VT.toList==[48])=ν:=by rw[z1.o];exact decide_eq_false hv
   have Yk:=zq (Yk.o hv);have Uw:=zq (Uw.o hv);obtain⟨hk3,hY2⟩:=Y2.o hv;have HY2:=zq hY2;clear hv hY2;generalize bs (aO (f.t+uR f g/f.vel))=A1,bs (aO (uR f g/f.vel))=D1 at *;gi_region_with
    (first
     |(refine⟨trivial,?_⟩;gi_at_call 188;(with_reducible refine(callsIn_wide.2 (Yk.o _ KB4.o.drew)).mono ?_);rintro e w1 ⟨rfl,hb1⟩;have Ig:=zq (aW (μ _ W4).drew hb1);have:=ck hb1 B1 4 (Δ T1);have:=ck hb1 B2 4 (Δ T2))
     |(refine⟨trivial,?_⟩;gi_at_call 161;(with_reducible refine(callsIn_wide.2 (Uw.o _ (KB4.o.trans (Ig.o.mono hs4)))).mono ?_);rintro e w2 ⟨rfl,hb2⟩;have mQ:=Ig.bS hb2;have:=ck hb2 B1 4 (Δ T1);have:=ck hb2 B2 4 (Δ T2);obtain⟨fny,tmy,asy,boy,hy,hRy⟩:=HY2.o w2 (HJ.o _ _ _ HJ4.o mQ.o))
     |(refine hRy.mono ?_;rintro e w3 af8;obtain⟨by3,rfl,HRy⟩:=yb af8))
   all_goals
    gi_wp2;gi_meet;case rel=>
     rcases HRy.o with⟨hb,hJ3,hK⟩|⟨hb,hx⟩
     .exact .inl ⟨by rw[hb];rfl,hJ3,(K4.o.trans (nR.call mQ.o hs4 P1.o.lt P2.o.lt)).trans hK⟩
     .exact .inr ⟨by rw[hb];rfl,k3,hk3,hx⟩
 case rest=>
 rcases hcut with⟨rfl,HJ5,K5⟩|⟨rfl,HX⟩;case inr=>
  gi_wp2;refine cU (tW rfl _ _ _) rfl ?_;exact⟨⟨_,rfl⟩,.inr HX.o⟩
 rename η=>W5;have P1:=zq (K5.o.blk1 Q1.o);have P2:=zq (K5.o.blk2 Q2.o);clear HJ4 K4 KB4 hs4 c1 c4' d1 d4 Yk Uw Y2 L2 z1;have KB5:=zq K5.o.1;have hs5:B<=W5.heap.size:=aA rj KB5.o.size;obtain⟨-,c1,-,-,c4'⟩:=P1.o.front;obtain⟨-,d1,-,-,d4⟩:=P2.o.front;gi_wp2;gi_cut [55]from 7 (fun v V=>(v=ω ν/\aQ (J k4 V)/\aQ (nR B B1 B2 W V))\/(v=ω ι/\aQ (∃k,k<=N/\Jx k V)));case first =>
  by_cases hv:g.vel=0
  .have Zh:(WT.toList==[48])=ι:=by rw[z2.o];exact decide_eq_true hv
   have L3:=L3.o hv;refine wpIn_wide.2 ?_;refine wp_region_held_drew (S:=(fun _=>True)) kF ?_ (fun iW=>?_)
   .trivial
   refine tH 0 rfl ?_;refine tH 1 rfl ?_;refine tH 2 rfl ?_;refine sH 3 rfl ?_;refine sH 4 rfl ?_;refine sH 5 rfl ?_;refine sH 6 rfl ?_;refine sH 7 rfl ?_;refine sH 8 rfl ?_;refine sH 9 rfl ?_;refine sH 10 rfl ?_;refine sH 11 rfl ?_;refine tH 12 rfl ?_;try simp only[oQ,fH,eR,eS,aX,bU,cR]
   refine wR kF ?_ _;gi_wp2;gi_meet;case rel=>exact .inl ⟨rfl,HJ.o k4 W5 _ (by rw[L3];exact HJ5.o) (μ _ W5).drew,K5.o.trans (nR.call (μ _ W5).drew hs5 P1.o.lt P2.o.lt)⟩
  .have Zh:(WT.toList==[48])=ν:=by rw[z2.o];exact decide_eq_false hv
   have Pu:=zq (Pu.o hv);have HS2:=zq (HS2.o hv);obtain⟨hk4,hY3⟩:=Y3.o hv;have HY3:=zq hY3;clear hv hY3;generalize bs (aO (g.t-uR f g/g.vel))=A2,bs (aO (uR f g/g.vel))=D2 at *;gi_region_with
    (first
     |(refine⟨trivial,?_⟩;gi_at_call 188;(with_reducible refine(callsIn_wide.2 (Pu.o _ KB5.o.drew)).mono ?_);rintro e w1 ⟨rfl,hb1⟩;have Ig:=zq (aW (μ _ W5).drew hb1);have:=ck hb1 B1 4 (Δ T1);have:=ck hb1 B2 4 (Δ T2))
     |(refine⟨trivial,?_⟩;gi_at_call 164;(with_reducible refine(callsIn_wide.2 (HS2.o _ (KB5.o.trans (Ig.o.mono hs5)))).mono ?_);rintro e w2 ⟨rfl,hb2⟩;have mQ:=Ig.bS hb2;have:=ck hb2 B1 4 (Δ T1);have:=ck hb2 B2 4 (Δ T2);obtain⟨fny,tmy,asy,boy,hy,hRy⟩:=HY3.o w2 (HJ.o _ _ _ HJ5.o mQ.o))
     |(refine hRy.mono ?_;rintro e w3 af8;obtain⟨by3,rfl,HRy⟩:=yb af8))
   all_goals
    gi_wp2;gi_meet;case rel=>
     rcases HRy.o with⟨hb,hJ3,hK⟩|⟨hb,hx⟩
     .exact .inl ⟨by rw[hb];rfl,hJ3,(K5.o.trans (nR.call mQ.o hs5 P1.o.lt P2.o.lt)).trans hK⟩
     .exact .inr ⟨by rw[hb];rfl,k4,hk4,hx⟩
 case rest=>
 rcases hcut with⟨rfl,HJ6,K6⟩|⟨rfl,HX⟩;case inr=>
  gi_wp2;refine cU (tW rfl _ _ _) rfl ?_;exact⟨⟨_,rfl⟩,.inr HX.o⟩
 rename η=>W6;have P1:=zq (K6.o.blk1 Q1.o);have P2:=zq (K6.o.blk2 Q2.o);clear HJ5 K5 KB5 hs5 c1 c4' d1 d4 Pu HS2 Y3 L3 z2;have KB6:=zq K6.o.1;have hs6:B<=W6.heap.size:=aA rj KB6.o.size;obtain⟨-,c1,-,-,c4'⟩:=P1.o.front;obtain⟨-,d1,-,-,d4⟩:=P2.o.front;by_cases hv:f.vel=g.vel
 .have Zh:(VT.toList==WT.toList)=ι:=by rw[z3.o];exact decide_eq_true hv
  have L4:=zq (L4.o hv);clear hv;gi_wp2;go_end0;exact⟨⟨_,rfl⟩,.inl (by rw[L4.o];exact HJ6.o)⟩
 .have Zh:(VT.toList==WT.toList)=ν:=by rw[z3.o];exact decide_eq_false hv
  have HDl:=zq (HDl.o (by grind));have HY4:=zq (Y4.o hv);clear hv Y4 L4;generalize bs (aO ((uR f g+(f.vel*f.t-g.vel*g.t))/(f.vel-g.vel)))=DL,bs (aO (f.vel-g.vel))=SV,bs (aO (uR f g+(f.vel*f.t-g.vel*g.t)))=AM,bs (aO (f.vel*f.t-g.vel*g.t))=SM,bs (aO (g.vel*g.t))=M2,bs (aO (f.vel*f.t))=M1 at *;have HC0:aQ (Bw W6 W6.drew):=(μ _ W6).drew;gi_wp2;gi_region_with
   (first
    |(refine⟨trivial,?_⟩;gi_at_call 162;(with_reducible refine(callsIn_wide.2 (HM1.o _ KB6.o.drew)).mono ?_);rintro e w1 ⟨rfl,hb1⟩;have Ig:=HC0.bS hb1;have:=ck hb1 B1 4 (Δ T1);have:=ck hb1 B2 4 (Δ T2))
    |(refine⟨trivial,?_⟩;gi_at_call 162;(with_reducible refine(callsIn_wide.2 (HM2.o _ (KB6.o.trans (Ig.o.mono hs6)))).mono ?_);rintro e w2 ⟨rfl,hb2⟩;have mQ:=Ig.bS hb2;have:=ck hb2 B1 4 (Δ T1);have:=ck hb2 B2 4 (Δ T2))
    |(refine⟨trivial,?_⟩;gi_at_call 164;(with_reducible refine(callsIn_wide.2 (HSm.o _ (KB6.o.trans (mQ.o.mono hs6)))).mono ?_);rintro e w3 ⟨rfl,hb3⟩;have Ft:=mQ.bS hb3)
    |(refine⟨trivial,?_⟩;gi_at_call 161;(with_reducible refine(callsIn_wide.2 (HAm.o _ (KB6.o.trans (Ft.o.mono hs6)))).mono ?_);rintro e w4 ⟨rfl,hb4⟩;have Qu:=Ft.bS hb4)
    |(refine⟨trivial,?_⟩;gi_at_call 164;(with_reducible refine(callsIn_wide.2 (HSv.o _ (KB6.o.trans (Qu.o.mono hs6)))).mono ?_);rintro e w5 ⟨rfl,hb5⟩;have hB5:=Qu.bS hb5)
    |(refine⟨trivial,?_⟩;gi_at_call 188;(with_reducible refine(callsIn_wide.2 (HDl.o _ (KB6.o.trans (hB5.o.mono hs6)))).mono ?_);rintro e w6 ⟨rfl,hb6⟩;have hB6:=hB5.bS hb6;obtain⟨fny,tmy,asy,boy,hy,hRy⟩:=HY4.o w6 (HJ.o _ _ _ HJ6.o hB6.o))
    |(refine hRy.mono ?_;rintro e w7 af8;obtain⟨by3,rfl,HRy⟩:=yb af8))
  all_goals
   gi_wp2;go_end0;rcases HRy.o with⟨-,hJ3,-⟩|⟨-,hx⟩
   .exact⟨⟨_,rfl⟩,.inl hJ3⟩
   .exact⟨⟨_,rfl⟩,.inr ⟨N,θ _,hx⟩⟩
end
end
section
open Go.Shelf
def Tryz.cmK_ren:iG:=⟨fun |43=>65|n=>n,fun |22=>68|23=>29|3=>3|4=>4|0=>0|n=>n,fun |n=>n⟩
theorem Tryz.cmK:Go.Proofs.SlLaysE.n43 γ Tryz.cmK_ren:={
 mixed:=kF
 f43:=⟨Tryz.f65.name,dD,zf func65⟩
 t0:=pK
 a0:=Aj
 z0:=xT
 v0:=rK
 t3:=dB
 a3:=jF
 z3:=gW
 v3:=gV
 t4:=eW
 a4:=lK
 z4:=jR
 v4:=gJ
 t22:=jL
 a22:=Mq
 z22:=sizeOf68
 v22:=zeroValue68
 a23:=Yc
 z23:=Uk}
open Go Go.RowKit Go.Lib Go.Sort Go.Shelf
theorem Vn(ds:List (List UInt8)):∀z,z∈lL ds.toArray ds.length↔z∈ds:=by
 intro z;have hg:∀j,j<ds.length->ds.toArray[j]! =ds.getD j []:=fun j hj=>by simp[Ω,hj]
 unfold lL;constructor
 .intro h;obtain⟨j,hj,rfl⟩:=List.mem_map.1 h;have hj:=List.mem_range.1 (List.mem_filter.1 hj).1;rw[hg j hj];exact aN hj []
 .intro h;obtain⟨j,hj,rfl⟩:=List.getElem_of_mem h;have:∀k j,j<ds.length->j<=k->ds.getD j []∈oO (fun x=>ds.toArray[x]!) (List.filter (keeps ds.toArray) (cI ds.length)):=by
   intro k;induction k with
   |zero=>
    intro j hj h0;obtain rfl:j=0:=oM;refine List.mem_map.2 ⟨0,List.mem_filter.2 ⟨List.mem_range.2 hj,?_⟩,hg 0 hj⟩;simp[keeps]
   |succ k ih=>
    intro j hj hk;by_cases hkp:keeps ds.toArray j=ι
    .exact List.mem_map.2 ⟨j,List.mem_filter.2 ⟨List.mem_range.2 hj,hkp⟩,hg j hj⟩
    .unfold keeps at hkp;rw[decide_eq_true_eq]at hkp;have h0:j≠0:=fun e=>hkp (.inl e);have he:ds.toArray[j]! =ds.toArray[j-1]!:=aG fun e=>hkp (.inr e);rw[hg j hj,hg (j-1) oM]at he;rw[he];exact ih (j-1) oM oM
  have:=this j j hj (θ _);rwa[show ds.getD j []=ds[j] by simp[Ω,hj]]at this
def aR8(g n cap:Nat)(ds:List (List UInt8))(w:η)(e:Fg)(w':η):Prop:=
 ∃(m:Nat)(L:List (List UInt8)),e=σ (Θ (ζ ⟨g,0,δ⟩) m cap)/\L.length=m/\m<=n/\(∀z,z∈L↔z∈ds)/\Qy w' (ζ ⟨g,0,δ⟩) (dQ L)/\w.grownBy w' (ζ g)
theorem Ns(cH g n cap ds w)(hn:n<=1000)(hl:ds.length=n)(cT:w.ownsRow cH 29 1 (Θ (ζ ⟨g,0,δ⟩) n cap) n (dQ ds)):
 aE γ 65 #[Θ (ζ ⟨g,0,δ⟩) n cap] w fun e w'=>∃ L:List (List UInt8),L=lL ds.toArray n/\e=σ (Θ (ζ ⟨g,0,δ⟩) L.length cap)/\L.length<=n/\(∀ z,z∈L↔z∈ds)/\Qy w' (ζ ⟨g,0,δ⟩) (dQ L)/\w.grownBy w' (ζ g):=by
 obtain⟨-,aA2,hnc,-⟩:=mD cT;have hH:Holds (fun l:List UInt8=>Δ (bs l)) w g 0 ds.toArray:=by
  intro j hj;have hj:j < ds.length:=by simpa using hj
  rw [bD];refine⟨?_,jB cT j⟩;rw [dN cT j oM];simp [dQ,hj]
 have heq:EqlAt γ 29 (fun l:List UInt8=>Δ (bs l)) (fun x y=>decide (x=y)):=by
  refine⟨fun x y w=>?_,fun op a b x y w=>(EqlAt.string γ 29).2 op a b (bs x) (bs y) w⟩;rw [(EqlAt.string γ 29).1 (bs x) (bs y) w];simp only [dM,gL];congr 2;rw [oC];simp
 have hne:NeqAt γ 29 (fun l:List UInt8=>Δ (bs l)) (fun x y=>decide (x=y)):=by
  refine⟨fun x y w=>?_,heq.2⟩;rw [(NeqAt.string γ 29).1 (bs x) (bs y) w];simp only [dM,gL];congr 3;rw [oC];simp
 have H:=AnyE.slices_Compact Tryz.cmK (fun l:List UInt8=>Δ (bs l)) (fun _=>rfl) heq hne [] (fun w=>kF) g 0 cap ds.toArray w hH (by simp;omega) (by simp;omega);have Dv:ds.toArray.size=n:=by simp [hl]
 rw [Dv] at H;refine uN H ?_;rintro e w' ⟨rfl,q,rfl⟩;have hm:=Vn ds;rw [hl] at hm;have hlen:(lL ds.toArray n).length<=n:=by
  unfold lL;rw [υ];exact aA (xF _ _) sP
 generalize lL ds.toArray n=L at *;refine⟨L,rfl,rfl,hlen,hm,?_,?_⟩
 .intro i hi;rw [uQ] at hi;have hh:=holds_putRow (fun l:List UInt8=>Δ (bs l)) (Ul w q) g 0 ds.toArray (L ++ Qg (n - L.length) []).toArray (holds_ahead _ w q g 0 _ hH) (by simp;omega);obtain⟨h1,-⟩:=hh i (by simp;omega);refine⟨g,0,rfl,?_⟩;rw [h1,Fu L hi];have:(L ++ Qg (n - L.length) [])[i]? =ζ L[i]:=by rw [List.getElem?_append_left hi];simp [hi]
  simp [Ω,hi,this]
 .refine⟨rfl,rfl,rfl,by simp [putRow,mapBlock,Ul],fun k _ hk=>?_⟩;show(JB w.heap g _)[k]? =_;rw [D3,iN (fun e=>hk (by rw [e]))]
theorem Tg(cH g n cap ds w)(hn:n<=1000)(hl:ds.length=n)(cT:w.ownsRow cH 29 1 (Θ (ζ ⟨g,0,δ⟩) n cap) n (dQ ds)):
 aE γ 65 #[Θ (ζ ⟨g,0,δ⟩) n cap] w (aR8 g n cap ds w):=by
 refine(Ns cH g n cap ds w hn hl cT).mono ?_;rintro e w'⟨L,-,he,h1,h2,h3,h4⟩;exact⟨L.length,L,he,rfl,h1,h2,h3,h4⟩
end
section
open Go
def Result.dge{α:Type}(d:Nat):Result α->Prop
 |.ok _ w=>d<=w.drawn
 |.halt _ w=>d<=w.drawn
theorem Result.dge_mono{d:Nat}(h:d<=e){r:Result α}(hr:Result.dge e r):Result.dge d r:=by
 cases r with
 |ok a w=>exact aA h hr
 |halt a w=>exact aA h hr
theorem Th:∀(a:Ask α)(w:η),w.drawn<=(w.ask a).2.drawn
 |.done a,w=>θ _
 |.ask what range k,w=>by
  unfold World.ask
  dsimp only
  split
  .exact Th (k 0) w
  .exact aA (Jq w.drawn) (Th _ {w with drawn:=w.drawn+1})
theorem aA3(w:η)(c:Sys):w.drawn<=(w.sys c).2.drawn:=by
 have h:=Th (Kernel.perform c w.os) w;unfold World.sys;split
 .exact θ _
 .rename_i h1;rw[h1]at h;exact h
def Vo{ε β:Type}(P:β->Prop)(x:Except ε β):Prop:=∀b,x=.ok b->P b
theorem Vo.bind{P:β->Prop}{x:Except ε α}{f:α->Except ε β}(h:∀a,Vo P (f a)):Vo P (x>>=f):=by
 intro b hb;cases x with
 |error e=>cases hb
 |ok a=>exact h a b hb
theorem Vo.thr{P:β->Prop}{e:ε}:Vo P (MonadExcept.throw e:Except ε β):=fun b hb=>by cases hb
theorem Py{a:bW}{u:cS}{k:bW}{v:χ}{b:Bool}{l:List bW}(h:w.viewStore p a u k v b=.ok (w',l)):w'.drawn=w.drawn:=by
 have:Vo (fun r:η×List bW=>r.1.drawn=w.drawn) (w.viewStore p a u k v b):=by
  unfold World.viewStore;repeat' (first |(refine Vo.bind fun _=>?_)|exact Vo.thr|(intro b hb;cases hb;rfl)|split)
 exact this _ h
theorem Ti{a:bW}{v:χ}{b:Bool}{l:List bW}(h:w.farStore p a v b=.ok (w',l)):w'.drawn=w.drawn:=by
 unfold World.farStore at h;split at h
 .split at h
  .rename_i r hr;cases h;exact Py hr
  .cases h
 .cases h
theorem nC(p)(s:Sem α)(w):Result.dge w.drawn (s.run p w):=by
 induction s generalizing w with
 |pure a=>exact θ _
 |load m a k ih=>
  unfold fD;split
  .exact ih _ w
  .split
   .exact ih _ w
   .exact θ _
 |store m a v k ih=>
  cases v<;>(try exact θ _)<;>
  .simp only[fD];split
   .split
    .exact θ _
    .exact ih (w.setCell _ _)
   .split
    .rename_i h;have:=ih ‹η›;rw[Ti h]at this;exact this
    .exact θ _
 |new o k ih=>exact ih _ _
 |shape r k ih=>exact ih _ _
 |freeze a n k ih=>
  have h:=ih (w.freeze a n);have e:(w.freeze a n).drawn=w.drawn:=by unfold World.freeze;split <;>rfl
  rw[e]at h;exact h
 |frozen a k ih=>exact ih _ _
 |getObj r k ih=>
  unfold fD;split
  .exact θ _
  .exact ih _ _
  .exact θ _
 |setObj r o k ih=>
  unfold fD;split
  .exact θ _
  .exact ih _
  .exact θ _
 |choose q k ih=>
  unfold fD;split
  .exact ih _ _
  .exact Result.dge_mono (Jq _) (ih _ {w with drawn:=w.drawn+1})
 |sys c k ih=>exact Result.dge_mono (aA3 w c) (ih _ _)
 |program k ih=>exact ih _ _
 |mark m k ih=>exact ih _
 |halt h=>exact θ _
theorem nL{s:Sem α}{a:α}(h:s.run p w=.ok a w'):w.drawn<=w'.drawn:=by
 have:=nC p s w;rw[h]at this;exact this
def GStep.dge(d:Nat):GStep->Prop
 |.go _ w _=>d<=w.drawn
 |.comm _ _ _ _ w _=>d<=w.drawn
 |.spawn _ _ w _=>d<=w.drawn
 |.count _ w _=>d<=w.drawn
 |.timer _ _ w _=>d<=w.drawn
 |.alone _ _ w _=>d<=w.drawn
 |.newcoro _ _ _ w _=>d<=w.drawn
 |.coroswitch _ _ _ w _=>d<=w.drawn
 |.collect _ w _=>d<=w.drawn
 |.watch _ w _=>d<=w.drawn
 |.ended _ _ _=>True
theorem GStep.dge_after{d:Nat}{es:Array Event}{s:GStep}(h:GStep.dge d s):GStep.dge d (s.after es):=by
 cases s<;>exact h
theorem GStep.dge_ite{d:Nat}{c:Prop}[Decidable c]{a b:GStep}(ha:GStep.dge d a)(hb:GStep.dge d b):GStep.dge d (if c then a else b):=by
 split
 .exact ha
 .exact hb
theorem CZ{fr:Ap}{cs:List Ap}{dy:Option Um}{v:χ}{d:Nat}(h:d<=w.drawn):GStep.dge d (doReturn p Zi fr cs dy v w):=by
 unfold doReturn
 repeat' split
 all_goals first |exact h|trivial
theorem Vp{fd:Nat}{t:ByteArray}{o:Outcome}{d:Nat}:GStep.dge d (endWith w fd t o):=by
 unfold endWith
 dsimp only
 repeat' split
 all_goals trivial
theorem Dp{fr:Ap}{v:χ}{d:Nat}(h:d<=w.drawn):GStep.dge d (endPrinting p fr v w):=by
 unfold endPrinting;dsimp only;split
 .exact h
 .trivial
theorem IP{fr:Ap}{cs:List Ap}{dy:Option Um}{m:String}{d:Nat}(h:d<=w.drawn):GStep.dge d (endFatal p fr cs dy m w):=by
 unfold endFatal;extract_lets chain raw shown;have hr:=nC p shown w;revert hr;generalize fD p shown w=r;intro hr;split
 .exact aA h hr
 .trivial
 .trivial
theorem Vq{fr:Ap}{dy:Um}{f:Fatal}{d:Nat}(h:d<=w.drawn):GStep.dge d (writeOn p fr dy f w):=by
 unfold writeOn;extract_lets on;split
 .trivial
 .extract_lets j1 j2 j3 j4 write;clear_value write;simp only[sJ];have hr:=nC p write w;revert hr;generalize fD p write w=r;intro hr;split
  .rename_i e;cases e;exact aA h hr
  .rename_i e;cases e;exact aA h hr
  .trivial
  .trivial
theorem aA4{fr:Ap}{dy:Um}{d:Nat}(h:d<=w.drawn):GStep.dge d (die p fr dy w):=by
 unfold die;split
 .exact Vq h
 .split
  .split
   .exact h
   .exact Vp
  .dsimp only;split
   .exact h
   .rename_i s _;have hr:=nC p (withAddress s) w;revert hr;generalize fD p (withAddress s) w=r;intro hr;split
    .exact aA h hr
    .trivial
   .rename_i t bc0 name _;refine GStep.dge_after ?_;simp only[sJ];have hr:=nC p (invoke (.fn (.method name) #[]) #[.iface t bc0]) w;revert hr;generalize fD p (invoke (.fn (.method name) #[]) #[.iface t bc0]) w=r;intro hr;split
    .exact aA h hr
    .exact aA h hr
    .trivial
    .exact Dp (aA h hr)
    .trivial
   .trivial
theorem Kc{fr:Ap}{cs:List Ap}{dy:Option Um}{df:Deferred}{d:Nat}(h:d<=w.drawn):GStep.dge d (callDeferred p fr cs dy df w):=by
 unfold callDeferred
 refine GStep.dge_ite trivial ?_
 .simp only[sJ]
  refine GStep.dge_after ?_
  have hr:=nC p (invoke df.target df.args) w
  revert hr
  generalize fD p (invoke df.target df.args) w=r
  intro hr
  repeat' split
  all_goals first |exact aA h hr|trivial|exact IP (aA h hr)
theorem Zj{fr:Ap}{cs:List Ap}{dy:Option Um}{d:Nat}(h:d<=w.drawn):GStep.dge d (unwind p Zi fr cs dy w):=by
 unfold unwind;split
 .rename_i b _ ds _;refine GStep.dge_after ?_;simp only[sJ];have hr:=nC p (om b) w;revert hr;generalize fD p (om b) w=r;intro hr;split
  .exact aA h hr
  .trivial
 .exact Kc h
 .split
  .trivial
  .rename_i chain _;refine GStep.dge_ite trivial ?_;split
   .exact h
   .split
    .refine GStep.dge_ite h ?_;have hr:=nC p (reportChain chain ν) w;revert hr;generalize fD p (reportChain chain ν) w=r;intro hr;split
     .exact aA h hr
     .trivial
     .trivial
    .split
     .exact Dp h
     .trivial
  .split
   .exact CZ h
   .rename_i fn _;refine GStep.dge_after ?_;simp only[sJ];have hr:=nC p (gP fn fr.tmps) w;revert hr;generalize fD p (gP fn fr.tmps) w=r;intro hr;split
    .exact CZ (aA h hr)
    .trivial
    .trivial
theorem rm{fr:Ap}{cs:List Ap}{dy:Option Um}{d:Nat}(h:d<=w.drawn):GStep.dge d (early p fr cs dy g w):=by
 unfold early;extract_lets refuse notYet;have hn:∀w:η,d<=w.drawn->GStep.dge d (notYet w):=fun w h=>by
  simp only[notYet];split
  .exact h
  .trivial
 refine GStep.dge_ite (hn w h) ?_;split
 .trivial
 .rename_i f _;extract_lets bt1;refine GStep.dge_ite (hn w h) ?_;refine GStep.dge_ite (hn w h) ?_;split
  .trivial
  .exact h
  .trivial
  .exact hn w h
  .refine GStep.dge_ite h ?_;refine GStep.dge_ite (hn w h) ?_;have hr:=nC p (choose (.early g)) w;revert hr;generalize fD p (choose (.early g)) w=r;intro hr;split
   .exact hn _ (aA h hr)
   .exact aA h hr
   .trivial
theorem zC{fr:Ap}{cs:List Ap}{dy:Option Um}{s:Sem Next}{d:Nat}(h:d<=w.drawn):GStep.dge d (stepG.apply p Eh fr cs dy s w):=by
 unfold stepG.apply
 extract_lets go kind
 have e:∃es,(if Eh=ι then s.runT p w #[]else(s.run p w,#[]))=(s.run p w,es):=by
  split
  .exact⟨_,sJ _ _ _ _⟩
  .exact⟨_,rfl⟩
 obtain⟨es,e⟩:=e
 rw[e]
 dsimp only
 have hr:=nC p s w
 revert hr
 generalize fD p s w=r
 intro hr
 refine GStep.dge_after ?_
 clear e
 repeat' split
 all_goals first |exact aA h hr|trivial|exact IP (aA h hr)|exact rm (aA h hr)|skip
theorem af9{fr:Ap}{cs:List Ap}{dy:Option Um}{d:Nat}(h:d<=w.drawn):GStep.dge d (stepG.oper p Eh fr cs dy w):=by
 unfold stepG.oper;split
 .trivial
 .split
  .exact zC h
  .exact zC h
theorem Nt{d:Nat}{x:Option α}{a:GStep}{f:α->GStep}(ha:GStep.dge d a)(hf:∀y,GStep.dge d (f y)):GStep.dge d (x.elim a f):=by
 cases x with
 |none=>exact ha
 |some y=>exact hf y
theorem ag0{fr:Ap}{cs:List Ap}{dy:Option Um}{d:Nat}(h:d<=w.drawn):GStep.dge d (stepG.exec p Zi Eh fr cs dy w):=by
 unfold stepG.exec;extract_lets go hence lost leave;have hl:∀j,GStep.dge d (leave j):=fun j=>by
  simp only[leave];split
  .exact GStep.dge_ite h trivial
  .rename_i l _;refine GStep.dge_after ?_;simp only[sJ];have hr:=nC p (F8 l j) w;revert hr;generalize fD p (F8 l j) w=r;intro hr;split
   .exact CZ (aA h hr)
   .trivial
 have ht:∀l,GStep.dge d (hence l):=fun l=>h;clear_value leave;split
 .exact hl _
 .exact hl _
 .exact ht _
 .exact ht _
 .exact ht _
 .exact ht _
 .exact ht _
 .split
  .exact ht _
  .trivial
 .exact ht _
 .exact ht _
 .exact ht _
 .exact ht _
 .exact Nt (hl _) ht
 .exact Nt (hl _) ht
 .refine GStep.dge_after ?_;rename_i f params assign body k _;simp only[sJ];have hr:=nC p (Instr.enterLoop fr.fn fr.tmps params assign body fr.roundOf) w;revert hr;generalize fD p (Instr.enterLoop fr.fn fr.tmps params assign body fr.roundOf) w=r;intro hr;split
  .exact zC (aA h hr)
  .trivial
 .trivial
 .exact zC h
 .refine GStep.dge_after ?_;rename_i l k _;simp only[sJ];have hr:=nC p (Instr.endLoop l) w;revert hr;generalize fD p (Instr.endLoop l) w=r;intro hr;split
  .exact aA h hr
  .exact aA h hr
  .trivial
 .trivial
 .exact zC h
 .rename_i row args _ _;cases Extern.next row with
  |none=>trivial
  |some e=>exact zC h
 .rename_i id cF bu3 k _;refine GStep.dge_ite (ht _) ?_;have hr:=nC p (choose (.order fr.fn id)) w;revert hr;generalize fD p (choose (.order fr.fn id)) w=r;intro hr;split
  .exact aA h hr
  .trivial
 .exact ht _
 .exact GStep.dge_ite (af9 h) h
theorem rn{g:Goroutine}{d:Nat}(h:d<=w.drawn):GStep.dge d (stepG p Zi g w Eh):=by
 unfold stepG;dsimp only;split
 .exact aA4 h
 .exact ag0 h
 .exact Zj h
def Stepped.dge(d:Nat):Stepped->Prop
 |.next m=>d<=m.world.drawn
 |.ended _ _=>True
theorem L8{rest:Rest}{cases:Array CommCase}(h:waitingAt rest cases w=ζ w'):w'.drawn=w.drawn:=by
 unfold waitingAt at h;split at h
 .split at h
  .cases h;rfl
  .cases h
 .cases h;rfl
theorem L9{rest:Rest}{g:Goroutine}{cases:Array CommCase}{bl:Bool}{sh:CommShape}{d:Nat}(h:d<=w.drawn):Stepped.dge d (communicate p rest gs i g cases bl sh w).1:=by
 unfold communicate;extract_lets put illMade me other ready pick;split
 .trivial
 .split
  .split
   .split
    .rename_i hw;show _<=World.drawn _;rw[L8 hw];exact h
    .trivial
   .exact h
  .have hr:=nC p pick w;revert hr;generalize fD p pick w=r;intro hr;cases r with
   |halt a w1=>trivial
   |ok a w1=>
    obtain⟨k,c,way⟩:=a;have hw:d<=w1.drawn:=aA h hr;dsimp only;split
    .have hz:=nC p (runtimePanic (.plain "send on closed channel"):Sem Unit) w1;revert hz;generalize fD p (runtimePanic (.plain "send on closed channel"):Sem Unit) w1=r2;intro hz;split
     .exact aA hw hz
     .trivial
    .exact hw
    .exact hw
    .split
     .exact hw
     .split
      .rename_i hq;have hz:=nL hq;exact aA hw hz
      .trivial
    .exact hw
    .exact hw
    .trivial
theorem Vr{rest:Rest}{d:Nat}(h:d<=w.drawn):Stepped.dge d (look p gs rest w):=by
 unfold look;split
 .extract_lets;split;dsimp only;split
  .trivial
  .split
   .trivial
   .split
    .rename_i hq;have hz:=nL hq;exact aA h hz
    .trivial
    .trivial
 .trivial
theorem rq{m:xX}{d:Nat}(h:d<=m.world.drawn):Stepped.dge d (serve p m k):=by
 unfold serve;split
 .trivial
 .exact h
 .extract_lets;split
  .trivial
  .exact h
theorem Vs(w c):(drain w c).2.drawn=w.drawn:=by
 unfold drain;split <;>rfl
theorem IQ(m k t a b):(retime m k t a b).2.world.drawn=m.world.drawn:=by
 unfold retime;cases t.chan with
 |none=>rfl
 |some c=>exact Vs _ _
theorem Pz{m:xX}{op:TimerOp}{v:χ}(h:timerOp m op=.ok (v,m')):m'.world.drawn=m.world.drawn:=by
 unfold timerOp at h;split at h
 .split at h
  .cases h;rfl
  .split at h
   .split at h
    .cases h
    .cases h;rfl
   .cases h
 .unfold timerOp.named at h;split at h
  .injection h with h;exact(congrArg (fun r:χ×xX=>r.2.world.drawn) h).symm.trans (IQ _ _ _ _ _)
  .cases h
 .split at h
  .rename_i m1 hm;have hm1:m1.world.drawn=m.world.drawn:=by
    unfold timerOp.opened at hm;split at hm
    .split at hm
     .cases hm;rfl
     .cases hm
    .cases hm;rfl
   unfold timerOp.named at h;split at h
   .injection h with h;exact((congrArg (fun r:χ×xX=>r.2.world.drawn) h).symm.trans (IQ _ _ _ _ _)).trans hm1
   .cases h
  .cases h
 .cases h;rfl
theorem ag1{m:xX}{l:Bool}{d:Nat}(h:d<=m.world.drawn):Stepped.dge d (runT p m i l).1:=by
 unfold runT;extract_lets rest world;split;rename_i g gs _;extract_lets bu4 fn pos s cF done;have hs:GStep.dge d s:=rn h;clear_value s;split
 .trivial
 .exact L9 hs
 .exact hs
 .exact hs
 .simp only[done];split
  .trivial
  .exact hs
 .exact hs
 .exact Vr hs
 .exact hs
 .exact hs
 .simp only[done];split
  .exact hs
  .exact hs
  .trivial
 .simp only[done];split
  .rename_i hq;show d<=World.drawn _;have:=Pz hq;dsimp only at this;rw[this];exact hs
  .exact hs
  .trivial
  .trivial
def Move.dge(d:Nat):Move->Prop
 |.goroutine m _=>d<=m.world.drawn
 |.machine s _=>Stepped.dge d s
theorem Kd{m:xX}{d:Nat}(h:d<=m.world.drawn):Move.dge d (askOn p m):=by
 unfold askOn;extract_lets mono rs ds pick;have hp:∀m:xX,d<=m.world.drawn->Move.dge d (pick m):=fun m h=>by
  simp only[pick];split
  .trivial
  .rename_i hq;have h1:=aA h (nL hq);split
   .exact h1
   .split
    .trivial
    .rename_i O8;exact aA h1 (nL O8)
 clear_value pick;split
 .trivial
 .rename_i hq;have h1:=aA h (nL hq);clear hq;clear_value rs;split
  .exact rq h1
  .extract_lets m2;cases rs with
   |nil=>
    dsimp only;split
    .exact h1
    .split
     .exact h1
     .split
      .trivial
      .trivial
   |cons r rs=>
    dsimp only;split
    .exact hp _ h1
    .split
     .trivial
     .rename_i O8;exact hp _ (aA h1 (nL O8))
     .rename_i O8;have hz:=nL O8;exact aA h1 hz
     .rename_i O8;have hz:=nL O8;exact hp _ (aA h1 hz)
theorem QM{m:xX}{d:Nat}(h:d<=m.world.drawn):Move.dge d (ask p m):=by
 unfold ask;split
 .split
  .trivial
  .rename_i hq;have hl:=Vr (p:=p) (gs:=m.gs) (rest:=m.rest) (aA h (nL hq));split
   .rename_i O8;rw[O8]at hl;exact Kd hl
   .exact hl
  .rename_i hq;exact Kd (aA h (nL hq))
 .exact Kd h
theorem ag2{m:xX}{d:Nat}(h:d<=m.world.drawn):Move.dge d (move p m):=by
 unfold move;split
 .split
  .exact h
  .trivial
 .split
  .split
   .exact h
   .exact QM h
  .exact QM h
theorem ag3{m:xX}{d:Nat}(h:d<=m.world.drawn):Stepped.dge d (step p m):=by
 unfold step stepT;have hm:=ag2 (p:=p) h;split
 .rename_i hq;rw[hq]at hm;exact ag1 hm
 .rename_i hq;rw[hq]at hm;exact hm
theorem ag4{n:Nat}:∀{m:xX} {d:Nat},d<=m.world.drawn->Stepped.dge d (runN p n m):=by
 induction n with
 |zero=>intro m d h;exact h
 |succ n ih=>
  intro m d h;unfold runN;have hs:=ag3 (p:=p) h;split
  .rename_i hq;rw[hq]at hs;exact ih hs
  .trivial
theorem Steps.dge{m:xX}(h:Steps p m m'):m.world.drawn<=m'.world.drawn:=by
 obtain⟨n,h⟩:=h;have:=ag4 (p:=p) (n:=n) (θ m.world.drawn);rw[h]at this;exact this
theorem Vt{f:FuncId}{R:Fg->η->Prop}(h:aE P f args w R)(hR:∀e w',R e w'->∃v,e=σ v):aE P f args w fun e w'=>R e w'/\w.drawn<=w'.drawn:=by
 intro cs;obtain⟨e,w',fr,h1,h2,h3,h4⟩:=h cs;obtain⟨v,rfl⟩:=hR e w' h1;exact⟨_,w',fr,⟨h1,Steps.dge h2⟩,h2,h3,h4⟩
end
section
open Go.Shelf
def Tryz.sortN_ren:iG:=⟨fun |6=>64|15=>116|14=>115|28=>173|29=>174|20=>165|21=>166|22=>167|23=>168|24=>169|25=>170|26=>171|27=>172|46=>203|47=>204|48=>205|49=>206|50=>207|57=>240|n=>n,fun |22=>68|24=>29|25=>87|3=>3|39=>176|0=>0|53=>246|55=>248|4=>4|46=>240|45=>239|50=>179|5=>5|9=>9|66=>279|70=>283|76=>314|77=>142|n=>n,fun |n=>n⟩
theorem Tryz.sortN:Go.Proofs.SlLaysF.n6 γ Tryz.sortN_ren:={
 mixed:=kF
 f6:=⟨Tryz.f64.name,dD,zf func64⟩
 f14:=⟨Tryz.f115.name,dD,zf func115⟩
 f15:=zf func116
 f20:=⟨Tryz.f165.name,dD,zf func165⟩
 f21:=⟨Tryz.f166.name,dD,zf func166⟩
 f22:=⟨Tryz.f167.name,dD,zf func167⟩
 f23:=⟨Tryz.f168.name,dD,zf func168⟩
 f24:=⟨Tryz.f169.name,dD,zf func169⟩
 f25:=⟨Tryz.f170.name,dD,zf func170⟩
 f26:=⟨Tryz.f171.name,dD,zf func171⟩
 f27:=⟨Tryz.f172.name,dD,zf func172⟩
 f28:=zf func173
 f29:=zf dh
 f46:=⟨Tryz.f203.name,dD,zf func203⟩
 f47:=zf func204
 f48:=zf func205
 f49:=⟨Tryz.f206.name,dD,zf func206⟩
 f50:=⟨Tryz.f207.name,dD,zf func207⟩
 f57:=⟨Tryz.f240.name,dD,zf func240⟩
 t0:=pK
 a0:=Aj
 z0:=xT
 v0:=rK
 t3:=dB
 a3:=jF
 z3:=gW
 v3:=gV
 t4:=eW
 a4:=lK
 z4:=jR
 v4:=gJ
 t5:=underlying5
 a5:=isAgg5
 z5:=sizeOf5
 v5:=zeroValue5
 t9:=jG
 a9:=qH
 z9:=oN
 v9:=mB
 t22:=jL
 a22:=Mq
 z22:=sizeOf68
 v22:=zeroValue68
 a24:=Yc
 z24:=Uk
 t25:=underlying87
 a25:=isAgg87
 z25:=sizeOf87
 v25:=zeroValue87
 t39:=underlying176
 a39:=isAgg176
 z39:=sizeOf176
 v39:=zeroValue176
 t45:=underlying239
 a45:=isAgg239
 z45:=sizeOf239
 v45:=zeroValue239
 t46:=underlying240
 a46:=isAgg240
 z46:=sizeOf240
 v46:=zeroValue240
 t50:=underlying179
 a50:=isAgg179
 z50:=sizeOf179
 v50:=zeroValue179
 t53:=underlying246
 a53:=isAgg246
 z53:=sizeOf246
 v53:=zeroValue246
 t55:=underlying248
 a55:=isAgg248
 z55:=sizeOf248
 v55:=zeroValue248
 t66:=underlying279
 a66:=isAgg279
 z66:=sizeOf279
 v66:=zeroValue279
 t70:=underlying283
 a70:=isAgg283
 z70:=sizeOf283
 v70:=zeroValue283
 t76:=underlying314
 a76:=isAgg314
 z76:=sizeOf314
 v76:=zeroValue314
 t77:=underlying142
 a77:=isAgg142
 z77:=sizeOf142
 v77:=zeroValue142}
open Go Go.RowKit Go.Lib Go.Sort Go.Shelf
abbrev Nm(s:List UInt8):Prop:=Sm s
structure rt where
 s:List UInt8
 ok:Nm s
instance:Inhabited rt:=⟨⟨aO 0,Sm.of (HB.zero.mono dD dD)⟩⟩
def Vu(x:rt):χ:=Δ (bs x.s)
def cfN(x y:rt):Int:=(fQ x.s y.s).1
theorem Sm.inj{s:List UInt8}(h:Sm s)(k:Sm t)(e:bZ s=bZ t):s=t:=by rw[<-h.eq,<-k.eq,e]
theorem aA5(x y):mT x y<0↔x<y:=by
 unfold mT;split
 .exact⟨fun _=>‹_›,fun _=>dD⟩
 .split
  .exact⟨fun h=>absurd h dD,fun h=>absurd h ‹_›⟩
  .exact⟨fun h=>absurd h dD,fun h=>absurd h ‹_›⟩
theorem Sm.lt{s:List UInt8}(h:Sm s)(k:Sm t):(fQ s t).1<0↔bZ s<bZ t:=by rw[h.cmp k];exact aA5 _ _
theorem ltN(x y):dm cfN x y=decide (bZ x.s<bZ y.s):=by
 unfold dm cfN;rw[decide_eq_decide];exact Sm.lt x.ok y.ok
theorem bn0:SWO (dm cfN):={
 irrefl x:=by rw[ltN];exact decide_eq_false (by grind)
 trans x y z h1 h2:=by rw[ltN,decide_eq_true_eq]at *;grind
 ntrans x y z h1 h2:=by rw[ltN,decide_eq_false_iff_not]at *;grind}
theorem bn1(x y)(h1:dm cfN x y=ν)(h2:dm cfN y x=ν):x=y:=by
 rw[ltN,decide_eq_false_iff_not]at h1 h2;have e:=x.ok.inj y.ok (by grind);obtain⟨a,ha⟩:=x;obtain⟨b,hb⟩:=y;have e:a=b:=e;subst e;rfl
theorem aA6(h:Bw w w')(hd:w.drawn<=w'.drawn):∃q os,w'=grow (w.drewN q) os:=by
 refine⟨w'.drawn-w.drawn,w'.heap.extract w.heap.size w'.heap.size,?_⟩;obtain⟨QN,bc1,Zk,os',aA7⟩:=w';have e1:os'=w.os:=h.os;have e2:bc1=w.tape:=h.tape;have e3:aA7=w.output:=h.output;have hs:w.heap.size<=QN.size:=h.size;have hb:∀k,k<w.heap.size->QN[k]? =w.heap[k]?:=h.block;have hd:w.drawn<=Zk:=hd;subst e1 e2 e3;have eh:QN=w.heap++QN.extract w.heap.size QN.size:=by
  apply Array.ext_getElem?;intro k;by_cases hk:k<w.heap.size
  .rw[Aq hk];exact hb k hk
  .rw[Array.getElem?_append_right oM,Array.getElem?_extract];by_cases hk2:k<QN.size
   .rw[ip oM];congr 1;omega
   .rw[iN oM,Du oM]
 rw[World.mk.injEq];exact⟨eh,rfl,by show Zk=w.drawn+(Zk-w.drawn);omega,rfl,rfl⟩
theorem Calls.grown{f:FuncId}{v:χ}(h:aE γ f args w (Rt (v) w)):aE γ f args w fun e w'=>e=σ v/\∃q os,w'=grow (w.drewN q) os:=
 (Vt h fun _ _ hR=>⟨_,hR.1⟩).mono fun _ _⟨⟨h1,h2⟩,h3⟩=>⟨h1,aA6 h2 h3⟩
theorem AI{α:Type}[Inhabited α](enc:α->χ)(w:η)(g off m:Nat)(d:Array α)(os:Array Obj):w.grownBy (KW enc w g off m d os) (ζ g):=by
 refine⟨rfl,rfl,rfl,?_,fun k hk hne=>?_⟩
 .show w.heap.size<=(JB w.heap g _++os).size;rw[lM,JC];omega
 .show(JB w.heap g _++os)[k]? =_;rw[Aq (by rw[JC];exact hk),D3,iN (fun e=>hne (by rw[e]))]
theorem QO[Inhabited α](enc:α->χ)(w cH g n cap m e)(d d':List α)(os)(ho:w.ownsRow cH e 1 (Θ (ζ ⟨g,0,δ⟩) n cap) n (d.map enc))(hl:d'.length=n):
 (KW enc w g 0 m d'.toArray os).ownsRow cH e 1 (Θ (ζ ⟨g,0,δ⟩) n cap) n (d'.map enc):=by
 obtain⟨h1,h2⟩:=ho;refine⟨by rw[υ];omega,.inr ?_⟩;rcases h2 with⟨h2,-⟩|⟨g',c',pZ,h2,h3,h4,h5,h6,h7,h8⟩
 .cases h2
 .cases h2;refine⟨g,cap,putCells enc 0 d'.toArray pZ,rfl,h3,?_,h5,h6,by unfold putCells;rw[Array.size_mapIdx];exact h7,?_⟩
  .show(JB w.heap g _++os)[g]? =_;have hg:g<w.heap.size:=(Array.getElem?_eq_some_iff.1 h4).1;rw[Aq (by rw[JC];exact hg),D3,ip rfl,h4];rfl
  .apply Mo;intro i;rw[kP,oP,Array.getElem?_toList];unfold putCells;rw[Array.getElem?_mapIdx];by_cases hi:i<n
   .have hc:i<pZ.size:=by rw[h7];omega
    rw[ip oM,Array.getElem?_eq_getElem hc,aS oM,yF,yF,ip ⟨aP _,by simp;omega⟩];have:i<d'.toArray.size:=by simp;omega
    rw[Nat.sub_zero,getElem!_pos d'.toArray i this];simp
   .rw[iN oM,nW oM];rfl
def leQ(x y:List UInt8):Bool:=decide (bZ x<=bZ y)
theorem ag5(ds:List rt):(ds.mergeSort fun x y=>!(dm cfN) y x).map rt.s=(ds.map rt.s).mergeSort leQ:=by
 have e:(fun x y:rt=>!(dm cfN) y x)=fun x y=>leQ x.s y.s:=by
  funext x y;rw[ltN];unfold leQ;by_cases h:bZ y.s<bZ x.s
  .rw[decide_eq_true h,decide_eq_false (by grind)];rfl
  .rw[decide_eq_false h,decide_eq_true (by grind)];rfl
 rw[e];exact List.map_mergeSort fun _ _ _ _=>rfl
theorem Vv(cf:Nat)(eg:∀args w,(nU cf args).run γ w=.ok (.enter cf args) w)(ru:∀(x y:List UInt8)(W:η),mV W->Sm x->Sm y->aE γ cf #[Δ (bs x),Δ (bs y)] W (Rt (Υ Ξ (fQ x y).1) W))
 (cH g n cap:Nat)(ds:List (List UInt8))(w0 w:η)(hE:mV w0)(hB:Bw w0 w)(hb:w0.heap.size<=cH)(hn:n<=1000000)(hl:ds.length=n)(hs:∀s∈ds,Nm s)
 (cT:w.ownsRow cH 29 1 (Θ (ζ ⟨g,0,δ⟩) n cap) n (dQ ds)):
 aE γ 64 #[Θ (ζ ⟨g,0,δ⟩) n cap,.func (.func cf) #[] #[]] w fun e w'=>(∃v,e=σ v)/\w'.ownsRow cH 29 1 (Θ (ζ ⟨g,0,δ⟩) n cap) n (dQ (ds.mergeSort leQ))/\w.grownBy w' (ζ g):=by
 obtain⟨dt,rfl⟩:∃dt:List rt,ds=dt.map rt.s:=⟨ds.attach.map fun x=>⟨x.1,hs x.1 x.2⟩,by rw[eH];exact(List.attach_map_subtype_val ds).symm⟩;obtain⟨hbg,aA2,hnc,-⟩:=mD cT;rw[υ]at hl;have bc2:∀l:List rt,dQ (l.map rt.s)=l.map Vu:=fun l=>by unfold dQ;rw[eH];rfl
 rw[bc2]at cT;have hH:Holds Vu w g 0 dt.toArray:=by
  intro j hj;have hj:j<dt.length:=by simpa using hj
  rw[bD];refine⟨?_,jB cT j⟩;rw[dN cT j oM];simp[hj]
 have aR9:CmpLays1 γ cf #[] Vu cfN g 0 dt.toArray.size w:=by
  intro m os dk hk x y;have hEW:mV (KW Vu w g 0 m dk os):=hE.below (dT (v:=Θ (ζ ⟨g,0,δ⟩) n cap) hB (AI Vu w g 0 m dk os) cT hb hB.size);exact Calls.grown (ru x.s y.s _ hEW x.ok y.ok)
 have H:=Any.slices_SortFunc_total Tryz.sortN Vu (fun _=>rfl) cfN bn0 cf #[] g 0 cap dt.toArray w eg aR9 hH aA2 (by simp;omega) bn1;have Dv:dt.toArray.size=n:=by simp[hl]
 rw[Dv]at H;refine H.mono ?_;rintro e w'⟨rfl,m,os,rfl⟩;refine⟨⟨_,rfl⟩,?_,AI Vu w g 0 m _ os⟩;rw[<-ag5,bc2];exact QO Vu w cH g n cap m _ dt _ os cT (by rw[xG];exact hl)
end
section
open Go Go.RowKit Go.Shelf Go.Lib
section
attribute[local go_sem] eQ
abbrev IR(up:Bool)(co dir:Int)(S T:ByteArray):Array χ:=#[ω up,Υ Ξ co,Υ Ξ dir,Δ S,Δ T]
theorem QP(f g):(jI f g).length<=5:=by
 unfold jI;by_cases a:f.vel≠0<;>by_cases b:g.vel≠0<;>by_cases c:f.vel≠g.vel<;>simp[a,b,c]
def xJ(f g:FQ)(k:Nat)(L:List Rat):Prop:=L.length<=k/\∀z,z∈L↔z∈(jI f g).take k/\kK f g z
theorem xJ.no{g:FQ}{L:List Rat}(h:xJ f g k L)(hk:k<(jI f g).length)(hn:¬kK f g ((jI f g).getD k 0)):xJ f g (k+1) L:=by
 refine⟨by have:=h.1;omega,fun z=>?_⟩;rw[h.2,bM hk,iV,dE];rw[show(jI f g).getD k 0=(jI f g)[k] by simp[Ω,hk]]at hn;constructor
 .rintro⟨a,b⟩;exact⟨.inl a,b⟩
 .rintro⟨a|rfl,b⟩
  .exact⟨a,b⟩
  .exact absurd b hn
theorem xJ.yes{g:FQ}{L:List Rat}(h:xJ f g k L)(hk:k<(jI f g).length)(hn:kK f g ((jI f g).getD k 0)):xJ f g (k+1) (L++[(jI f g).getD k 0]):=by
 refine⟨by rw[aJ];have:=h.1;simp;omega,fun z=>?_⟩;rw[bM hk,iV,iV,dE,dE,h.2];rw[show(jI f g).getD k 0=(jI f g)[k] by simp[Ω,hk]]at hn|-;constructor
 .rintro(⟨a,b⟩|rfl)
  .exact⟨.inl a,b⟩
  .exact⟨.inr rfl,hn⟩
 .rintro⟨a|rfl,b⟩
  .exact .inl ⟨a,b⟩
  .exact .inr rfl
theorem xJ.all{g:FQ}{L:List Rat}(h:xJ f g (jI f g).length L):∀z,z∈L↔kK f g z:=fun z=>by
 rw[h.2,List.take_length]
 exact⟨fun h=>h.2,fun h=>⟨JY h,h⟩⟩
theorem Vw(F G a1 a2 a3 a4 a5 b1 b2 b3 b4 b5)(hF:F= #[a1,a2,a3,a4,a5])(hG:G= #[b1,b2,b3,b4,b5])(w):
 aE γ 135 #[bQ F,bQ G] w fun e w'=>e=σ (.func (.func 187) #[] #[aB (ζ ⟨w.heap.size,0,δ⟩),aB (ζ ⟨w.heap.size+1,0,δ⟩)])/\w'=(w.alloc (π F 46)).alloc (π G 46):=by
 subst hF hG;go_enter func135,ntmps135;go_wp2;go_ret;exact⟨rfl,rfl⟩
theorem se{m:Nat}{o:eZ}{Q:sG->iS->η->Prop}(Io:o.guard=δ)(s x)(ho:o.op=.call {callee:=.builtin .append,args:=#[s,x],argTypes:=#[68,68]})(cH v n xs)(hs:a.eval s=v)(cT:w.ownsRow cH 29 1 v n xs)(y)(hx:a.eval x=Θ (ζ ⟨w.heap.size,0,δ⟩) 1 1)(OZ:n+1<=2147483648)(kH:cH<=w.heap.size)(h:∀g cap w',w'.ownsRow cH 29 1 (Θ (ζ ⟨g,0,δ⟩) (n+1) cap) (n+1) (xs++[Δ y])->cH<=g->w.grownBy w' v.ownBlock->
  wpListIn F m γ cF Q rest (a.put o.dst (Θ (ζ ⟨g,0,δ⟩) (n+1) cap)) w'):
 wpListIn F m γ cF Q (o::rest) a (w.alloc (π #[Δ y] 29)):=by
 obtain⟨i0,hi,Ak,yP,uT⟩:=jJ Eg;refine wpListIn_append_own _ Io s x 68 ho cH 29 i0 (Δ ⟨#[]⟩) 1 16 jL hi Ak yP uT rfl dD v n xs hs (cT.alloc _) ⟨w.heap.size,0,δ⟩ 1 1 [Δ y] hx rfl (JH w [Δ y] 29) (by simp[iP])
  (by simp only[yE];omega) oM (by simp;omega) ?_
 intro v' w' lH hg JJ;obtain⟨g',Ip,rfl⟩:=JI lH;exact h g' Ip w' lH (mD lH).1 (A5 (de w _ δ) hg)
theorem nD{p q:Tmp}(h:fn.results= #[.tmp p,.tmp q])(tmps w):(gP fn tmps).run γ w=.ok (bT #[tmps.getD p ψ,tmps.getD q ψ]) w:=by
 simp[gP,h,go_sem]
theorem si{g:FQ}(h:kK f g z):z∈jI f g:=JY h
theorem Zl{n:Nat}{a:Option bW}(h:w.ownsRow cH e size (Θ a n cap) k xs):(a=δ/\n=0/\cap=0)\/∃g,a=ζ ⟨g,0,δ⟩:=by
 rcases h.2 with⟨h1,_⟩|⟨g,c,pZ,hv,_⟩
 .cases h1;exact .inl ⟨rfl,rfl,rfl⟩
 .cases hv;exact .inr ⟨g,rfl⟩
theorem QQ{n:Nat}{v:χ}(h:w.ownsRow cH e size v n xs){o:Obj}(hj:v.ownBlock=ζ j)(ho:w.heap[j]? =ζ o):o.isCells=ι:=by
 rcases h.2 with⟨h1,_⟩|⟨g,c,pZ,hv,_,hg,_⟩
 .rw[h1]at hj;cases hj
 .rw[hv]at hj;simp only[iQ,vF]at hj;subst hj;rw[hg]at ho;cases ho;rfl
theorem Zm(w):aE γ 174 #[Υ .u64 0] w fun e w'=>(∃c:Int,e=σ (Υ Ξ c))/\w=w':=by
 go_enter dh,ntmps174;go_wp2;go_ret;exact⟨⟨_,rfl⟩,rfl⟩
theorem ag6(w):aE γ 116 #[Υ .u64 0] w fun e w'=>(∃c:Int,e=σ (Υ Ξ c))/\w=w':=by
 have H:=zq (Zm w);go_enter func116,ntmps116;go_wp2_with fail
 refine H.o.mono ?_;rintro e w'⟨⟨c,rfl⟩,rfl⟩;go_wp2;go_ret;exact⟨⟨_,rfl⟩,rfl⟩
theorem aA8(f w):aE γ 165 #[Θ δ 0 0,Υ Ξ 0,Υ Ξ 0,f] w fun e w'=>(∃v,e=σ v)/\w=w':=by
 go_enter func165,ntmps165;go_wp2;go_loop [8] (fun i=>i=Υ Ξ 1) (fun _=>0);case atStart=>rfl
 case round=>
  subst hrel;go_wp2;go_end0;exact⟨⟨_,rfl⟩,rfl⟩
theorem aA9(c f w):aE γ 115 #[Θ δ 0 0,Υ Ξ 0,Υ Ξ 0,Υ Ξ c,f] w fun e w'=>(∃v,e=σ v)/\w=w':=by
 have H:=zq (aA8 f w);go_enter func115,ntmps115;go_wp2;go_loop [1,2] (fun a b=>a=Υ Ξ 0/\b=Υ Ξ 0) (fun _ _=>0);case atStart=>exact⟨rfl,rfl⟩
 case round=>
  obtain⟨rfl,rfl⟩:=hrel;go_wp2_with fail
  refine H.o.mono ?_;rintro e w'⟨⟨v,rfl⟩,rfl⟩;go_wp2;refine cU (tW rfl _ _ _) rfl ?_;exact⟨⟨_,rfl⟩,rfl⟩
theorem ag7(w):aE γ 64 #[Θ δ 0 0,.func (.func 73) #[] #[]] w fun e w'=>(∃v,e=σ v)/\w=w':=by
 have H:=zq (fun c=>aA9 c (.func (.func 73) #[] #[]) w);have HL:=zq (ag6 w);go_enter func64,ntmps64;go_wp2_with fail
 refine HL.o.mono ?_;rintro e w'⟨⟨c,rfl⟩,rfl⟩;go_wp2_with fail
 refine(H.o _).mono ?_;rintro e w'⟨⟨v,rfl⟩,rfl⟩;go_wp2;go_end0;exact⟨⟨_,rfl⟩,rfl⟩
theorem Vx(w):aE γ 65 #[Θ δ 0 0] w fun e w'=>e=σ (Θ δ 0 0)/\w=w':=by
 go_enter func65,ntmps65;go_wp2;go_ret;exact⟨rfl,rfl⟩
def ii(O cH:Nat)(f g:FQ)(k:Nat)(W:η):Prop:=
 cH<=W.heap.size/\∃(a:Option bW)(n cap:Nat)(L:List Rat),bE W O #[Θ a n cap] 68/\W.ownsRow cH 29 1 (Θ a n cap) n (dQ (L.map aO))/\L.length=n/\xJ f g k L
theorem ii.own{g:FQ}{B:η}(h:ii O cH f g k A)(hg:A.grownBy B row)(hr:∀r,row=ζ r->∃o:Obj,A.heap[r]? =ζ o/\o.isCells=ν):ii O cH f g k B:=by
 obtain⟨h0,a,n,cap,L,h1,h2,h3,h4⟩:=h;exact⟨aA h0 hg.size,a,n,cap,L,h1.own hg hr,mE h2 hg hr,h3,h4⟩
theorem Lr(f g:FQ)(hf:f.Good)(hg:g.Good)(hup:f.up=g.up)(w:η)(hE:mV w):
 aE γ 87 #[f.fr.v,g.fr.v] w fun e w'=>(∃(a:Option bW)(n cap:Nat)(L:List Rat),e=σ (bT #[Θ a n cap,Υ Ξ 0])/\L.length=n/\n<=5/\Qy w' a (dQ (L.map aO))/\(∀z,z∈L↔kK f g z)/\(∀z∈L,DO z)/\∀p,a=ζ p->w.heap.size<=p.block)/\Bw w w':=by
 have HCf:=zq (fun(W:η)(h:Bw w W)=>BL f hf W (hE.below h))
 have HCg:=zq (fun(W:η)(h:Bw w W)=>BL g hg W (hE.below h))
 have HPf:=zq (fun(z:Rat)(hz:DO z)(W:η)(h:Bw w W)=>Ef f hf z hz W (hE.below h))
 have HPg:=zq (fun(z:Rat)(hz:DO z)(W:η)(h:Bw w W)=>Ef g hg z hz W (hE.below h))
 have HVf:=zq (fun(z:Rat)(hz:DO z)(W:η)(h:Bw w W)=>Gr f hf z hz W (hE.below h))
 have HVg:=zq (fun(z:Rat)(hz:DO z)(W:η)(h:Bw w W)=>Gr g hg z hz W (hE.below h))
 have Vy:=zq (fun(W:η)(h:Bw w W)=>hE.below h)
 have HHQ:=zq (QK hf hg)
 have Hf:=zq hf
 have Hg:=zq hg
 have evf:f.fr.v=bQ (IR f.up f.co f.dir (bs (aO f.v)) (bs (aO f.t))):=rfl
 have evg:g.fr.v=bQ (IR g.up g.co g.dir (bs (aO g.v)) (bs (aO g.t))):=rfl
 rw[evf]at HCf HPf HVf|-
 rw[evg,<-hup]at HCg HPg HVg|-
 have fL:Bw w ((w.alloc (π (IR f.up f.co f.dir (bs (aO f.v)) (bs (aO f.t))) 46)).alloc (π (IR f.up g.co g.dir (bs (aO g.v)) (bs (aO g.t))) 46)):=(nA w _).alloc sP _
 have q1:bE ((w.alloc (π (IR f.up f.co f.dir (bs (aO f.v)) (bs (aO f.t))) 46)).alloc (π (IR f.up g.co g.dir (bs (aO g.v)) (bs (aO g.t))) 46)) w.heap.size (IR f.up f.co f.dir (bs (aO f.v)) (bs (aO f.t))) 46:=(bE.new w _ _).alloc _
 have q2:bE ((w.alloc (π (IR f.up f.co f.dir (bs (aO f.v)) (bs (aO f.t))) 46)).alloc (π (IR f.up g.co g.dir (bs (aO g.v)) (bs (aO g.t))) 46)) (w.heap.size+1) (IR f.up g.co g.dir (bs (aO g.v)) (bs (aO g.t))) 46:=by
  have:=bE.new (w.alloc (π (IR f.up f.co f.dir (bs (aO f.v)) (bs (aO f.t))) 46)) (IR f.up g.co g.dir (bs (aO g.v)) (bs (aO g.t))) 46
  rwa[aL]at this
 have HM1:aQ (∀W,bE W w.heap.size (IR f.up f.co f.dir (bs (aO f.v)) (bs (aO f.t))) 46->bE W w.heap.size f.fr.cells 46):=fun W h=>h
 have bn2:g.up=f.up:=hup.symm
 have HMS:aQ (∀B1 B2 W,Bw w W->B1<W.heap.size->B2<W.heap.size->bE W B1 (IR f.up f.co f.dir (bs (aO f.v)) (bs (aO f.t))) 46->bE W B2 (IR f.up g.co g.dir (bs (aO g.v)) (bs (aO g.t))) 46->
  UM eD 8 γ 187 #[aB (ζ ⟨B1,0,δ⟩),aB (ζ ⟨B2,0,δ⟩)] (fun k=>#[Δ (bs (aO (Nr f g k)))]) (nR w.heap.size B1 B2) (jI f g).length W):=fun B1 B2 W h h1 h2 k1 k2=>
  af7 B1 B2 w.heap.size f g hf hg W h.size h1 h2 (fun V hV=>hE.below (h.trans hV)) k1 (by rw[hup]at k2;exact k2)
 clear evf evg hf hg hE hup bn2 HM1
 unfold IR at *
 generalize f.up=up at *
 generalize bs (aO f.v)=S1 at *
 generalize bs (aO f.t)=T1 at *
 generalize bs (aO g.v)=S2 at *
 generalize bs (aO g.t)=T2 at *
 refine eE func87 rfl ?_
 simp only[ntmps87,bI,aC,bB,cL,dF,bG,bH,cE,bN,cM,bV]
 go_wp2_with fail
 refine(HCf.o _ fL).mono ?_
 rintro e W1⟨rfl,hb1⟩
 have Ig:=cD fL hb1 fL.size
 have q1:=q1.below hb1 q1.lt
 have q2:=q2.below hb1 q2.lt
 clear hb1 fL
 obtain⟨d0,d1,d2,d3,d4⟩:=q2.front
 have l2:=q2.lt
 go_wp2_with fail
 refine(HCg.o _ Ig).mono ?_
 rintro e W2⟨rfl,hb2⟩
 have mQ:=cD Ig hb2 Ig.size
 have q1:=q1.below hb2 q1.lt
 have q2:=q2.below hb2 q2.lt
 clear hb2 Ig d0 d1 d2 d3 d4 l2
 obtain⟨c0,c1,c2,c3,c4⟩:=q1.front
 obtain⟨d0,d1,d2,d3,d4⟩:=q2.front
 have l1:=q1.lt
 have l2:=q2.lt
 have Q1:=zq q1
 have Q2:=zq q2
 have eU:=zq mQ
 clear q1 q2 mQ
 go_wp2_with fail
 refine(Vw _ _ _ _ _ _ _ _ _ _ _ _ rfl rfl _).mono ?_
 rintro e w'⟨rfl,rfl⟩
 go_wp2_with fail
 obtain⟨W0,fI⟩:=nm (((W2.alloc (π #[Θ δ 0 0] 68)).alloc (π #[ω up,Υ Ξ f.co,Υ Ξ f.dir,Δ S1,Δ T1] 46)).alloc (π #[ω up,Υ Ξ g.co,Υ Ξ g.dir,Δ S2,Δ T2] 46))
 have F0:bE W0 w.heap.size #[ω up,Υ Ξ f.co,Υ Ξ f.dir,Δ S1,Δ T1] 46:=by rw[<-fI];exact((Q1.o.alloc _).alloc _).alloc _
 have G0:bE W0 (w.heap.size+1) #[ω up,Υ Ξ g.co,Υ Ξ g.dir,Δ S2,Δ T2] 46:=by rw[<-fI];exact((Q2.o.alloc _).alloc _).alloc _
 have O0:bE W0 W2.heap.size #[Θ δ 0 0] 68:=by rw[<-fI];exact((bE.new W2 _ _).alloc _).alloc _
 have M1:bE W0 (W2.heap.size+1) #[ω up,Υ Ξ f.co,Υ Ξ f.dir,Δ S1,Δ T1] 46:=by
  rw[<-fI]
  have:=(bE.new (W2.alloc (π #[Θ δ 0 0] 68)) #[ω up,Υ Ξ f.co,Υ Ξ f.dir,Δ S1,Δ T1] 46).alloc (π #[ω up,Υ Ξ g.co,Υ Ξ g.dir,Δ S2,Δ T2] 46)
  rwa[aL]at this
 have M2:bE W0 (W2.heap.size+1+1) #[ω up,Υ Ξ g.co,Υ Ξ g.dir,Δ S2,Δ T2] 46:=by
  rw[<-fI]
  have:=bE.new ((W2.alloc (π #[Θ δ 0 0] 68)).alloc (π #[ω up,Υ Ξ f.co,Υ Ξ f.dir,Δ S1,Δ T1] 46)) #[ω up,Υ Ξ g.co,Υ Ξ g.dir,Δ S2,Δ T2] 46
  rwa[aL,aL]at this
 have hs0:W0.heap.size=W2.heap.size+3:=by rw[<-fI];simp
 have fL:Bw w W0:=by rw[<-fI];exact((eU.o.alloc eU.o.size _).alloc (by simp;omega) _).alloc (by simp;omega) _
 rw[fI]
 clear fI Q1 Q2 eU c0 c1 c2 c3 c4 d0 d1 d2 d3 d4 l1
 have J7:w.heap.size+1<W2.heap.size:=l2
 clear l2
 generalize W2.heap.size=O at *
 have bu5:O+3<=W0.heap.size:=oM
 clear hs0
 refine YT (gf:=187) (lb:=#[aB (ζ ⟨O+1,0,δ⟩),aB (ζ ⟨O+1+1,0,δ⟩)]) rfl (iC func187 kF rfl)
  (HMS.o (O+1) (O+1+1) W0 fL oM oM M1 M2)
  nR.trans (fun W l o o' hl h ho _=>⟨lQ oM h,fun k hk=>cZ (by rcases hk with rfl|rfl<;>omega)⟩) (fun _=>rfl)
  (fun k W=>(ii O W0.heap.size f g k W/\bE W w.heap.size #[ω up,Υ Ξ f.co,Υ Ξ f.dir,Δ S1,Δ T1] 46/\bE W (w.heap.size+1) #[ω up,Υ Ξ g.co,Υ Ξ g.dir,Δ S2,Δ T2] 46)/\Bw w W)
  (fun _ _ _=>False)
  (eJ (Own.from (fun s A B row hs hg hr=>⟨hs.1.own hg hr,hs.2.1.own hg hr,hs.2.2.own hg hr⟩) _) (ownFrom_below (θ _) oM))
  (fun c s A B row hs _ _=>hs)
  ⟨⟨⟨θ _,δ,0,0,[],O0,⟨rfl,.inl ⟨rfl,rfl⟩⟩,rfl,θ _,fun z=>sP⟩,F0,G0⟩,fL⟩
  ?frm ?assign ?body ?done ?stop
 case assign=>
  intro l k W K hK
  gi_wp2
  exact hK
 case body=>
  rintro l k W hk⟨⟨hI,b1,b2⟩,hB⟩
  have hz:=HHQ.o _ (aN hk 0)
  have HNo:aQ (∀L,xJ f g k L->¬kK f g ((jI f g).getD k 0)->xJ f g (k+1) L):=fun L h hn=>h.no hk hn
  have aS0:aQ (∀L,xJ f g k L->kK f g ((jI f g).getD k 0)->xJ f g (k+1) (L++[(jI f g).getD k 0])):=fun L h hn=>h.yes hk hn
  have hk5:k<5:=cN hk (QP f g)
  have HNo:aQ (∀L,xJ f g k L->¬kK f g (Nr f g k)->xJ f g (k+1) L):=HNo
  have aS0:aQ (∀L,xJ f g k L->kK f g (Nr f g k)->xJ f g (k+1) (L++[Nr f g k])):=aS0
  have hz:DO (Nr f g k):=hz
  generalize Nr f g k=z at *
  have HP1:=zq (HPf.o z hz)
  have HP2:=zq (HPg.o z hz)
  have QL:=zq (HVf.o z hz)
  have Px:=zq (HVg.o z hz)
  have HMt:aQ (kK f g z↔f.pos z=g.pos z/\(f.low z≠g.low z\/f.high z≠g.high z)):=Iff.rfl
  have e1:=zq (Vm (f.pos z) (g.pos z))
  have e2:=zq (Vm (f.low z) (g.low z))
  have e3:=zq (Vm (f.high z) (g.high z))
  obtain⟨ZT,hZT⟩:=nm (bs (aO z))
  rw[hZT]at HP1 HP2 QL Px
  rw[hZT]
  have HZT:=zq hZT
  clear hZT HPf HPg HVf HVg hz HHQ hk
  generalize bs (aO (f.pos z))=PF at *
  generalize bs (aO (g.pos z))=PG at *
  generalize bs (aO (f.low z))=LF at *
  generalize bs (aO (g.low z))=LG at *
  generalize bs (aO (f.high z))=UF at *
  generalize bs (aO (g.high z))=UG at *
  have B1:=zq b1
  have B2:=zq b2
  have HB:=zq hB
  have HI:=zq hI
  clear b1 b2 hB hI F0 G0 O0 M1 M2
  obtain⟨c0,c1,c2,c3,c4⟩:=B1.o.front
  have l1:=B1.o.lt
  gi_wp2_with fail
  refine⟨trivial,(Calls.round (QL.o _ HB.o) _ _).mono ?_⟩
  rintro e W1⟨rfl,hb1⟩
  have eG:=HB.bS hb1
  have Uw:=zq hb1
  have B1a:=B1.bb hb1
  have B2a:=B2.bb hb1
  clear c0 c1 c2 c3 c4 l1 hb1 QL
  obtain⟨c0,c1,c2,c3,c4⟩:=B2a.o.front
  have l1:=B2a.o.lt
  gi_wp2_with fail
  refine⟨trivial,(Calls.round (Px.o _ eG.o) _ _).mono ?_⟩
  rintro e W2⟨rfl,hb2⟩
  have eU:=eG.bS hb2
  have PA:=Uw.bS hb2
  have B1b:=B1a.bb hb2
  have B2b:=B2a.bb hb2
  clear c0 c1 c2 c3 c4 l1 hb2 Px eG Uw B1a B2a
  obtain⟨c0,c1,c2,c3,c4⟩:=B1b.o.front
  obtain⟨d0,d1,d2,d3,d4⟩:=B2b.o.front
  have l1:=B1b.o.lt
  have l2:=B2b.o.lt
  gi_wp2
  gi_cut [57]from 29 (fun v V=>(∃r:Bool,v=ω r/\aQ (r=ι↔kK f g z))/\aQ (Bw W2 V))
  case first =>
   by_cases g1:f.pos z=g.pos z
   case neg=>
    have Zh:(PF.toList==PG.toList)=ν:=by rw[e1.o];exact decide_eq_false g1
    have R:aQ (¬kK f g z):=fun h=>g1 (HMt.o.1 h).1
    clear g1
    refine uO (S:=(fun w'=>(w'.cell? ⟨w.heap.size,0,δ⟩=ζ (ω up)/\w'.cell? ⟨w.heap.size,1,δ⟩=ζ (Υ Ξ f.co)/\w'.cell? ⟨w.heap.size,2,δ⟩=ζ (Υ Ξ f.dir)/\w'.cell? ⟨w.heap.size,3,δ⟩=ζ (Δ S1)/\w'.cell? ⟨w.heap.size,4,δ⟩=ζ (Δ T1))/\(w'.cell? ⟨w.heap.size+1,0,δ⟩=ζ (ω up)/\w'.cell? ⟨w.heap.size+1,1,δ⟩=ζ (Υ Ξ g.co)/\w'.cell? ⟨w.heap.size+1,2,δ⟩=ζ (Υ Ξ g.dir)/\w'.cell? ⟨w.heap.size+1,3,δ⟩=ζ (Δ S2)/\w'.cell? ⟨w.heap.size+1,4,δ⟩=ζ (Δ T2)))) kF kF ?_ (fun iW=>?_)
    . (try dsimp only);go_keep
    refine tH 0 rfl ?_
    refine tH 1 rfl ?_
    refine tH 3 rfl ?_
    refine tH 4 rfl ?_
    try simp only[oQ,fH,eR,eS,aX,bU,cR]
    refine eM (rs:=[2]) kF sP ?_
    refine cP rfl (fun K hK=>?_) dH
    go_simp
    (with_reducible refine(HP1.o _ eU.o.drew).mono ?_)
    rintro e v1⟨rfl,Ei⟩
    have QL:=zq (aW (μ _ W2).drew Ei)
    have:=ck Ei w.heap.size 0 (ω up);have:=ck Ei w.heap.size 1 (Υ Ξ f.co);have:=ck Ei w.heap.size 2 (Υ Ξ f.dir);have:=ck Ei w.heap.size 3 (Δ S1);have:=ck Ei w.heap.size 4 (Δ T1);have:=ck Ei (w.heap.size+1) 0 (ω up);have:=ck Ei (w.heap.size+1) 1 (Υ Ξ g.co);have:=ck Ei (w.heap.size+1) 2 (Υ Ξ g.dir);have:=ck Ei (w.heap.size+1) 3 (Δ S2);have:=ck Ei (w.heap.size+1) 4 (Δ T2)
    show K _ _
    refine hK.o _ _ ?_ (fun iW=>?_)
    . (try dsimp only);go_keep
    clear hK K
    try simp only[oQ,fH,eR,eS,aX,bU,cR]
    refine eM (rs:=[5]) kF sP ?_
    refine cP rfl (fun K hK=>?_) dH
    go_simp
    (with_reducible refine(HP2.o _ (aW eU.o QL.o)).mono ?_)
    rintro e v2⟨rfl,Ej⟩
    have Px:=QL.bS Ej
    have:=ck Ej w.heap.size 0 (ω up);have:=ck Ej w.heap.size 1 (Υ Ξ f.co);have:=ck Ej w.heap.size 2 (Υ Ξ f.dir);have:=ck Ej w.heap.size 3 (Δ S1);have:=ck Ej w.heap.size 4 (Δ T1);have:=ck Ej (w.heap.size+1) 0 (ω up);have:=ck Ej (w.heap.size+1) 1 (Υ Ξ g.co);have:=ck Ej (w.heap.size+1) 2 (Υ Ξ g.dir);have:=ck Ej (w.heap.size+1) 3 (Δ S2);have:=ck Ej (w.heap.size+1) 4 (Δ T2)
    show K _ _
    refine hK.o _ _ ?_ (fun iW=>?_)
    . (try dsimp only);go_keep
    clear hK K
    refine tH 6 rfl ?_
    refine tH 7 rfl ?_
    refine sH 8 rfl ?_
    refine sH 9 rfl ?_
    refine sH 10 rfl ?_
    refine sH 11 rfl ?_
    refine sH 12 rfl ?_
    refine sH 13 rfl ?_
    refine sH 14 rfl ?_
    refine sH 15 rfl ?_
    refine tH 16 rfl ?_
    try simp only[oQ,fH,eR,eS,aX,bU,cR]
    refine wR kF ?_ _
    refine jH.normal ?_
    gi_wp2
    gi_meet
    case rel=>exact⟨⟨ν,rfl,⟨fun h=>(by cases h),fun h=>absurd h R.o⟩⟩,Px.o⟩
   have Zh:(PF.toList==PG.toList)=ι:=by rw[e1.o];exact decide_eq_true g1
   by_cases g2:f.low z=g.low z
   case neg=>
    have bn3:(LF.toList==LG.toList)=ν:=by rw[e2.o];exact decide_eq_false g2
    have R:aQ (kK f g z):=HMt.o.2 ⟨g1,.inl g2⟩
    clear g1 g2
    refine uO (S:=(fun w'=>(w'.cell? ⟨w.heap.size,0,δ⟩=ζ (ω up)/\w'.cell? ⟨w.heap.size,1,δ⟩=ζ (Υ Ξ f.co)/\w'.cell? ⟨w.heap.size,2,δ⟩=ζ (Υ Ξ f.dir)/\w'.cell? ⟨w.heap.size,3,δ⟩=ζ (Δ S1)/\w'.cell? ⟨w.heap.size,4,δ⟩=ζ (Δ T1))/\(w'.cell? ⟨w.heap.size+1,0,δ⟩=ζ (ω up)/\w'.cell? ⟨w.heap.size+1,1,δ⟩=ζ (Υ Ξ g.co)/\w'.cell? ⟨w.heap.size+1,2,δ⟩=ζ (Υ Ξ g.dir)/\w'.cell? ⟨w.heap.size+1,3,δ⟩=ζ (Δ S2)/\w'.cell? ⟨w.heap.size+1,4,δ⟩=ζ (Δ T2)))) kF kF ?_ (fun iW=>?_)
    . (try dsimp only);go_keep
    refine tH 0 rfl ?_
    refine tH 1 rfl ?_
    refine tH 3 rfl ?_
    refine tH 4 rfl ?_
    try simp only[oQ,fH,eR,eS,aX,bU,cR]
    refine eM (rs:=[2]) kF sP ?_
    refine cP rfl (fun K hK=>?_) dH
    go_simp
    (with_reducible refine(HP1.o _ eU.o.drew).mono ?_)
    rintro e v1⟨rfl,Ei⟩
    have QL:=zq (aW (μ _ W2).drew Ei)
    have:=ck Ei w.heap.size 0 (ω up);have:=ck Ei w.heap.size 1 (Υ Ξ f.co);have:=ck Ei w.heap.size 2 (Υ Ξ f.dir);have:=ck Ei w.heap.size 3 (Δ S1);have:=ck Ei w.heap.size 4 (Δ T1);have:=ck Ei (w.heap.size+1) 0 (ω up);have:=ck Ei (w.heap.size+1) 1 (Υ Ξ g.co);have:=ck Ei (w.heap.size+1) 2 (Υ Ξ g.dir);have:=ck Ei (w.heap.size+1) 3 (Δ S2);have:=ck Ei (w.heap.size+1) 4 (Δ T2)
    show K _ _
    refine hK.o _ _ ?_ (fun iW=>?_)
    . (try dsimp only);go_keep
    clear hK K
    try simp only[oQ,fH,eR,eS,aX,bU,cR]
    refine eM (rs:=[5]) kF sP ?_
    refine cP rfl (fun K hK=>?_) dH
    go_simp
    (with_reducible refine(HP2.o _ (aW eU.o QL.o)).mono ?_)
    rintro e v2⟨rfl,Ej⟩
    have Px:=QL.bS Ej
    have:=ck Ej w.heap.size 0 (ω up);have:=ck Ej w.heap.size 1 (Υ Ξ f.co);have:=ck Ej w.heap.size 2 (Υ Ξ f.dir);have:=ck Ej w.heap.size 3 (Δ S1);have:=ck Ej w.heap.size 4 (Δ T1);have:=ck Ej (w.heap.size+1) 0 (ω up);have:=ck Ej (w.heap.size+1) 1 (Υ Ξ g.co);have:=ck Ej (w.heap.size+1) 2 (Υ Ξ g.dir);have:=ck Ej (w.heap.size+1) 3 (Δ S2);have:=ck Ej (w.heap.size+1) 4 (Δ T2)
    show K _ _
    refine hK.o _ _ ?_ (fun iW=>?_)
    . (try dsimp only);go_keep
    clear hK K
    refine tH 6 rfl ?_
    refine tH 7 rfl ?_
    refine tH 8 rfl ?_
    refine tH 9 rfl ?_
    refine tH 10 rfl ?_
    refine tH 11 rfl ?_
    refine sH 12 rfl ?_
    refine sH 13 rfl ?_
    refine sH 14 rfl ?_
    refine tH 15 rfl ?_
    refine tH 16 rfl ?_
    try simp only[oQ,fH,eR,eS,aX,bU,cR]
    refine wR kF ?_ _
    refine jH.normal ?_
    gi_wp2
    gi_meet
    case rel=>exact⟨⟨ι,rfl,⟨fun _=>R.o,fun _=>rfl⟩⟩,Px.o⟩
   have bn3:(LF.toList==LG.toList)=ι:=by rw[e2.o];exact decide_eq_true g2
   have R:aQ ((!decide (f.high z=g.high z))=ι↔kK f g z):=by
    show _↔_
    rw[HMt.o,bX,decide_eq_false_iff_not]
    exact⟨fun h=>⟨g1,.inr h⟩,fun h=>h.2.resolve_left (fun k=>k g2)⟩
   have bn4:=e3.o
   obtain⟨r3,hr3⟩:=nm (decide (f.high z=g.high z))
   rw[hr3]at R bn4
   clear g1 g2 hr3
   refine uO (S:=(fun w'=>(w'.cell? ⟨w.heap.size,0,δ⟩=ζ (ω up)/\w'.cell? ⟨w.heap.size,1,δ⟩=ζ (Υ Ξ f.co)/\w'.cell? ⟨w.heap.size,2,δ⟩=ζ (Υ Ξ f.dir)/\w'.cell? ⟨w.heap.size,3,δ⟩=ζ (Δ S1)/\w'.cell? ⟨w.heap.size,4,δ⟩=ζ (Δ T1))/\(w'.cell? ⟨w.heap.size+1,0,δ⟩=ζ (ω up)/\w'.cell? ⟨w.heap.size+1,1,δ⟩=ζ (Υ Ξ g.co)/\w'.cell? ⟨w.heap.size+1,2,δ⟩=ζ (Υ Ξ g.dir)/\w'.cell? ⟨w.heap.size+1,3,δ⟩=ζ (Δ S2)/\w'.cell? ⟨w.heap.size+1,4,δ⟩=ζ (Δ T2)))) kF kF ?_ (fun iW=>?_)
   . (try dsimp only);go_keep
   refine tH 0 rfl ?_
   refine tH 1 rfl ?_
   refine tH 3 rfl ?_
   refine tH 4 rfl ?_
   try simp only[oQ,fH,eR,eS,aX,bU,cR]
   refine eM (rs:=[2]) kF sP ?_
   refine cP rfl (fun K hK=>?_) dH
   go_simp
   (with_reducible refine(HP1.o _ eU.o.drew).mono ?_)
   rintro e v1⟨rfl,Ei⟩
   have QL:=zq (aW (μ _ W2).drew Ei)
   have:=ck Ei w.heap.size 0 (ω up);have:=ck Ei w.heap.size 1 (Υ Ξ f.co);have:=ck Ei w.heap.size 2 (Υ Ξ f.dir);have:=ck Ei w.heap.size 3 (Δ S1);have:=ck Ei w.heap.size 4 (Δ T1);have:=ck Ei (w.heap.size+1) 0 (ω up);have:=ck Ei (w.heap.size+1) 1 (Υ Ξ g.co);have:=ck Ei (w.heap.size+1) 2 (Υ Ξ g.dir);have:=ck Ei (w.heap.size+1) 3 (Δ S2);have:=ck Ei (w.heap.size+1) 4 (Δ T2)
   show K _ _
   refine hK.o _ _ ?_ (fun iW=>?_)
   . (try dsimp only);go_keep
   clear hK K
   try simp only[oQ,fH,eR,eS,aX,bU,cR]
   refine eM (rs:=[5]) kF sP ?_
   refine cP rfl (fun K hK=>?_) dH
   go_simp
   (with_reducible refine(HP2.o _ (aW eU.o QL.o)).mono ?_)
   rintro e v2⟨rfl,Ej⟩
   have Px:=QL.bS Ej
   have:=ck Ej w.heap.size 0 (ω up);have:=ck Ej w.heap.size 1 (Υ Ξ f.co);have:=ck Ej w.heap.size 2 (Υ Ξ f.dir);have:=ck Ej w.heap.size 3 (Δ S1);have:=ck Ej w.heap.size 4 (Δ T1);have:=ck Ej (w.heap.size+1) 0 (ω up);have:=ck Ej (w.heap.size+1) 1 (Υ Ξ g.co);have:=ck Ej (w.heap.size+1) 2 (Υ Ξ g.dir);have:=ck Ej (w.heap.size+1) 3 (Δ S2);have:=ck Ej (w.heap.size+1) 4 (Δ T2)
   show K _ _
   refine hK.o _ _ ?_ (fun iW=>?_)
   . (try dsimp only);go_keep
   clear hK K
   refine tH 6 rfl ?_
   refine tH 7 rfl ?_
   refine tH 8 rfl ?_
   refine tH 9 rfl ?_
   refine tH 10 rfl ?_
   refine tH 11 rfl ?_
   refine tH 12 rfl ?_
   refine tH 13 rfl ?_
   refine tH 14 rfl ?_
   refine tH 15 rfl ?_
   refine tH 16 rfl ?_
   try simp only[oQ,fH,eR,eS,aX,bU,cR]
   refine wR kF ?_ _
   refine jH.normal ?_
   gi_wp2
   gi_meet
   case rel=>exact⟨⟨_,by rfl,R.o⟩,Px.o⟩
  case rest=>
  obtain⟨⟨r,rfl,HR⟩,HB3⟩:=hcut
  rename η=>W3
  have Ln:=zq (aW eU.o HB3.o)
  have HAx:=zq (aW PA.o HB3.o)
  have B1c:=zq (B1b.o.below HB3.o B1b.o.lt)
  have B2c:=zq (B2b.o.below HB3.o B2b.o.lt)
  clear c0 c1 c2 c3 c4 d0 d1 d2 d3 d4 l1 l2 e1 e2 e3 HMt HP1 HP2 eU PA HB3 B1b B2b
  obtain⟨Dv,a,n,cap,L,i1,i2,i3,i4⟩:=HI.o
  have bu6:O+3<=W.heap.size:=oM
  have aS1:W0.heap.size<=W3.heap.size:=aA Dv HAx.o.size
  have O3:=zq (i1.below HAx.o i1.lt)
  have R3:=zq (aR i2 HAx.o)
  have hn5:n<=5:=by rw[<-i3];exact aA i4.1 oM
  have HL:=zq i3
  cases r with
  |false=>
   have hF:=zq (HNo.o L i4 (fun h=>(by have:=HR.o.2 h;cases this)))
   clear i1 i2 i3 i4
   gi_wp2
   exact⟨(gC HAx.o).from _,nR.call HAx.o HB.o.size oM oM,⟨⟨aS1,a,n,cap,L,O3.o,R3.o,HL.o,hF.o⟩,B1c.o,B2c.o⟩,Ln.o⟩
  |true=>
   have hF:=zq (aS0.o L i4 (HR.o.1 rfl))
   have cT:=i2
   clear i1 i2 i3 i4
   have cT:=R3.o
   have k0:W3.cell? ⟨O,0,δ⟩=ζ (Θ a n cap):=O3.o.cell 0
   have f0:=O3.o.fz 0
   have lO:=O3.o.lt
   have Jt:w.heap.size+1<W0.heap.size:=oM
   have hbO:O+1+1<W0.heap.size:=oM
   have yB:∀j,j<W0.heap.size->(Θ a n cap).ownBlock≠ζ j:=fun j hj e=>by have:=(cT.lt j e).1;omega
   have bc3:=zq (yB O oM)
   gi_wp2_with (gi_at_builtin;refine se rfl _ _ rfl W0.heap.size (Θ a n cap) n _ rfl cT ZT rfl oM aS1 ?_;intro g5 Tj w5 lJ sj sT;have O5:=zq (show bE w5 O #[Θ a n cap] 68 from(sT.block O lO (fun e=>bc3.o e.symm)).trans O3.o);have k5:w5.cell? ⟨O,0,δ⟩=ζ (Θ a n cap):=O5.o.cell 0;have f5:=O5.o.fz 0)
   have F5:=zq (show bE w5 w.heap.size #[ω up,Υ Ξ f.co,Υ Ξ f.dir,Δ S1,Δ T1] 46 from(sT.block _ B1c.o.lt (fun e=>yB _ oM e.symm)).trans B1c.o)
   have G5:=zq (show bE w5 (w.heap.size+1) #[ω up,Υ Ξ g.co,Υ Ξ g.dir,Δ S2,Δ T2] 46 from(sT.block _ B2c.o.lt (fun e=>yB _ oM e.symm)).trans B2c.o)
   have BW5:=zq (dT Ln.o sT cT oM Ln.o.size)
   have BA5:=zq (dT (HAx.o.mono HB.o.size) sT cT oM Ln.o.size)
   have KO5:=zq ((gC HAx.o).trans (FN sT (fun j o hj ho=>QQ cT hj ho)))
   have SA5:=zq (show eK (fun k=>k=O+1\/k=O+1+1) W w5 from eK.trans (eK.below HAx.o (by rintro k (rfl|rfl)<;>omega)) (fun k hk=>sT.block k (by rcases hk with rfl|rfl<;>omega) (fun e=>yB k (by rcases hk with rfl|rfl<;>omega) e.symm)))
   have S5:=zq sT.size
   have bn5:O≠g5:=oM
   have e5:dQ (L.map aO)++[Δ ZT]=dQ ((L++[z]).map aO):=by rw[<-HZT.o];simp[dQ]
   rw[e5]at lJ
   have bc4:=zq lJ
   exact⟨(KO5.o.trans (dA _ _ _)).from _,⟨BA5.o.setCell (by show w.heap.size<=O;omega) _,SA5.o.trans (eK.setCell (by rintro k (rfl|rfl)<;>(show _≠O;omega)) _)⟩,
    ⟨⟨aA aS1 (aA S5.o sP),_,n+1,Tj,L++[z],O5.o.set 0 _,bc4.o.kept (grownBy_setCell' _ _ _) (.inr (show ζ g5≠ζ O from fun e=>bn5 (dZ e).symm)),by rw[aJ,HL.o];rfl,hF.o⟩,
     F5.o.other _ (by show w.heap.size≠O;omega),G5.o.other _ (by show w.heap.size+1≠O;omega)⟩,BW5.o.setCell (by show w.heap.size<=O;omega) _⟩
 case done=>
  rintro D W hD⟨⟨hI,b1,b2⟩,hB⟩hK
  obtain⟨Dv,a,n,cap,L,i1,i2,i3,i4⟩:=hI
  have hn5:n<=5:=by rw[<-i3];exact aA i4.1 (QP f g)
  have mG:=zq i4.all
  have HHq:=zq (fun z(h:z∈L)=>HHQ.o z (si (mG.o z|>.1 h)))
  have O1:=zq i1
  have R1:=zq i2
  have HL:=zq i3
  have HB:=zq hB
  have HK:=zq hK
  have k0:W.cell? ⟨O,0,δ⟩=ζ (Θ a n cap):=O1.o.cell 0
  have hO:=O1.o.lt
  have kH:w.heap.size<=W0.heap.size:=fL.size
  have yB:∀j,j<W0.heap.size->(Θ a n cap).ownBlock≠ζ j:=fun j hj e=>by have:=(i2.lt j e).1;omega
  clear i1 i2 i3 i4 hB hK b1 b2 F0 G0 O0 M1 M2 HPf HPg HVf HVg
  rcases Zl R1.o with⟨rfl,rfl,rfl⟩|⟨gq,rfl⟩
  .have HS:=zq (ag7 W)
   have HC:=zq (Vx W)
   go_wp2_with fail
   refine HS.o.mono ?_
   rintro e w'⟨⟨v,rfl⟩,rfl⟩
   go_wp2_with fail
   refine HC.o.mono ?_
   rintro e w'⟨rfl,rfl⟩
   go_wp2
   have hL0:L=[]:=List.length_eq_zero_iff.1 HL.o
   refine⟨sP,.inl ⟨_,_,rfl,iD HK.o,?_⟩⟩
   refine⟨_,nD Tryz.results87 _ _,?_⟩
   exact⟨⟨δ,0,0,[],rfl,rfl,dD,fun i hi=>absurd hi (by simp[dQ]),fun z=>by rw[<-mG.o z,hL0],fun z h=>absurd h sP,fun p e=>by cases e⟩,HB.o.trans (lQ (aA kH hD) HK.o)⟩
  .have hgq:W0.heap.size<=gq:=by
    rcases fO gq W0.heap.size with h|h
    .exact absurd rfl (yB gq h)
    .exact h
   have hDg:D≠gq:=fun e=>by
    have:=QQ R1.o (j:=gq) rfl (by rw[<-e];exact HK.o)
    cases this
   have HS:=zq (Vv 73 (iC func73 kF rfl) (fun x y W hE hx hy=>by
    have:=CU _ _ W hE (hx.cr hy)
    rwa[hx.eq,hy.eq,show mT (bZ x) (bZ y)=(fQ x y).1 by rw[hx.cmp hy]]at this) W0.heap.size gq n cap (L.map aO) w W (Vy.o w (μ _ _)) HB.o kH oM (by rw[υ];exact HL.o) (fun t ht=>by
    obtain⟨z,hz,rfl⟩:=List.mem_map.1 ht
    exact(Lz.of (HHq.o z hz)).sm) R1.o)
   have hOg:O≠gq:=oM
   clear yB R1
   go_wp2_with fail
   refine HS.o.mono ?_
   rintro e W1⟨⟨v,rfl⟩,k3,k4⟩
   have k1:((L.map aO).mergeSort leQ).length=n:=by rw[xG,υ];exact HL.o
   have k2:∀z,z∈(L.map aO).mergeSort leQ↔z∈L.map aO:=fun z=>List.mem_mergeSort
   generalize(L.map aO).mergeSort leQ=ds' at *
   have eG:=zq (HB.o.grown k4 HB.o.size (fun k e=>by cases e;exact aA kH hgq))
   have HK1:=zq ((k4.block D (Array.getElem?_eq_some_iff.1 HK.o).1 (fun e=>hDg (by cases e;rfl))).trans HK.o)
   have O2:bE W1 O #[Θ (ζ ⟨gq,0,δ⟩) n cap] 68:=(k4.block O hO (fun e=>hOg (by cases e;rfl))).trans O1.o
   have k0:W1.cell? ⟨O,0,δ⟩=ζ (Θ (ζ ⟨gq,0,δ⟩) n cap):=O2.cell 0
   have HC:=zq (Tg W0.heap.size gq n cap ds' W1 oM k1 k3)
   have K2:=zq k2
   clear k1 k2 k3 k4 O1 O2 hO HS HK HB
   go_wp2_with fail
   refine HC.o.mono ?_
   rintro e W2⟨m,L2,rfl,j1,j2,j3,j4,j5⟩
   have eU:=zq (eG.o.grown j5 eG.o.size (fun k e=>by cases e;exact aA kH hgq))
   have Ma:=zq ((j5.block D (Array.getElem?_eq_some_iff.1 HK1.o).1 (fun e=>hDg (by cases e;rfl))).trans HK1.o)
   have J1:=zq j1
   have J3:=zq j3
   have J4:=zq j4
   clear j1 j3 j4 j5 HC HK1 eG k0
   go_wp2
   have ht:∀t∈L2,∃z∈L,t=aO z:=fun t ht=>by
    obtain⟨z,hz,e⟩:=List.mem_map.1 ((K2.o t).1 ((J3.o t).1 ht))
    exact⟨z,hz,e.symm⟩
   have Zn:(L2.map bZ).map aO=L2:=by
    rw[eH]
    conv=>rhs;rw[<-List.map_id L2]
    refine eB (fun t h=>?_)
    obtain⟨z,-,rfl⟩:=ht t h
    show aO (bZ (aO z))=_
    rw[iI];rfl
   have ij:∀z,z∈L2.map bZ↔z∈L:=fun z=>by
    constructor
    .intro h
     obtain⟨t,h1,rfl⟩:=List.mem_map.1 h
     obtain⟨y,hy,rfl⟩:=ht t h1
     rw[iI];exact hy
    .intro h
     refine List.mem_map.2 ⟨aO z,(J3.o _).2 ((K2.o _).2 (List.mem_map.2 ⟨z,h,rfl⟩)),iI z⟩
   have hDW:D<W2.heap.size:=(Array.getElem?_eq_some_iff.1 Ma.o).1
   refine⟨sP,.inl ⟨_,_,rfl,iD Ma.o,?_⟩⟩
   refine⟨_,nD Tryz.results87 _ _,?_⟩
   refine⟨⟨ζ ⟨gq,0,δ⟩,m,cap,L2.map bZ,rfl,by rw[υ];exact J1.o,oM,?_,fun z=>(ij z).trans (mG.o z),fun z h=>HHq.o z ((ij z).1 h),fun p e=>by cases e;exact aA kH hgq⟩,eU.o.trans (lQ (aA kH hD) Ma.o)⟩
   rw[Zn]
   intro i hi
   obtain⟨b,off,e1,e2⟩:=J4.o i hi
   cases e1
   refine⟨gq,0,rfl,?_⟩
   rw[Gc (show(W2.putObj D _).heap[gq]? =W2.heap[gq]? from cZ (fun e=>hDg e.symm))]
   exact e2
 case stop=>
  rintro D c k W hD hk hF
  exact hF.elim
end
end
section
open Go Go.RowKit Go.Lib
theorem bn6(A B C D w):(Fi 10000 59 (bQ #[Δ A,Δ B]) (bQ #[Δ C,Δ D])).run γ w=.ok (A.toList==C.toList&&B.toList==D.toList) w:=by
 have u3:=jG;have a3:=qH;have z3:=oN;have hS:Tryz.prog.underlying 59=ζ (.struct (Tryz.prog.fieldsOf 59)):=kF;have hp:Tryz.prog.stoodInHeld 59=ν:=kF;rw[show(10000:Nat)=9999+1 from rfl,run_equalIn_agg w 9999 59 _ _ hS hp];simp only[Jn,underlying59];go_simp;by_cases h1:A.toList=C.toList<;>by_cases h2:B.toList=D.toList<;>simp[h1,h2]
theorem aS2(a c A B C D w):(Fi 10000 35 (bQ #[Υ Ξ a,Δ A,Δ B]) (bQ #[Υ Ξ c,Δ C,Δ D])).run γ w=.ok (a == c && (A.toList == C.toList && B.toList == D.toList)) w:=by
  have u3:=dB
  have a3:=jF
  have z3:=gW
  have u4:=underlying29
  have a4:=Yc
  have z4:=Uk
  have hS:Tryz.prog.underlying 35=ζ (.struct (Tryz.prog.fieldsOf 35)):=kF
  have hp:Tryz.prog.stoodInHeld 35=ν:=kF
  rw [show (10000:Nat)=9999+1 from rfl,run_equalIn_agg w 9999 35 _ _ hS hp]
  simp only [Jn,underlying35]
  go_simp
  by_cases h:a=c <;> by_cases h1:A.toList=C.toList <;> by_cases h2:B.toList=D.toList <;> simp [h,h1,h2]
deriving instance DecidableEq for Pt
theorem Tk{xs ys:List Pt}(h:xs.length=ys.length)(h2:∀i,i<xs.length->xs.getD i Γ=ys.getD i Γ):xs=ys:=by
 apply List.ext_getElem h;intro i h3 h4;have:=h2 i h3;simpa[Ω,h3,h4]using this
theorem aB0(p q:Pt)(w:η):(Fi 10000 35 (bQ #[Υ Ξ p.side,Δ (bs p.fr),Δ (bs p.en)]) (bQ #[Υ Ξ q.side,Δ (bs q.fr),Δ (bs q.en)])).run γ w=.ok (decide (p=q)) w:=by
 rw[aS2];obtain⟨a,x,y⟩:=p;obtain⟨c,z,t⟩:=q;show Result.ok (a==c&&((bs x).toList==(bs z).toList&&(bs y).toList==(bs t).toList)) w=_;simp only[dM,gL];congr 1;rw[oC];simp
def yG(fs:List Fr)(p:Pt):Bool:=(fs.getD p.side.toNat Γ).up
def Nu(fs:List Fr)(at':List (List UInt8))(p q r:Pt):Pt:=
 ⟨q.side,if yG fs p=yG fs q then q.fr else at'.getD p.side.toNat [],if yG fs q=yG fs r then q.en else at'.getD r.side.toNat []⟩
def uW(fs:List Fr)(at':List (List UInt8))(ps:List Pt):List Pt:=
 (cI ps.length).map fun k=>Nu fs at' (ps.getD ((k+ps.length-1)%ps.length) Γ) (ps.getD k Γ) (ps.getD ((k+1)%ps.length) Γ)
def bv8(fs:List Fr)(at':List (List UInt8))(ls:List Lp):List (List Pt):=ls.map fun l=>uW fs at' l.ps
theorem nM(fs at' ps):(uW fs at' ps).length=ps.length:=by simp[uW]
theorem zF(hk:k<ps.length):
 (uW fs at' ps).getD k Γ=Nu fs at' (ps.getD ((k+ps.length-1)%ps.length) Γ) (ps.getD k Γ) (ps.getD ((k+1)%ps.length) Γ):=by
 simp[uW,Ω,hk]
def Gu(fs:List Fr)(at':List (List UInt8))(ps:List Pt)(i:Nat):List Pt:=
 if yG fs (ps.getD i Γ)=yG fs (ps.getD ((i+1)%ps.length) Γ)then ps else
  let qs:=ps.set i {ps.getD i Γ with en:=at'.getD (ps.getD ((i+1)%ps.length) Γ).side.toNat []}
  qs.set ((i+1)%ps.length) {qs.getD ((i+1)%ps.length) Γ with fr:=at'.getD (ps.getD i Γ).side.toNat []}
def GR(fs:List Fr)(at':List (List UInt8))(ps:List Pt):Nat->List Pt
 |0=>ps
 |i+1=>Gu fs at' (GR fs at' ps i) i
theorem sl(fs at' ps i):(Gu fs at' ps i).length=ps.length:=by
 unfold Gu;split <;>simp
theorem El(fs at' ps):∀i,(GR fs at' ps i).length=ps.length
 |0=>rfl
 |i+1=>by rw[GR,sl,El]
theorem Gv{xs:List α}(h:i<xs.length)(x d:α):(xs.set i x).getD i d=x:=by simp[Ω,h]
theorem Ke{xs:List α}(h:i≠j)(x d:α):(xs.set i x).getD j d=xs.getD j d:=by simp[Ω,List.getElem?_set_ne h]
theorem ag8(h2:2<=ps.length)(hi:i<ps.length)(k)(hk:k<ps.length):
 (Gu fs at' ps i).getD k Γ=
  ⟨(ps.getD k Γ).side,
   if(i+1)%ps.length=k/\yG fs (ps.getD i Γ)≠yG fs (ps.getD k Γ)then at'.getD (ps.getD i Γ).side.toNat []else(ps.getD k Γ).fr,
   if i=k/\yG fs (ps.getD i Γ)≠yG fs (ps.getD ((i+1)%ps.length) Γ)then at'.getD (ps.getD ((i+1)%ps.length) Γ).side.toNat []else(ps.getD k Γ).en⟩:=by
 have hq:(i+1)%ps.length<ps.length:=aV _ oM;have hne:i≠(i+1)%ps.length:=by
  rcases Vg hi with⟨_,e⟩|⟨_,e⟩<;>omega
 unfold Gu;generalize(i+1)%ps.length=q at *;by_cases hu:yG fs (ps.getD i Γ)=yG fs (ps.getD q Γ)
 .rw[ip hu,iN,iN]
  .rintro⟨rfl,h⟩;exact h hu
  .rintro⟨rfl,h⟩;exact h hu
 .rw[iN hu];show((ps.set i _).set q _).getD k Γ=_;by_cases e1:q=k
  .subst e1;rw[Gv (by simpa using hk),Ke hne,ip (show q=q/\yG fs (ps.getD i Γ)≠yG fs (ps.getD q Γ)from⟨rfl,hu⟩),iN (show¬(i=q/\yG fs (ps.getD i Γ)≠yG fs (ps.getD q Γ))from fun h=>hne h.1)]
  .rw[Ke e1];by_cases e2:i=k
   .subst e2;rw[Gv hk,ip (show i=i/\yG fs (ps.getD i Γ)≠yG fs (ps.getD q Γ)from⟨rfl,hu⟩),iN (show¬(q=i/\yG fs (ps.getD i Γ)≠yG fs (ps.getD i Γ))from fun h=>e1 h.1)]
   .rw[Ke e2,iN (fun h=>e1 h.1),iN (fun h=>e2 h.1)]
theorem ag9{p q:Pt}(h:p.side=q.side):yG fs p=yG fs q:=by unfold yG;rw[h]
theorem Tl{fs:List Fr}{at':List (List UInt8)}{ps:List Pt}(h2:2<=ps.length):∀(i:Nat),i<=ps.length->∀k,k<ps.length->
 (GR fs at' ps i).getD k Γ=
  ⟨(ps.getD k Γ).side,
   if(k+ps.length-1)%ps.length<i/\yG fs (ps.getD ((k+ps.length-1)%ps.length) Γ)≠yG fs (ps.getD k Γ)then at'.getD (ps.getD ((k+ps.length-1)%ps.length) Γ).side.toNat []else(ps.getD k Γ).fr,
   if k<i/\yG fs (ps.getD k Γ)≠yG fs (ps.getD ((k+1)%ps.length) Γ)then at'.getD (ps.getD ((k+1)%ps.length) Γ).side.toNat []else(ps.getD k Γ).en⟩
 |0,_,k,hk=>by
  rw[GR,iN oM,iN oM]
 |i+1,hi,k,hk=>by
  have hl:=El fs at' ps i
  have hq:(i+1)%ps.length<ps.length:=aV _ oM
  have hpk:(k+ps.length-1)%ps.length<ps.length:=aV _ oM
  have ih:=fun k hk=>Tl (fs:=fs) (at':=at') h2 i oM k hk
  have hs:∀j,j<ps.length->((GR fs at' ps i).getD j Γ).side=(ps.getD j Γ).side:=fun j hj=>by rw[ih j hj]
  have hu:∀j,j<ps.length->yG fs ((GR fs at' ps i).getD j Γ)=yG fs (ps.getD j Γ):=fun j hj=>ag9 (hs j hj)
  rw[GR,ag8 (by rw[hl];exact h2) (by rw[hl];omega) k (by rw[hl];exact hk),hl,hs k hk,hu i oM,hu k hk,hu _ hq,hs i oM,hs _ hq,ih k hk]
  have aM8:(i+1)%ps.length=k↔(k+ps.length-1)%ps.length=i:=by
   rcases Vg (show i<ps.length by omega)with⟨a,e⟩|⟨a,e⟩
   .rw[e];constructor
    .rintro rfl;rw[show i+1+ps.length-1=i+ps.length by omega,gQ,aT oM]
    .intro h;by_cases k0:k=0
     .subst k0;rw[show 0+ps.length-1=ps.length-1 by omega,aT oM]at h;omega
     .rw[show k+ps.length-1=(k-1)+ps.length by omega,gQ,aT oM]at h;omega
   .rw[e];constructor
    .rintro rfl;rw[show 0+ps.length-1=ps.length-1 by omega,aT oM];omega
    .intro h;by_cases k0:k=0
     .exact k0.symm
     .rw[show k+ps.length-1=(k-1)+ps.length by omega,gQ,aT oM]at h;omega
  refine Pt.mk.injEq .. |>.mpr ⟨rfl,?_,?_⟩
  .generalize(k+ps.length-1)%ps.length=m at *;by_cases e:(i+1)%ps.length=k
   .have e':=aM8.1 e;subst e';generalize yG fs (ps.getD m Γ)=um;generalize yG fs (ps.getD k Γ)=uk;generalize at'.getD (ps.getD m Γ).side.toNat []=A;generalize(ps.getD k Γ).fr=F;by_cases hup:um=uk<;>simp[e,hup]
   .have e':m≠i:=fun h=>e (aM8.2 h);have hlt:m<i+1↔m<i:=oM;simp only[e,false_and,if_false,hlt]
  .by_cases e:i=k
   .subst e;generalize yG fs (ps.getD ((i+1)%ps.length) Γ)=um;generalize yG fs (ps.getD i Γ)=uk;generalize at'.getD (ps.getD ((i+1)%ps.length) Γ).side.toNat []=A;generalize(ps.getD i Γ).en=F;by_cases hup:uk=um<;>simp[hup]
   .have hlt:k<i+1↔k<i:=oM;simp only[e,false_and,if_false,hlt]
theorem ah0(h2:2<=ps.length):GR fs at' ps ps.length=uW fs at' ps:=by
 apply Tk (by rw[El,nM]);intro k hk;rw[El]at hk;have hpk:(k+ps.length-1)%ps.length<ps.length:=aV _ oM;rw[Tl h2 _ (θ _) k hk,zF hk];unfold Nu;refine Pt.mk.injEq .. |>.mpr ⟨rfl,?_,?_⟩
 .by_cases h:yG fs (ps.getD ((k+ps.length-1)%ps.length) Γ)=yG fs (ps.getD k Γ)
  .rw[ip h,iN (fun x=>x.2 h)]
  .rw[iN h,ip ⟨hpk,h⟩]
 .by_cases h:yG fs (ps.getD k Γ)=yG fs (ps.getD ((k+1)%ps.length) Γ)
  .rw[ip h,iN (fun x=>x.2 h)]
  .rw[iN h,ip ⟨hk,h⟩]
def evZ(fs:List Fr)(z:Rat):Prop:=
 ∃i,i<fs.length/\(((fs.getD i Γ).sp≠[48]/\z=(fs.getD i Γ).q.t)\/∃k,k<i/\(fs.getD k Γ).up=(fs.getD i Γ).up/\kK (fs.getD k Γ).q (fs.getD i Γ).q z)
def Zq(fs:List Fr)(x y:List UInt8):Prop:=∃z,evZ fs z/\bZ x<z/\z<bZ y
def BX(fs:List Fr)(p:Pt):Bool:=decide (uA fs p<0)
open Classical in
noncomputable def nN (fs:List Fr) (ls:List Lp) (x y:List UInt8):Int:=
 if(fQ y x).1<0\/Zq fs x y then 2 else if((bv8 fs (dL fs y) ls).flatten.any (BX fs))=ι then 2 else 0
open Classical in
noncomputable def oJ (fs:List Fr) (ls:List Lp) (x y:List UInt8):List (List Pt):=if nN fs ls x y=0 then bv8 fs (dL fs y) ls else[]
end
section
open Go Go.RowKit
section
def ah1{β:Type}(F:Jy)(n:Nat)(P:cQ)(gf:Nat)(lb:Array χ)(enc:β->Array χ)(Ok:List β->β->Prop)(Fin:List β->Prop)(Kp:η->η->Prop)(w:η):Prop:=
 ∀(l:Nat)(J Jx:List β->η->Prop)(W:η),Bw w W->(∀k V V',J k V->Bw V V'->J k V')->
  (∀k x V,Ok k x->J k V->XR F (n-1) P l (enc x) V fun e V'=>(e=σ (ω ι)/\J (k++[x]) V'/\Kp V V')\/(e=σ (ω ν)/\Jx (k++[x]) V'))->
  J [] W->CallsIn F n P gf (#[.func (.yield l) #[] #[]]++lb) W fun e W'=>(∃v,e=σ v)/\((∃k,Fin k/\J k W')\/∃k,Jx k W')
def Nw{β:Type}(B:Nat)(Kp:η->η->Prop)(I:List β->η->Prop)(Ix:Dl->List β->η->Prop)(k:List β)(W:η):sG->iS->η->Prop
 |.normal,_,V=>iB B W V/\Kp W V/\I k V
 |.ret,_,V=>iB B W V/\Ix .ret k V
 |.exit id,_,V=>iB B W V/\Ix (.exit id) k V
 |.goto t,_,V=>iB B W V/\Ix (.goto t) k V
 |.panic _,_,_=>False
 |.outgrown,_,_=>False
variable{F:Jy}{n:Nat}{P:cQ}
theorem Tm{g:mC}{ps:Array Tmp}{Q:sG->iS->η->Prop}(hro:F.round=δ)(h1:1<=n)(hg:a.eval g=.func (.func gf) #[] lb)(hFg:F.fn gf)(eg:∀args w,(nU gf args).run P w=.ok (.enter gf args) w){enc:β->Array χ}{Ok:List β->β->Prop}{Fin:List β->Prop}{Kp:η->η->Prop}{w0:η}(M7:ah1 F (n-1) P gf lb enc Ok Fin Kp w0)(Jt:Bw w0 w)(YQ:∀{A B C:η},Kp A B->Kp B C->Kp A C)(fg:∀(W:η)(l:Nat)(o o':Obj),w.heap.size<=l->W.heap[l]? =ζ o->o.isCells=ν->o.isWalk=ν->Kp W (W.putObj l o'))(lI:∀x,(enc x).size=ps.size)(I:List β->η->Prop)(Ix:Dl->List β->η->Prop)(hI:zM w.heap.size I)(JK:∀c,zM w.heap.size (Ix c))(h0:I [] w)(JL:β->iS)(rR:∀(l:Nat)(x:β)(W:η)(K:iS->η->Prop),K (JL x) W->
  assign.wpIn (F.inRound l) (n-1-1) P (Exit.then K (fun _ _ _=>False)) {tmps:=(ps.zip (enc x)).foldl (fun t(p,v)=>t.setIfInBounds p v) a.tmps,defers:=[]} W)(Bv:∀(l:Nat)(k:List β)(x:β)(W:η),Ok k x->I k W->body.wpIn (F.inRound l) (n-1-1) P (Nw w.heap.size Kp I Ix (k++[x]) W) (JL x) W)(By:∀(D:Nat)(W:η),w.heap.size<=D->(∃k,Fin k/\I k W)->W.heap[D]? =ζ (.deferred (ζ []))->Q .normal {a with defers:={target:=.collected D,args:=#[]}::a.defers} W)(Bz:∀(D:Nat)(c:Dl)(k:List β)(W:η),w.heap.size<=D->Ix c k W->W.heap[D]? =ζ (.deferred (ζ []))->c.wpIn F n P Q {a with defers:={target:=.collected D,args:=#[]}::a.defers} W):
 (Bi g ps assign body).wpIn F n P Q a w:=by
 refine wpIn_rangeFunc ?_
 intro fn hfn
 rw[hro]
 have hD:=kZ w (.deferred (ζ []))
 obtain⟨V,hV⟩:=nm ((w.alloc (.deferred (ζ []))).alloc (.loop (gT fn a ps assign body w.heap.size .ready δ)))
 have kD:V.heap[w.heap.size]? =ζ (.deferred (ζ [])):=by rw[<-hV];exact(xR _ _ _ sP).trans hD
 have kL:V.heap[w.heap.size+1]? =ζ (.loop (gT fn a ps assign body w.heap.size .ready δ)):=by
  rw[<-hV]
  have:=kZ (w.alloc (.deferred (ζ []))) (.loop (gT fn a ps assign body w.heap.size .ready δ))
  rwa[aL]at this
 have kI:I [] V:=by rw[<-hV];exact hI.alloc _ (hI.alloc _ h0)
 have kB:Bw w0 V:=by
  rw[<-hV];exact Jt.trans (((nA w _).alloc sP _).mono Jt.size)
 refine⟨w.heap.size+1,[{target:=.collected w.heap.size,args:=#[]}],V,{target:=.fn (.func gf) lb,args:=#[.func (.yield (w.heap.size+1)) #[] #[]]},V,gf,
  #[.func (.yield (w.heap.size+1)) #[] #[]]++lb,V,?_,?_,?_,?_,fun _=>h1,?_⟩
 .rw[<-hV];exact run_enterLoop_outer _ _ _ _ _
 .simp only[resolve,hg]
  simp[go_sem]
 .intro f hf
  simp[Target.leads]at hf
  subst hf;exact hFg
 .simp[invoke,go_sem,eg]
 .have zU:=M7 (w.heap.size+1)
   (fun k W=>I k W/\W.heap[w.heap.size+1]? =ζ (.loop (gT fn a ps assign body w.heap.size .ready δ))/\W.heap[w.heap.size]? =ζ (.deferred (ζ [])))
   (fun k W=>∃c,Ix c k W/\W.heap[w.heap.size+1]? =ζ (.loop (gT fn a ps assign body w.heap.size .done (ζ c)))/\W.heap[w.heap.size]? =ζ (.deferred (ζ [])))
   V kB (fun k A B⟨h1,h2,h3⟩hb=>⟨hI k A B δ h1 (uP hb) (fun r e=>by cases e),(hb.block _ (Array.getElem?_eq_some_iff.1 h2).1).trans h2,(hb.block _ (Array.getElem?_eq_some_iff.1 h3).1).trans h3⟩) ?round ⟨kI,kL,kD⟩
  case round=>
   rintro k x W hk⟨hi,hl,hd⟩
   have hlt:w.heap.size+1<W.heap.size:=(Array.getElem?_eq_some_iff.1 hl).1
   have hy:=run_yield (P:=P) (args:=enc x) hl (by exact lI x)
   refine⟨fn,_,assign,body,hy,roundIn_of_wpIn hfn (rR _ x W _ ⟨_,run_beginRound hl rfl,?_⟩)⟩
   obtain⟨U,hU⟩:=nm (W.putObj (w.heap.size+1) (.loop (gT fn a ps assign body w.heap.size .busy δ)))
   have uL:U.heap[w.heap.size+1]? =ζ (.loop (gT fn a ps assign body w.heap.size .busy δ)):=by rw[<-hU];exact pJ hlt
   have uD:U.heap[w.heap.size]? =ζ (.deferred (ζ [])):=by rw[<-hU];exact(cZ oM).trans hd
   have uK:Kp W U:=by rw[<-hU];exact fg _ _ _ _ oM hl rfl rfl
   have uI:I k U:=by rw[<-hU];exact hI.putObj _ hi oM hl rfl
   have UN:∀(j:Option Dl)(X:η),iB w.heap.size U X->
    X.heap[w.heap.size+1]? =ζ (.loop (gT fn a ps assign body w.heap.size .busy δ))/\
    (F8 (w.heap.size+1) j).run P X=.ok (ω j.isNone) (X.putObj (w.heap.size+1) (.loop (gT fn a ps assign body w.heap.size (if j.isNone then .ready else .done) j)))/\
    (X.putObj (w.heap.size+1) (.loop (gT fn a ps assign body w.heap.size (if j.isNone then .ready else .done) j))).heap[w.heap.size+1]? =ζ (.loop (gT fn a ps assign body w.heap.size (if j.isNone then .ready else .done) j))/\
    (X.putObj (w.heap.size+1) (.loop (gT fn a ps assign body w.heap.size (if j.isNone then .ready else .done) j))).heap[w.heap.size]? =ζ (.deferred (ζ [])):=by
    intro j X hX
    have xL:=hX.same _ _ oM uL rfl
    exact⟨xL,run_endRound (P:=P) j xL,pJ (Array.getElem?_eq_some_iff.1 xL).1,(cZ oM).trans (hX.same _ _ (θ _) uD rfl)⟩
   show Code.wpIn _ _ _ _ _ _ (W.putObj (w.heap.size+1) (.loop (gT fn a ps assign body w.heap.size .busy δ)))
   rw[hU]
   refine wpIn_mono (Bv _ k x U hk uI) ?_
   intro e a3 X hp
   have M8:∀c:Dl,iB w.heap.size U X/\Ix c (k++[x]) X->_:=fun c hc=>(UN (ζ c) X hc.1)
   cases e with
   |normal=>
    obtain⟨xL,xr,yL,yD⟩:=UN δ X hp.1
    exact⟨_,_,xr,.inl ⟨rfl,⟨hI.putObj _ hp.2.2 oM xL rfl,yL,yD⟩,YQ (YQ uK hp.2.1) (fg _ _ _ _ oM xL rfl rfl)⟩⟩
   |ret=>
    obtain⟨xL,xr,yL,yD⟩:=M8 .ret hp
    exact⟨_,_,xr,.inr ⟨rfl,.ret,(JK _).putObj _ hp.2 oM xL rfl,yL,yD⟩⟩
   |exit id=>
    obtain⟨xL,xr,yL,yD⟩:=M8 (.exit id) hp
    exact⟨_,_,xr,.inr ⟨rfl,.exit id,(JK _).putObj _ hp.2 oM xL rfl,yL,yD⟩⟩
   |goto t=>
    obtain⟨xL,xr,yL,yD⟩:=M8 (.goto t) hp
    exact⟨_,_,xr,.inr ⟨rfl,.goto t,(JK _).putObj _ hp.2 oM xL rfl,yL,yD⟩⟩
   |panic ch=>exact hp.elim
   |outgrown=>exact hp.elim
  refine zU.mono ?_
  rintro e W2⟨⟨v,rfl⟩,(⟨k,hf,hi,hl,hd⟩|⟨k,c,hi,hl,hd⟩)⟩
  .exact⟨δ,_,Qd (P:=P) hl (by simp[gT]),By _ _ (θ _) ⟨k,hf,hI.putObj _ hi oM hl rfl⟩ ((cZ oM).trans hd)⟩
  .exact⟨ζ c,_,Qd (P:=P) hl (by simp[gT]),Bz _ c k _ (θ _) ((JK c).putObj _ hi oM hl rfl) ((cZ oM).trans hd)⟩
theorem Nx{g:mC}{ps:Array Tmp}{Q:sG->iS->η->Prop}(hg:a.eval g=.func (.func gf) #[] lb)(eg:∀args w,(nU gf args).run P w=.ok (.enter gf args) w){enc:β->Array χ}{Ok:List β->β->Prop}{Fin:List β->Prop}{Kp:η->η->Prop}(M7:ah1 eD 8 P gf lb enc Ok Fin Kp w)(YQ:∀{A B C:η},Kp A B->Kp B C->Kp A C)(fg:∀(W:η)(l:Nat)(o o':Obj),w.heap.size<=l->W.heap[l]? =ζ o->o.isCells=ν->o.isWalk=ν->Kp W (W.putObj l o'))(lI:∀x,(enc x).size=ps.size)(I:List β->η->Prop)(Ix:Dl->List β->η->Prop)(hI:zM w.heap.size I)(JK:∀c,zM w.heap.size (Ix c))(h0:I [] w)(JL:β->iS)(rR:∀(l:Nat)(x:β)(W:η)(K:iS->η->Prop),K (JL x) W->
  assign.wpIn (Fence.wide.inRound l) 7 P (Exit.then K (fun _ _ _=>False)) {tmps:=(ps.zip (enc x)).foldl (fun t(p,v)=>t.setIfInBounds p v) a.tmps,defers:=[]} W)(Bv:∀(l:Nat)(k:List β)(x:β)(W:η),Ok k x->I k W->body.wpIn (Fence.wide.inRound l) 7 P (Nw w.heap.size Kp I Ix (k++[x]) W) (JL x) W)(By:∀(D:Nat)(W:η),w.heap.size<=D->(∃k,Fin k/\I k W)->W.heap[D]? =ζ (.deferred (ζ []))->Q .normal {a with defers:={target:=.collected D,args:=#[]}::a.defers} W)(Bz:∀(D:Nat)(c:Dl)(k:List β)(W:η),w.heap.size<=D->Ix c k W->W.heap[D]? =ζ (.deferred (ζ []))->c.wp P Q {a with defers:={target:=.collected D,args:=#[]}::a.defers} W):
 (Bi g ps assign body).wp P Q a w:=
 (wpIn_wide (n:=9)).1 (Tm (F:=eD) rfl dD hg trivial eg M7 (μ _ _) YQ fg lI I Ix hI JK h0 JL rR Bv By (fun D c k W h1 h3 h4=>wpIn_wide.2 (Bz D c k W h1 h3 h4)))
end
end
section
open Go Go.RowKit Go.Shelf Go.Lib
section
attribute[local go_sem] eQ
def jO(B:Nat)(V V':η):Prop:=Below B V V'/\∀(k:Nat)(o:Obj),V.heap[k]? =ζ o->o.isCells=ι->V'.heap[k]? =ζ o
theorem jO.refl(B V):jO B V V:=⟨μ _ _,fun _ _ h _=>h⟩
theorem jO.trans{X Y:η}(h:jO B X Y)(k:jO B Y Z):jO B X Z:=⟨h.1.trans k.1,fun i o hi ho=>k.2 i o (h.2 i o hi ho) ho⟩
theorem jO.call{X Y:η}(h:Bw X Y)(hB:B<=X.heap.size):jO B X Y:=
 ⟨h.mono hB,fun i o hi _=>(h.block i (Array.getElem?_eq_some_iff.1 hi).1).trans hi⟩
theorem jO.blk{X Y:η}(h:jO B X Y){b:Nat}(k:bE X b cs T):bE Y b cs T:=h.2 b _ k rfl
theorem jO.putObj{n:Nat}(hB:B<=n)(W l o o')(hl:n<=l)(h:W.heap[l]? =ζ o)(ho:o.isCells=ν)(_:o.isWalk=ν):jO B W (W.putObj l o'):=
 ⟨lQ (aA hB hl) h,fun i x hi hx=>by
  by_cases e:i=l
  .subst e;rw[h]at hi;cases hi;rw[ho]at hx;cases hx
  .exact(cZ e).trans hi⟩
theorem jO.cell{X Y:η}(h:jO B X Y){p:bW}{v:χ}(hp:X.cell? p=ζ v):Y.cell? p=ζ v:=by
 have:Y.heap[p.block]? =X.heap[p.block]?:=by
  unfold World.cell? at hp;cases ho:X.heap[p.block]? with
  |none=>rw[ho]at hp;simp at hp
  |some o=>
   refine h.2 _ o ho ?_;rw[ho]at hp;cases o<;>first |rfl|simp at hp
 rw[Gc this];exact hp
theorem jO.rdv{X Y:η}(h:jO B X Y){a:Option bW}{vs:List χ}(r:Qy X a vs):Qy Y a vs:=fun i hi=>by
 obtain⟨b,off,e,hc⟩:=r i hi
 exact⟨b,off,e,h.cell hc⟩
end
section
attribute[local go_sem] eQ
def evJ(fs:List Fr)(i j:Nat)(z:Rat):Prop:=∃k,k<j/\(fs.getD k Γ).up=(fs.getD i Γ).up/\kK (fs.getD k Γ).q (fs.getD i Γ).q z
def evS(fs:List Fr)(i:Nat)(z:Rat):Prop:=(fs.getD i Γ).sp≠[48]/\z=(fs.getD i Γ).q.t
theorem ah2:evZ fs z↔∃i,i<fs.length/\(evS fs i z\/evJ fs i i z):=Iff.rfl
def ik(f g:FQ)(w:η)(e:Fg)(w':η):Prop:=
 (∃(a:Option bW)(n cap:Nat)(c:Int)(L:List Rat),e=σ (bT #[Θ a n cap,Υ Ξ c])/\L.length=n/\n<=5/\Qy w' a (dQ (L.map aO))/\(∀z,z∈L↔f.up=g.up/\kK f g z)/\∀z∈L,DO z)/\Bw w w'
theorem Vz(f g:FQ)(hf:f.Good)(hg:g.Good)(hup:f.up≠g.up)(w:η)(hE:mV w):
 aE γ 87 #[f.fr.v,g.fr.v] w (Rt (bT #[Θ δ 0 0,Υ Ξ 9]) w):=by
 have HCf:=zq (fun(W:η)(h:Bw w W)=>BL f hf W (hE.below h));have HCg:=zq (fun(W:η)(h:Bw w W)=>BL g hg W (hE.below h));have evf:f.fr.v=bQ (IR f.up f.co f.dir (bs (aO f.v)) (bs (aO f.t))):=rfl;have evg:g.fr.v=bQ (IR g.up g.co g.dir (bs (aO g.v)) (bs (aO g.t))):=rfl;rw[evf]at HCf|-;rw[evg]at HCg|-;clear evf evg hf hg hE;have fL:Bw w ((w.alloc (π (IR f.up f.co f.dir (bs (aO f.v)) (bs (aO f.t))) 46)).alloc (π (IR g.up g.co g.dir (bs (aO g.v)) (bs (aO g.t))) 46)):=(nA w _).alloc sP _;have q1:bE ((w.alloc (π (IR f.up f.co f.dir (bs (aO f.v)) (bs (aO f.t))) 46)).alloc (π (IR g.up g.co g.dir (bs (aO g.v)) (bs (aO g.t))) 46)) w.heap.size (IR f.up f.co f.dir (bs (aO f.v)) (bs (aO f.t))) 46:=(bE.new w _ _).alloc _;have q2:bE ((w.alloc (π (IR f.up f.co f.dir (bs (aO f.v)) (bs (aO f.t))) 46)).alloc (π (IR g.up g.co g.dir (bs (aO g.v)) (bs (aO g.t))) 46)) (w.heap.size+1) (IR g.up g.co g.dir (bs (aO g.v)) (bs (aO g.t))) 46:=by
  have:=bE.new (w.alloc (π (IR f.up f.co f.dir (bs (aO f.v)) (bs (aO f.t))) 46)) (IR g.up g.co g.dir (bs (aO g.v)) (bs (aO g.t))) 46;rwa[aL]at this
 unfold IR at *;obtain⟨u1,h1⟩:=nm (f.up);obtain⟨u2,h2⟩:=nm (g.up);rw[h1]at HCf hup fL q1 q2|-;rw[h2]at HCg hup fL q1 q2|-;clear h1 h2;generalize bs (aO g.t)=T2,bs (aO g.v)=S2,bs (aO f.t)=T1,bs (aO f.v)=S1 at *;have gH:=zq fL;have Q1:=zq q1;have Q2:=zq q2;clear fL q1 q2;cases u1<;>cases u2<;>(try(exact absurd rfl hup))<;>clear hup;all_goals
  go_enter func87,ntmps87;go_wp2_with fail
  refine ka (HCf.o _ gH.o) fun W1 hb1=>?_;have eG:=gH.bS hb1;have Q1:=Q1.bb hb1;have Q2:=Q2.bb hb1;clear hb1 gH;obtain⟨d0,d1,d2,d3,d4⟩:=Q2.o.front;have l2:=Q2.o.lt;go_wp2_with fail
  refine ka (HCg.o _ eG.o) fun W2 hb2=>?_;have eU:=eG.bS hb2;have Q1:=Q1.bb hb2;have Q2:=Q2.bb hb2;clear hb2 eG d0 d1 d2 d3 d4 l2;obtain⟨c0,c1,c2,c3,c4⟩:=Q1.o.front;obtain⟨d0,d1,d2,d3,d4⟩:=Q2.o.front;go_wp2;go_ret2;exact⟨rfl,eU.o⟩
theorem ah3(f g:FQ)(hf:f.Good)(hg:g.Good)(w:η)(hE:mV w):aE γ 87 #[f.fr.v,g.fr.v] w (ik f g w):=by
 by_cases hup:f.up=g.up
 .refine(Lr f g hf hg hup w hE).mono ?_;rintro e w'⟨⟨a,n,cap,L,h1,h2,h3,h4,h5,h6,-⟩,hb⟩;exact⟨⟨a,n,cap,0,L,h1,h2,h3,h4,fun z=>⟨fun h=>⟨hup,(h5 z).1 h⟩,fun h=>(h5 z).2 h.2⟩,h6⟩,hb⟩
 .refine(Vz f g hf hg hup w hE).mono ?_;rintro e w'⟨h1,hb⟩;exact⟨⟨δ,0,0,9,[],h1,rfl,dD,fun i hi=>absurd hi (by simp[dQ]),fun z=>⟨fun h=>absurd h sP,fun h=>absurd h.1 hup⟩,fun z h=>absurd h sP⟩,hb⟩
def Zr(fs:List Fr)(k j:Nat)(L0 L:List Rat):Prop:=(∀z∈L0,z∈L)/\(∀z,evS fs k z->z∈L)/\∀z,evJ fs k j z->z∈L
theorem Zr.more{L:List Rat}(h:Zr fs k j L0 L)(x):Zr fs k j L0 (L++[x]):=
 ⟨fun z hz=>gU _ (h.1 z hz),fun z hz=>gU _ (h.2.1 z hz),fun z hz=>gU _ (h.2.2 z hz)⟩
theorem Zr.next{L Lq:List Rat}(h:Zr fs k j L0 L)(hq:∀z∈Lq,z∈L)(hm:∀z,z∈Lq↔(fs.getD j Γ).q.up=(fs.getD k Γ).q.up/\kK (fs.getD j Γ).q (fs.getD k Γ).q z):Zr fs k (j+1) L0 L:=by
 refine⟨h.1,h.2.1,fun z hz=>?_⟩;obtain⟨i,hi,h1,h2⟩:=hz;rcases fO i j with c|c
 .exact h.2.2 z ⟨i,c,h1,h2⟩
 .obtain rfl:i=j:=oM;exact hq z ((hm z).2 ⟨h1,h2⟩)
theorem bc5{f:Fr}(h:f.Ok):bs f.st=bs (aO f.q.t):=by
 have:=congrArg Fr.st h.good.2;rw[<-this];rfl
theorem aS3(heq:∀ (f g:FQ),f.Good->g.Good->∀ W,mV W->aE γ 87 #[f.fr.v,g.fr.v] W (ik f g W))(Bf B a nf ca fs)(hf:fs.length=nf)(hn:nf<=24)(hOk:∀ f∈fs,f.Ok)(w)(hB:B<=w.heap.size)(hBl:Bf < w.heap.size)(hE:∀ V,Below B w V->mV V)(hc:∀ V,Below B w V->yA V a fs)(Kf:nf<=ca)(hBs:bE w Bf #[Θ a nf ca] 27):
 ah1 eD 8 γ 86 #[aB (ζ ⟨Bf,0,δ⟩)] (fun z:Rat=>#[Δ (bs (aO z))]) (fun _ z=>DO z/\evZ fs z) (fun k=>∀ z,evZ fs z->z∈k) (jO B) w:=by
 intro l J Jx W hW hJ hY h0;have K0:jO B w W:=jO.call hW hB;have hBs:=K0.blk hBs;have HE:=zq (fun V (h:Below B W V)=>hE V (K0.1.trans h));have Hc:=zq (fun V (h:Below B W V)=>hc V (K0.1.trans h));have rj:B<=W.heap.size:=aA hB hW.size;have Hf:=zq hf;have Hok:aQ (∀ i,i < nf->(fs.getD i Γ).Ok):=fun i hi=>hOk _ (aN (by rw [hf];exact hi) Γ);have HEq:aQ (∀ i j,i < nf->j < nf->∀ V,Below B W V->aE γ 87 #[(fs.getD j Γ).v,(fs.getD i Γ).v] V (ik (fs.getD j Γ).q (fs.getD i Γ).q V)):=fun i j hi hj V hV=>by
  obtain⟨g1,e1⟩:=(Hok.o i hi).good;obtain⟨g2,e2⟩:=(Hok.o j hj).good;have:=heq _ _ g2 g1 V (HE.o V hV);rwa [e1,e2] at this
 have HBs:=zq hBs;have HJ0:=zq h0;have HJ:=zq hJ;have HY:=zq hY;clear hf hOk hE hc hBs K0 hW hB hBl heq h0 hJ hY;refine ol func86 rfl trivial ?_ rfl;simp only [ntmps86,bI,aC,bB,cL,dF,bG,bH,cE,bN,cM,bV];have k0:=HBs.o.ce 0;have kl:=HBs.o.lt;gi_wp2;gi_loopw [13] (fun i wr=>∃ (k:Nat) (L:List Rat),i=Υ Ξ (k:Int)/\k<=nf/\aQ (J L wr)/\aQ (jO B W wr)/\aQ (∀ i,i < k->∀ z,evS fs i z\/evJ fs i i z->z∈L))
  (fun i _=>nf - (ξ i).toNat)
 case atStart=>exact⟨0,[],rfl,aP _,HJ0.o,jO.refl _ _,fun i hi=>oM⟩
 case round=>
  obtain⟨k,L,rfl,hk,HJk,HK,HL⟩:=hrel;by_cases hlt:k < nf
  .have HKk:=zq HK.o.1;obtain⟨fb,fo,rfl,c0,c1,c2,c3,c4⟩:=(Hc.o _ HKk.o).at (i:=k) (by rw [Hf.o];exact hlt) rfl;have Hfs:aQ (∀ V,Below B W V->yA V (ζ ⟨fb,fo,δ⟩) fs):=Hc;have AF:=bc5 (Hok.o k hlt);have HQt:aQ (DO (fs.getD k Γ).q.t):=BW (Hok.o k hlt).good.1;have aB1:=zq (fun j hj V hV=> HEq.o k j hlt hj V hV);have HSt:aQ (evS fs k (fs.getD k Γ).q.t↔(fs.getD k Γ).sp≠ [48]):=⟨fun h=> h.1,fun h=> ⟨h,rfl⟩⟩;have HSu:aQ (∀ z,evS fs k z->z=(fs.getD k Γ).q.t):=fun z h=> h.2;have aM9:((bs (fs.getD k Γ).sp).toList== [48])=decide ((fs.getD k Γ).sp= [48]):=by
    rw [dM,gL];rw [oC];simp
   have HSp:=zq aM9;have HEv:aQ (∀ z,evS fs k z\/evJ fs k k z->evZ fs z):=fun z h=>ah2.2 ⟨k,by rw [Hf.o];exact hlt,h⟩;have bc6:aQ (∀ L2,Zr fs k k L L2->∀ i,i < k+1->∀ z,evS fs i z\/evJ fs i i z->z∈L2):=fun L2 h i hi z hz=>by
    rcases fO i k with c | c
    .exact h.1 z (HL.o i c z hz)
    .obtain rfl:i=k:=oM;exact hz.elim (h.2.1 z) (h.2.2 z)
   have HC0:aQ (∀ L2,(∀ z∈L,z∈L2)->(∀ z,evS fs k z->z∈L2)->Zr fs k 0 L L2):=fun L2 h1 h2=>⟨h1,h2,fun z ⟨i,hi,_⟩=>absurd hi (vJ _)⟩;have PD:aQ (∀ j L2 Lq,Zr fs k j L L2->(∀ z∈Lq,z∈L2)->(∀ z,z∈Lq↔(fs.getD j Γ).q.up=(fs.getD k Γ).q.up/\kK (fs.getD j Γ).q (fs.getD k Γ).q z)->Zr fs k (j+1) L L2):=fun j L2 Lq h1 h2 h3=>h1.next h2 h3;have bn8:aQ (∀ j,j < k->∀ z,((fs.getD j Γ).q.up=(fs.getD k Γ).q.up/\kK (fs.getD j Γ).q (fs.getD k Γ).q z)->evZ fs z):=fun j hj z h=>HEv.o z (.inr ⟨j,hj,h.1,h.2⟩);have k0':=k0;have k0:wr.cell? ⟨Bf,0,δ⟩=ζ (Θ (ζ ⟨fb,fo,δ⟩) nf ca):=HK.o.cell k0';have kl2:Bf < wr.heap.size:=aD wr ⟨Bf,0,δ⟩ k0;have CF:fb < wr.heap.size:=aD wr ⟨fb,fo+k * 5,δ⟩ c0;have Qu:=nA wr (π #[ω (fs.getD k Γ).up,Υ Ξ (fs.getD k Γ).co,Υ Ξ (fs.getD k Γ).dir,Δ (bs (fs.getD k Γ).sp),Δ (bs (fs.getD k Γ).st)] 46);have Q4:=zq (bE.new wr #[ω (fs.getD k Γ).up,Υ Ξ (fs.getD k Γ).co,Υ Ξ (fs.getD k Γ).dir,Δ (bs (fs.getD k Γ).sp),Δ (bs (fs.getD k Γ).st)] 46);have HB4:=zq Qu;clear aM9 Qu HL;have aB1:aQ (∀ (j:Nat),j < nf->∀ (V:η),Below B W V->aE γ 87 #[(fs.getD j Γ).v,bQ #[ω (fs.getD k Γ).up,Υ Ξ (fs.getD k Γ).co,Υ Ξ (fs.getD k Γ).dir,Δ (bs (fs.getD k Γ).sp),Δ (bs (fs.getD k Γ).st)]] V (ik (fs.getD j Γ).q (fs.getD k Γ).q V)):=aB1;have bc7:aQ ((fs.getD k Γ).sp≠ [48]->evZ fs (fs.getD k Γ).q.t):=fun h=>HEv.o _ (.inl (HSt.o.2 h));have HSn:aQ ((fs.getD k Γ).sp= [48]->∀ z,¬ evS fs k z):=fun h z hz=>hz.1 h;have HFT:aQ (∀ (L2:List Rat) (V:η),J L2 V->evZ fs (fs.getD k Γ).q.t->XR eD 7 γ l #[Δ (bs (aO (fs.getD k Γ).q.t))] V fun e V'=>(e=σ (ω ι)/\J (L2 ++ [(fs.getD k Γ).q.t]) V' /\jO B V V')\/(e=σ (ω ν)/\Jx (L2 ++ [(fs.getD k Γ).q.t]) V')):=fun L2 V h hz=>HY.o L2 _ V ⟨HQt.o,hz⟩ h;have bc8:aQ (∀ z,evS fs k z->z=(fs.getD k Γ).q.t):=HSu;generalize fs.getD k Γ=f,(fs.getD k Γ).q=fq at *;obtain⟨fup,fco,fdir,Ll,fst⟩:=f;simp only [] at *;rw [AF] at aB1 Q4 HB4 c4;clear AF HSt HSu HEv HEq HQt;generalize fq.t=ft at *;generalize bs (aO ft)=FT at *;gi_upto_region 3 with (fail);obtain⟨wb,Zs⟩:=nm (wr.alloc (π #[ω fup,Υ Ξ fco,Υ Ξ fdir,Δ (bs Ll),Δ FT] 46));rw [Zs] at Q4 HB4 |-;have HKb:=zq (HK.o.trans (jO.call HB4.o (aA rj HKk.o.size)));have HJb:=zq (HJ.o _ _ _ HJk.o HB4.o);have k1:=aY HB4.o k0;have il:wr.heap.size < wb.heap.size:=Q4.o.lt;clear k0 kl2 CF c0 c1 c2 c3 c4 Zs HB4 HKk;generalize wr.heap.size=b4 at *;obtain⟨d0,d1,d2,d3,d4⟩:=Q4.o.front;gi_cut [27] from 14 (fun v V=>(v=ω ν/\aQ (∃ L1,J L1 V/\jO B wb V/\Zr fs k 0 L L1))\/(v=ω ι/\aQ (∃ L1,Jx L1 V)));case first=>
    have hsp:=HSp.o;by_cases h48:Ll= [48]
    .rw [decide_eq_true h48] at hsp;have R:aQ (∃ L1,J L1 wb/\jO B wb wb/\Zr fs k 0 L L1):=⟨L,HJb.o,jO.refl _ _,HC0.o L (fun z h=>h) (fun z h=>absurd h (HSn.o h48 z))⟩;clear h48;generalize bs Ll=Fsq at *;gi_wp2;repeat (refine⟨fun _ h=>(by cases h),?_⟩;gi_wp2)
     gi_meet;case rel=>exact .inl ⟨rfl,R.o⟩
    .rw [decide_eq_false h48] at hsp;obtain⟨fny,tmy,asy,boy,hy,hR⟩:=HFT.o L wb HJb.o (bc7.o h48);clear h48;generalize bs Ll=Fsq at *;gi_wp2;refine hR.mono ?_;rintro e W1 (⟨rfl,hJ1,hK1⟩ | ⟨rfl,hx⟩)
     .have R:aQ (∃ L1,J L1 W1/\jO B wb W1/\Zr fs k 0 L L1):=⟨_,hJ1,hK1,HC0.o _ (fun z h=>gU _ h) (fun z h=>by rw [bc8.o z h];exact rM _ (List.mem_singleton.2 rfl))⟩;gi_wp2;gi_meet;case rel=>exact .inl ⟨rfl,R.o⟩
     .have R:aQ (∃ L1,Jx L1 W1):=⟨_,hx⟩;gi_wp2;gi_meet;case rel=>exact .inr ⟨rfl,R.o⟩
   case rest=>
   rcases hcut with ⟨rfl,HX⟩ | ⟨rfl,HX⟩;case inr=>
    gi_wp2;refine cU (tW rfl _ _ _) rfl ?_;exact⟨⟨_,rfl⟩,.inr HX.o⟩
   obtain⟨L1,hJ1,hK1,hC1⟩:=HX.o;rename η=>wc;have HJ1:=zq hJ1;have HKc:=zq hK1;have HCv:=zq hC1;clear hJ1 hK1 hC1 HX d0 d1 d2 d3 d4 HJb HSn bc7 bc8 HC0 HFT HSp;have k2:=HKc.o.cell k1;have kl2:=aD wc ⟨Bf,0,δ⟩ k2;have bu7:(k:Int)<=(ca:Int):=oM;gi_wp2;gi_loopw [32] (fun i wr2=>∃ (j:Nat) (L2:List Rat),i=Υ Ξ (j:Int)/\j<=k/\aQ (J L2 wr2)/\aQ (jO B wb wr2)/\aQ (Zr fs k j L L2))
    (fun i _=>k - (ξ i).toNat)
   case atStart=>exact⟨0,L1,rfl,aP _,HJ1.o,HKc.o,HCv.o⟩
   case round=>
    obtain⟨j,L2,rfl,hj,HJ2,Ma,Ny⟩:=hrel;have HKw:=zq (HKb.o.trans Ma.o);have wF:=zq HKw.o.1;by_cases hlt2:j < k
    .obtain⟨fb',fo',e1,c0,c1,c2,c3,c4⟩:=(Hfs.o _ wF.o).at (i:=j) (by rw [Hf.o];omega) rfl;injection e1 with e1;injection e1 with e1 e2;subst e1 e2;have aS4:=zq (aB1.o j oM);have bn9:=zq (bn8.o j hlt2);have bc9:=zq (PD.o j);unfold Fr.v Fr.cells at aS4;generalize fs.getD j Γ=g,(fs.getD j Γ).q=gq at *;obtain⟨O7,re,IL,gsp,gst⟩:=g;simp only [] at *;have Q4j:=zq (Ma.o.blk Q4.o);have k3:=Ma.o.cell k1;obtain⟨d0,d1,d2,d3,d4⟩:=Q4j.o.front;have hl4:=Q4j.o.lt;generalize bs gst=GT,bs gsp=GS,bs Ll=Fsq at *;have hB6:=nA wr (π #[ω O7,Υ Ξ re,Υ Ξ IL,Δ GS,Δ GT] 46);have xU:=zq hB6;have Ln:=zq (wF.o.trans (hB6.mono (aA rj wF.o.size)));clear hB6;gi_wp2_with fail;refine⟨trivial,(callsIn_wide.2 (aS4.o _ Ln.o)).mono ?_⟩;rintro e W6 ⟨⟨a',n',Ip,cc,Lq,rfl,hl,hn',hr,hm,hq⟩,hb6⟩;have aS5:=xU.bS hb6;have HK6:=zq (Ma.o.trans (jO.call aS5.o (aA rj wF.o.size)));have HJ6:=zq (HJ.o _ _ _ HJ2.o aS5.o);have Hl:=zq hl;have Hr:=zq hr;have Hm:=zq hm;have Hq:=zq hq;clear hl hr hm hq hb6 xU Ln aS4 c0 c1 c2 c3 c4 d0 d1 d2 d3 d4 k3 hl4 Q4j HJ2 Ma HKw wF aS5;gi_wp2;gi_loopw [44] (fun i wr3=>∃ (m:Nat) (L3:List Rat),i=Υ Ξ (m:Int)/\m<=n' /\aQ (J L3 wr3)/\aQ (jO B wb wr3)/\aQ (jO B W6 wr3)/\aQ (Zr fs k j L L3)/\aQ (∀ z∈Lq.take m,z∈L3))
      (fun i _=>n' - (ξ i).toNat)
     case atStart=>exact⟨0,L2,rfl,aP _,HJ6.o,HK6.o,jO.refl _ _,Ny.o,fun z h=>absurd h sP⟩
     case round=>
      obtain⟨m,L3,rfl,hm',HJ3,HK3,bd0,HC3,sq⟩:=hrel;by_cases hlt3:m < n'
      .obtain⟨ab,ao,rfl,x0⟩:=(bd0.o.rdv Hr.o) m (by rw [uQ,υ,Hl.o];exact hlt3);have L7:m < Lq.length:=by rw [Hl.o];exact hlt3
       have hxz:(dQ (Lq.map aO)).getD m ψ=Δ (bs (aO (Lq.getD m 0))):=by simp [dQ,Ω,L7]
       rw [hxz] at x0;have hzm:Lq.getD m 0∈Lq:=aN L7 0;have HLt:aQ (Lq.take (m+1)=Lq.take m ++ [Lq.getD m 0]):=by
        show _=_;rw [bM L7];simp [Ω,L7]
       obtain⟨fny,tmy,asy,boy,hy,hR⟩:=HY.o L3 (Lq.getD m 0) wr ⟨Hq.o _ hzm,bn9.o _ ((Hm.o _).1 hzm)⟩ HJ3.o;clear hxz L7 hzm;generalize Lq.getD m 0=z at *;generalize bs (aO z)=ZT at *;gi_wp2;refine hR.mono ?_;rintro e W7 (⟨rfl,hJ7,hK7⟩ | ⟨rfl,hx⟩)
       .have HJ7:=zq hJ7;have HK7:=zq (HK3.o.trans hK7);have bo0:=zq (bd0.o.trans hK7);have HC7:=zq (HC3.o.more z);have HL7:aQ (∀ x∈Lq.take (m+1),x∈L3 ++ [z]):=fun x hx=>by
         rw [HLt.o] at hx;rcases List.mem_append.1 hx with h | h
         .exact gU _ (sq.o x h)
         .exact rM _ h
        clear hJ7 hK7;gi_wp2;go_roundw;case rel=>exact⟨m+1,L3 ++ [z],by go_num,oM,HJ7.o,HK7.o,bo0.o,HC7.o,HL7.o⟩
        case measure=>simp only [ξ];omega
       .have R:aQ (∃ L1,Jx L1 W7):=⟨_,hx⟩;gi_wp2;refine cU (tW rfl _ _ _) rfl ?_;exact⟨⟨_,rfl⟩,.inr R.o⟩
      .obtain rfl:n' =m:=oM;have HC4:=zq (bc9.o L3 Lq HC3.o (fun z hz=>sq.o z (by rw [eA (by rw [Hl.o];exact θ _)];exact hz)) Hm.o);clear sq bc9;gi_wp2;go_roundw;case rel=>exact⟨j+1,L3,by go_num,oM,HJ3.o,HK3.o,HC4.o⟩
       case measure=>simp only [ξ];omega
    .obtain rfl:k=j:=oM;have ri:=zq (bc6.o L2 Ny.o);clear bc6 Ny;gi_wp2;go_roundw;case rel=>exact⟨k+1,L2,by go_num,oM,HJ2.o,HKw.o,ri.o⟩
     case measure=>simp only [ξ];omega
  .obtain rfl:nf=k:=oM;gi_wp2;go_end0;exact⟨⟨_,rfl⟩,.inl ⟨L,fun z hz=>by
    obtain⟨i,hi,h⟩:=ah2.1 hz;exact HL.o i (by rw [<- Hf.o];exact hi) z h,HJk.o⟩⟩
end
end
section
open Go Go.RowKit Go.Lib
theorem Ym.at{a:Option bW}{qs:List Po}(h:Ym w a qs)(hi:i<qs.length){p:Po}(hp:qs.getD i Γ=p):∃b off,a=ζ ⟨b,off,δ⟩/\w.cell? ⟨b,off+i*2,δ⟩=ζ (Δ (bs p.x))/\w.cell? ⟨b,off+i*2+1,δ⟩=ζ (Δ (bs p.y)):=by
 subst hp;exact h i hi
def cJ(ps:List Pt):List χ:=ps.flatMap fun p=>[Υ Ξ p.side,Δ (bs p.fr),Δ (bs p.en)]
theorem Tn(ps p):cJ (ps++[p])=cJ ps++[Υ Ξ p.side,Δ (bs p.fr),Δ (bs p.en)]:=by simp[cJ]
theorem tO(ps qs):cJ (ps++qs)=cJ ps++cJ qs:=by simp[cJ]
theorem oW(ps):(cJ ps).length=3*ps.length:=by
 induction ps with
 |nil=>rfl
 |cons q qs ih=>simp[cJ]at *;omega
theorem tF:∀(ps:List Pt)(i:Nat),i<ps.length->(cJ ps)[i*3]? =ζ (Υ Ξ (ps.getD i Γ).side)/\(cJ ps)[i*3+1]? =ζ (Δ (bs (ps.getD i Γ).fr))/\(cJ ps)[i*3+2]? =ζ (Δ (bs (ps.getD i Γ).en))
 |[],i,h=>by simp at h
 |q::qs,0,_=>⟨rfl,rfl,rfl⟩
 |q::qs,i+1,h=>by
  have ih:=tF qs i (by simpa using h)
  have e1:(i+1)*3=i*3+1+1+1:=oM
  have e2:(i+1)*3+1=(i*3+1)+1+1+1:=oM
  have e3:(i+1)*3+2=(i*3+2)+1+1+1:=oM
  have e:cJ (q::qs)=Υ Ξ q.side::Δ (bs q.fr)::Δ (bs q.en)::cJ qs:=rfl
  rw[e3,e2,e1,e]
  simp only[cO,jS]
  exact ih
theorem Ih.own{a:Option bW}{n:Nat}(h:w.ownsRow cH e 3 (Θ a n cap) n (cJ ps)):Ih w a ps:=by
 intro i hi;have hl:=h.1;rw[oW]at hl;rcases h.2 with⟨_,h2⟩|⟨g,c,pZ,hv,_⟩
 .omega
 .injection hv with e1 e2 e3;subst e1 e3;obtain⟨k1,k2,k3⟩:=tF ps i hi;refine⟨g,0,rfl,fun j hj=>?_⟩;rw[bD,dN h (i*3+j) oM];match j,hj with
  |0,_=>exact k1
  |1,_=>exact k2
  |2,_=>exact k3
theorem wI:(Tryz.prog.info? 35).map (fun i=>(i.zero,i.size,i.bytes))=ζ (ζ (bQ #[Υ Ξ 0,Δ ⟨#[]⟩,Δ ⟨#[]⟩]),3,40):=kF
theorem VA:(Tryz.prog.info? 32).map (fun i=>(i.zero,i.size,i.bytes))=ζ (ζ (Θ δ 0 0),1,24):=kF
theorem ah4{o:eZ}{Q:sG->iS->η->Prop}(Io:o.guard=δ)(s x)(ho:o.op=.call {callee:=.builtin .append,args:=#[s,x],argTypes:=#[32,32]})(cH v n xs)(hs:a.eval s=v)(cT:w.ownsRow cH 35 3 v n xs)(d y z)(hx:a.eval x=Θ (ζ ⟨w.heap.size,0,δ⟩) 1 1)(OZ:n+1<=2147483648)(kH:cH<=w.heap.size)(h:∀g cap w',w'.ownsRow cH 35 3 (Θ (ζ ⟨g,0,δ⟩) (n+1) cap) (n+1) (xs++[Υ Ξ d,Δ y,Δ z])->cH<=g->w.grownBy w' v.ownBlock->
  Dk γ cF Q rest (a.put o.dst (Θ (ζ ⟨g,0,δ⟩) (n+1) cap)) w'):
 Dk γ cF Q (o::rest) a (w.alloc (π #[Υ Ξ d,Δ y,Δ z] 35)):=by
 obtain⟨i0,hi,Ak,yP,uT⟩:=jJ wI;exact xH Io s x 32 ho cH 35 i0 (bQ #[Υ Ξ 0,Δ ⟨#[]⟩,Δ ⟨#[]⟩]) 3 40 rQ hi Ak yP uT rfl dD v n xs hs cT [Υ Ξ d,Δ y,Δ z] hx rfl (by simp[iP]) OZ dD kH h
theorem VC{o:eZ}{Q:sG->iS->η->Prop}(Io:o.guard=δ)(s x)(ho:o.op=.call {callee:=.builtin .append,args:=#[s,x],argTypes:=#[28,28]})(cH v n xs)(hs:a.eval s=v)(cT:w.ownsRow cH 32 1 v n xs)(ad m c)(hx:a.eval x=Θ (ζ ⟨w.heap.size,0,δ⟩) 1 1)(OZ:n+1<=2147483648)(kH:cH<=w.heap.size)(h:∀g cap w',w'.ownsRow cH 32 1 (Θ (ζ ⟨g,0,δ⟩) (n+1) cap) (n+1) (xs++[Θ ad m c])->cH<=g->w.grownBy w' v.ownBlock->
  Dk γ cF Q rest (a.put o.dst (Θ (ζ ⟨g,0,δ⟩) (n+1) cap)) w'):
 Dk γ cF Q (o::rest) a (w.alloc (π #[Θ ad m c] 32)):=by
 obtain⟨i0,hi,Ak,yP,uT⟩:=jJ VA;exact xH Io s x 28 ho cH 32 i0 (Θ δ 0 0) 1 24 underlying28 hi Ak yP uT rfl dD v n xs hs cT [Θ ad m c] hx rfl (by simp[iP]) OZ dD kH h
def gM(B:Nat)(W:η)(v:χ)(Kg:List Lp):Prop:=
 W.ownsRow B 32 1 v Kg.length (Kg.map Lp.v)/\∀l∈Kg,W.ownsRow B 35 3 l.v l.ps.length (cJ l.ps)
theorem gM.below{v:χ}(h:gM B W v aZ)(hb:Bw W W'):gM B W' v aZ:=
 ⟨aR h.1 hb,fun l hl=>aR (h.2 l hl) hb⟩
theorem gM.grow{v:χ}{l:Lp}(h:gM B W v aZ)(hl:W.ownsRow B 35 3 l.v l.ps.length (cJ l.ps))(hg:W.grownBy W' v.ownBlock)(cT:W'.ownsRow B 32 1 (Θ (ζ ⟨g,0,δ⟩) (aZ.length+1) cap) (aZ.length+1) (aZ.map Lp.v++[l.v])):
 gM B W' (Θ (ζ ⟨g,0,δ⟩) (aZ.length+1) cap) (aZ++[l]):=by
 refine⟨by rw[aJ,dV];exact cT,fun x hx=>?_⟩;rcases List.mem_append.1 hx with hx|hx
 .exact(h.2 x hx).kept hg (pQ (h.2 x hx) h.1 dD)
 .rw[List.mem_singleton.1 hx];exact hl.kept hg (pQ hl h.1 dD)
theorem gM.reads{a:Option bW}{n:Nat}(h:gM B W (Θ a n cap) aZ):CE W a aZ:=by
 intro i hi;have hl:=aN hi (Γ:Lp);have h2:=h.2 _ hl;rcases h.1.2 with⟨_,h3⟩|⟨g,c,pZ,hv,_⟩
 .omega
 .injection hv with e1 e2 e3;subst e1 e2 e3;refine⟨g,0,rfl,?_,Ih.own h2⟩;rw[bD,dN h.1 i oM];simp[Ω,hi]
def Zt(w:η)(Vi:List (List Pt))(err:Int)(e:Fg)(w':η):Prop:=
 (∃a cap,∃aZ:List Lp,e=σ (bT #[Θ a Vi.length cap,Υ Ξ err])/\aZ.map Lp.ps=Vi/\CE w' a aZ)/\Bw w w'
end
end Go.Proofs.YtncclggcfgnhpaaGreatDoor
