import Derived.Test.YtncclggcfgnhpaaGreatDoorZ2
namespace Go.Proofs.YtncclggcfgnhpaaGreatDoor
set_option maxRecDepth 100000
set_option maxHeartbeats 8000000
set_option linter.all false
open Go.Proofs.Tryz
open _root_.Array renaming replicate_succ->bG,replicate_zero->bH,replicate->gA,size_append->lM,getElem?_setIfInBounds->yJ,setIfInBounds->yV,getElem?_eq_none->Du
open _root_.Bool renaming true->ι,false->ν,and_eq_true->aI,false_eq_true->aK,not_eq_true'->bX,or_eq_true->jZ,eq_iff_iff->oC
open _root_.Go renaming World->η,Value->χ,undef->ψ,Calls->aE,Addr->bW,Program->cQ,TypeId->cS,bodyPost_ret->cU,heap_setCell_other->dG,below_drewN->dO,wpAnyH_ready->eM,Oper->eZ,results->gP,KeepsFrom->iB,run_takeDeferred->iD,Act->iS,info_parts->jJ,Operand->mC,grownBy_putObj'->pX,Exit->sG,yielded->rP,ready_mono->oY,results_none->tW,getD_set_ne->qQ,wpAnyH_done->wR,maxLen->yE,size_zeroCells->Bj,wpList->Dk,Code->Dl,Fence->Jy,getD_set_true->D5,callsIn_of_wp->ol
open Go.AllReadyH renaming cons->cP,nil->dH
open Go.Calls renaming mono->uN
open Go.Code renaming region->pS
open Go.Ending renaming returned->σ
open Go.Fence renaming wide->eD
open Go.Instr renaming lookup->pT,mapUpdate->DW,index->M4
open Go.IntKind renaming i64->Ξ
open Go.IntWalk renaming i64_in->aM
open Go.KeepsOthers renaming of_grownBy->FN
open Go.Lib renaming compactUpTo->lL
open Go.Obj renaming cells->π
open Go.Oper renaming semAt_some->eQ,wp->OQ
open Go.OwnFrom renaming and->eJ
open Go.Proofs renaming enters_of->iC
open Go.Proofs.Lays8 renaming n4->Bq
open Go.Proofs.Tryz renaming prog->γ,underlying3->dB,underlying4->eW,zeroValue4->gJ,zeroValue3->gV,sizeOf3->gW,underlying68->jL,isAgg3->jF,underlying9->jG,sizeOf4->jR,isAgg4->lK,zeroValue9->mB,sizeOf9->oN,underlying0->pK,isAgg9->qH,zeroValue0->rK,underlying32->rQ,sizeOf0->xT,isAgg0->Aj,underlying132->Js
open Go.Region renaming ready->cG,wanted->dU,Mode->gD,noSelect->lE,free->nH,binds->pH
open Go.RowKit renaming intOf->ξ,Hid->aQ
open Go.RowKit.Below renaming refl->μ,heap_alloc->xR
open Go.Sem renaming run->fD
open Go.Shelf renaming Ren->iG
open Go.Value renaming string->Δ,slice->Θ,int->Υ,bool->ω,pointer->aB,agg->bQ,oneCell'->iP,ownBlock->iQ
open Go.World renaming block_lt_of_cell?->aD,size_alloc->aL,alloc_heap_new->kZ,ownsRow_nil->rN,news_of_block->dr,grownBy_alloc->de
open Go.World.ownsRow renaming cellAt->dN,frozenAt->jB,stored->Br
open _root_.Inhabited renaming default->Γ
open _root_.Int renaming toNat_of_nonneg->fE,tmod_eq_emod_of_nonneg->kO,add_zero->mP
open _root_.List renaming getD_eq_getElem?_getD->Ω,length_map->υ,length_cons->aC,length_append->aJ,getElem?_eq_getElem->aS,getElem?_cons_zero->aU,length_nil->bB,getElem?_toArray->bC,size_toArray->bI,take_succ_eq_append_getElem->bM,cons_append->bV,append_toArray->bN,mem_cons_self->bO,mem_cons_of_mem->cC,push_toArray->cE,range->cI,nil_append->cM,getElem?_cons_succ->cO,length_drop->dJ,mem_singleton->dE,length_take->dR,take_of_length_le->eA,map_congr_left->eB,map_append->dV,map_map->eH,getElem?_append_right->fA,getElem_mem->fJ,flatMap_cons->gS,mem_append_left->gU,mem_append->iV,length_range->jQ,getD_cons_succ->jS,mem_cons->jT,flatMap_append->kA,getElem?_take->kP,append_nil->kQ,getElem?_eq_none->nW,map->oO,not_mem_nil->pL,mem_append_right->rM,range_succ->sB,append_assoc->sI,getElem?_map->oP,length_reverse->tM,length_filter_le->xF,length_mergeSort->xG,mem_range->xS,pairwise_iff_getElem->Cz,reverse_cons->KX,foldl_append->Mm,ext_getElem?->Mo,replicate->Qg,sum_replicate_nat->Yd,mem_of_mem_take->dj,length_flatMap->oo
open _root_.List.Pairwise renaming imp_of_mem->zm
open _root_.Nat renaming le_refl->θ,le_trans->aA,mod_eq_of_lt->aT,zero_le->aP,mod_lt->aV,zero_add->bD,reduceAdd->cL,lt_of_lt_of_le->cN,reduceSub->dF,le_of_lt->fM,lt_or_ge->fO,eq_zero_or_pos->iZ,add_zero->jN,mul_le_mul_right->tA,zero_mul->vO,not_lt_zero->vJ,lt_succ_self->Fk,one_mul->OU,add_mul->nu
open _root_.Option renaming none->δ,some->ζ,getD_some->bK,map_some->yF
variable{W W' Z w w' A C V V':η}{gx gy X Y c B B2 e g i k cH size cap j O gf off G cx cy m2 m3 m4 fuel id:Nat}{xs:List χ}{ys at':List (List UInt8)}{a:iS}{cs args lb ds:Array χ}{T U:cS}{α β κ τ:Type}{p P:cQ}{l us:List Wy}{rest:List eZ}{f:FQ}{s:Sg}{t:List UInt8}{L:Array Bool}{F:Jy}{cF:Array eZ}{fn:Func}{z:Rat}{row:Option Nat}{fs:List Fr}{ps:List Pt}{assign body:Dl}{aZ:List Lp}{xv yv:χ}{E:List Sg}{S N:WL}{I:SL}{oi:eZ}{rs:List Nat}
section
open Go.Shelf
def Tryz.grW_ren:iG:=⟨fun |4=>175|n=>n,fun |22=>132|25=>130|3=>3|4=>4|9=>9|20=>20|0=>0|n=>n,fun |n=>n⟩
theorem Tryz.grW:Bq γ Tryz.grW_ren:={
 mixed:=kF
 f4:=⟨Tryz.f175.name,dD,zf func175⟩
 t0:=pK
 a0:=Aj
 z0:=xT
 v0:=rK
 t3:=dB
 a3:=jF
 z3:=gW
 v3:=gV
 t4:=eW
 a4:=lK
 z4:=jR
 v4:=gJ
 t9:=jG
 a9:=qH
 z9:=oN
 v9:=mB
 t20:=underlying20
 a20:=isAgg20
 z20:=sizeOf20
 v20:=zeroValue20
 t22:=Js
 a22:=isAgg132
 z22:=sizeOf132
 v22:=zeroValue132}
open Go Go.RowKit Go.Lib Go.Shelf
structure Sl where
 b:Nat
 off:Nat
 len:Nat
 cap:Nat
 cs:List χ
deriving Inhabited
def Sl.v(l:Sl):χ:=Θ (ζ ⟨l.b,l.off,δ⟩) l.len l.cap
def Sl.ok(l:Sl):Prop:=l.cs.length=l.len*3/\∀u∈l.cs,u.oneCell'=ι
def Sl.Rd(l:Sl)(W:η):Prop:=∀(j:Nat)(u:χ),l.cs[j]? =ζ u->W.cell? ⟨l.b,l.off+j,δ⟩=ζ u
def RdS(W:η)(a:Option bW)(ls:List Sl):Prop:=∀i,i<ls.length->∃b off,a=ζ ⟨b,off,δ⟩/\W.cell? ⟨b,off+i,δ⟩=ζ (ls.getD i Γ).v/\(ls.getD i Γ).Rd W
theorem Sl.Rd.below{l:Sl}(h:l.Rd W)(hb:Bw W W'):l.Rd W':=fun j u hu=>(hb.cell (p:=⟨l.b,l.off+j,δ⟩) (aD W _ (h j u hu))).trans (h j u hu)
theorem RdS.below{a:Option bW}{ls:List Sl}(h:RdS W a ls)(hb:Bw W W'):RdS W' a ls:=fun i hi=>by
 obtain⟨b,off,rfl,h1,h2⟩:=h i hi
 exact⟨b,off,rfl,(hb.cell (p:=⟨b,off+i,δ⟩) (aD W _ h1)).trans h1,h2.below hb⟩
def iK(ls:List Sl):Nat->Nat
 |0=>0
 |k+1=>iK ls k+(ls.getD k Γ).len
def vL(ls:List Sl):List χ:=ls.flatMap Sl.cs
theorem Kh{ls:List Sl}(hk:k<ls.length):vL (ls.take (k+1))=vL (ls.take k)++(ls.getD k Γ).cs:=by
 unfold vL;rw[bM hk,kA];simp[Ω,hk]
theorem Mz{ls:List Sl}{n:Nat}(h:∀i,i<n->(ls.getD i Γ).len<=10000):∀k,k<=n->iK ls k<=k*10000
 |0,_=>θ _
 |k+1,hk=>by
  have h1:=Mz h k oM
  have h2:=h k oM
  rw[iK,Nat.succ_mul];omega
theorem Nz:(Tryz.prog.info? 130).map (fun i=>(i.zero,i.size,i.bytes))=ζ (ζ (bQ #[Υ Ξ 0,Υ Ξ 0,Υ Ξ 0]),3,24):=kF
theorem bd1(n:Nat)(w:η)(h0:0<n)(hn:n<=100000000):
 aE γ 175 #[Θ δ 0 0,Υ Ξ n] w fun e w'=>(∃g cap,e=σ (Θ (ζ ⟨g,0,δ⟩) 0 cap)/\w'.ownsRow w.heap.size 130 3 (Θ (ζ ⟨g,0,δ⟩) 0 cap) 0 [])/\Bw w w':=by
 obtain⟨i0,hi,Ak,yP,uT⟩:=jJ Nz;have H:=Any8.slices_Grow_grow Tryz.grW i0 (bQ #[Υ Ξ 0,Υ Ξ 0,Υ Ξ 0]) hi Ak (by rw[yP];decide) δ 0 0 n [] w (θ _) oM (by rw[uT];omega) oM sP (fun _=>rfl) (fun a e=>(by cases e));refine uN H ?_;rintro e w'⟨rfl,rfl⟩;refine⟨⟨w.heap.size,_,rfl,rfl,.inr ⟨w.heap.size,_,_,rfl,θ _,kZ w.drew _,aP _,?_,?_,rfl⟩⟩,((μ _ w).drew.alloc sP _)⟩
 .exact grownCap_le_maxLen w _ _ _ (by unfold yE;omega)
 .have:=grownCap_ge w (0+n) 0 (Tryz.grW_ren.t 25);rw[lM,lM,Bj,Bj];simp only[Value.cells,bI,aC,bB];generalize grownCap w (0+n) 0 (Tryz.grW_ren.t 25)=c at *;omega
theorem bo1{w:η}{cF:Array eZ}{rest:List eZ}{o:eZ}{a:iS}{Q:sG->iS->η->Prop}(Io:o.guard=δ)(s x:mC)
 (ho:o.op=.call {callee:=.builtin .append,args:=#[s,x],argTypes:=#[132,132]})(cH:Nat)
 (gv cv n:Nat)(xs:List χ)(hs:a.eval s=Θ (ζ ⟨gv,0,δ⟩) n cv)(cT:w.ownsRow cH 130 3 (Θ (ζ ⟨gv,0,δ⟩) n cv) n xs)
 (l:Sl)(hx:a.eval x=l.v)(hl:l.ok)(hr:l.Rd w)(OZ:n+l.len<=100000000)(kH:cH<=w.heap.size)
 (h:∀g cap w',w'.ownsRow cH 130 3 (Θ (ζ ⟨g,0,δ⟩) (n+l.len) cap) (n+l.len) (xs++l.cs)->cH<=g->w.grownBy w' (ζ gv)->
  Dk γ cF Q rest (a.put o.dst (Θ (ζ ⟨g,0,δ⟩) (n+l.len) cap)) w'):
 Dk γ cF Q (o::rest) a w:=by
 obtain⟨i0,hi,Ak,yP,uT⟩:=jJ Nz;refine wpList_append_own _ Io s x 132 ho cH 130 i0 (bQ #[Υ Ξ 0,Υ Ξ 0,Υ Ξ 0]) 3 24 Js hi Ak yP uT rfl dD _ n xs hs cT ⟨l.b,l.off,δ⟩ l.len l.cap l.cs hx hl.1 (fun j u hj=>by rw[Addr.add_lit];exact hr j u hj) hl.2
  (by unfold yE;omega) oM kH ?_
 intro v' w' lH hg JJ;rcases lH.2 with⟨h1,h2⟩|⟨g',Ip,pZ,hv,h3,-⟩
 .have:=(JJ.1 h1).1;cases this
 .subst hv;exact h g' Ip w' lH h3 hg
theorem aB2(a n ca ls w)(hl:ls.length=n)(hn:n<=1000)(lI:∀l∈ls,l.len<=10000/\l.ok)(hpos:0<iK ls n)(rl:RdS w a ls):
 aE γ 123 #[Θ a n ca] w fun e w'=>(∃g cap,e=σ (Θ (ζ ⟨g,0,δ⟩) (iK ls n) cap)/\w'.ownsRow w.heap.size 130 3 (Θ (ζ ⟨g,0,δ⟩) (iK ls n) cap) (iK ls n) (vL ls))/\Bw w w':=by
 have yX:∀i,i<n->(ls.getD i Γ).len<=10000/\(ls.getD i Γ).ok:=fun i hi=>lI _ (aN oM Γ);have Ki:∀k,k<=n->iK ls k<=k*10000:=fun k hk=>Mz (fun i hi=>(yX i oM).1) k hk;have C3:∀k,k<=n->iK ls k<=10000000:=fun k hk=>by have:=Ki k hk;have:k*10000<=1000*10000:=tA _ oM;omega
 have HA:aQ (∀k,k<n->vL (ls.take (k+1))=vL (ls.take k)++(ls.getD k Γ).cs):=fun k hk=>Kh oM;have HAn:aQ (vL (ls.take n)=vL ls):=by show _=_;rw[eA oM]
 have Hm:aQ (∀k,k<n->iK ls (k+1)=iK ls k+(ls.getD k Γ).len):=fun k _=>rfl;have Hb:=zq C3;have Hok:=zq yX;have Hl:=zq hl;have Rl:=zq rl;have HG:=zq (fun W=>bd1 (iK ls n) W hpos (by have:=C3 n (θ _);omega));have hbn:=C3 n (θ _);clear hl lI rl Ki C3 yX;go_enter func123,ntmps123;go_wp2;go_loop [3,11] (fun s i=>∃k:Nat,i=Υ Ξ k/\k<=n/\s=Υ Ξ (iK ls k:Nat)) (fun _ i=>n-(ξ i).toNat);case atStart=>exact⟨0,rfl,aP _,rfl⟩
 case round=>
  obtain⟨k,rfl,hk,rfl⟩:=hrel;by_cases hlt:k<n
  .obtain⟨lb,lo,rfl,c0,-⟩:=Rl.o k (by rw[Hl.o];exact hlt);have b1:=Hb.o k hk;have b2:=Hb.o (k+1) hlt;have e2:=Hm.o k hlt;have HE:=zq e2;rw[e2]at b2;clear e2;generalize ls.getD k Γ=l at *;unfold Sl.v at c0;generalize l.cap=lc,l.off=lof,l.b=la,l.len=m at *;obtain⟨s1,xZ⟩:=nm (iK ls (k+1));rw[xZ]at HE;have O9:=zq xZ;clear xZ;generalize iK ls k=s0 at *;go_wp2;go_round;case rel=>exact⟨k+1,by go_num,oM,by rw[O9.o,HE.o];go_num⟩
   case measure=>simp only[ξ];omega
  .obtain rfl:n=k:=oM;obtain⟨N,hN⟩:=nm (iK ls n);rw[hN]at HG hbn|-;have HN:=zq hN;clear hN hpos;go_wp2_with fail
   refine(HG.o _).mono ?_;rintro e W1⟨⟨g0,Zu,rfl,Em⟩,hb1⟩;have eG:=zq hb1;have Lj:=zq Em;clear hb1 Em HG;go_wp2;go_loopw[6,27] (fun o i wr=>∃(k g cap:Nat),i=Υ Ξ k/\k<=n/\o=Θ (ζ ⟨g,0,δ⟩) (iK ls k) cap/\aQ (wr.ownsRow w.heap.size 130 3 (Θ (ζ ⟨g,0,δ⟩) (iK ls k) cap) (iK ls k) (vL (ls.take k)))/\aQ (Bw w wr)) (fun _ i _=>n-(ξ i).toNat);case atStart=>exact⟨0,g0,Zu,rfl,aP _,rfl,Lj.o,eG.o⟩
   case round=>
    clear eG Lj;obtain⟨k,g,cap,rfl,hk,rfl,sS,HB⟩:=hrel;by_cases hlt2:k<n
    .obtain⟨lb,lo,rfl,c0,rp⟩:=(Rl.o.below HB.o) k (by rw[Hl.o];exact hlt2);have HE:=zq (Hm.o k hlt2);have b2:=Hb.o (k+1) hlt2;rw[HE.o]at b2;have im:=zq (HA.o k hlt2);have Rp:=zq rp;have Ok:=zq (Hok.o k hlt2).2;clear rp;generalize ls.getD k Γ=l at *;obtain⟨lbb,lof,m,lc,cs⟩:=l;unfold Sl.v at c0;simp only[]at *;obtain⟨s1,xZ⟩:=nm (iK ls (k+1));rw[xZ]at HE;have O9:=zq xZ;clear xZ;generalize iK ls k=s0 at *;have cT:=sS.o;have O6:=HB.o.size;have hb3:s0+m<=100000000:=oM;go_wp2_with (at_builtin;refine bo1 rfl _ _ rfl w.heap.size g cap s0 _ rfl cT ⟨lbb,lof,m,lc,cs⟩ rfl Ok.o Rp.o hb3 O6 ?_;intro g5 Tj w5 lJ sj sT;simp only[]at lJ)
     have wG:=zq (dT (v:=Θ (ζ ⟨g,0,δ⟩) s0 cap) HB.o sT cT (θ _) O6);rw[<-im.o,<-HE.o]at lJ;have io:=zq lJ;clear cT lJ sT;go_wp2;go_roundw;case rel=>exact⟨k+1,g5,Tj,by go_num,oM,by rw[O9.o,HE.o],by rw[O9.o];exact io.o,wG.o⟩
     case measure=>simp only[ξ];omega
    .obtain rfl:n=k:=oM;rw[HAn.o,HN.o]at sS;rw[HN.o];go_wp2;go_ret;exact⟨⟨g,cap,by first |rfl|(rw[HN.o];rfl),by rw[HN.o];exact sS.o⟩,HB.o⟩
end
section
section
variable{α:Type}{lt:α->α->Prop}
end
section
variable{α:Type}{f:α->α}{S:List α}
structure NA(f:α->α)(S:List α):Prop where
 mem:∀w∈S,f w∈S
 inj:∀v∈S,∀w∈S,f v=f w->v=w
theorem NA.itr_mem(h:NA f S){w:α}(hw:w∈S)(k):fW f k w∈S:=by
 induction k with
 |zero=>exact hw
 |succ k ih=>exact h.mem _ ih
theorem NA.back[DecidableEq α](h:NA f S){w:α}(hw:w∈S):∃k,0<k/\k<=S.length/\fW f k w=w/\∀j,0<j->j<k->fW f j w≠w:=by
 obtain⟨k,h1,h2,h3⟩:=ab0 h.mem h.inj hw;have:∀n k,k<=n->0<k->fW f k w=w->∃k',0<k'/\k'<=k/\fW f k' w=w/\∀j,0<j->j<k'->fW f j w≠w:=by
  intro n;induction n with
  |zero=>intro k h1 h2;omega
  |succ n ih=>
   intro k hk h1 h3;by_cases he:∃j,0<j/\j<k/\fW f j w=w
   .obtain⟨j,q1,q2,q3⟩:=he;obtain⟨k',r1,r2,r3,r4⟩:=ih j oM q1 q3;exact⟨k',r1,oM,r3,r4⟩
   .exact⟨k,h1,θ _,h3,fun j q1 q2 q3=>he ⟨j,q1,q2,q3⟩⟩
 obtain⟨k',r1,r2,r3,r4⟩:=this k k (θ _) h1 h3;exact⟨k',r1,oM,r3,r4⟩
theorem NA.apart(h:NA f S){w:α}(hw:w∈S)(hk:∀j,0<j->j<k->fW f j w≠w):∀i j,i<j->j<k->fW f i w≠fW f j w:=by
 intro i;induction i with
 |zero=>intro j h1 h2 e;exact hk j h1 h2 e.symm
 |succ i ih=>
  intro j h1 h2 e;have ej:j=(j-1)+1:=oM;rw[ej]at e;exact ih (j-1) oM oM (h.inj _ (h.itr_mem hw i) _ (h.itr_mem hw (j-1)) e)
theorem NC{w:α}(hk:fW f k w=w){U:α->Prop}(hU:∀v,U v->U (f v))(hw:¬U w):∀j,j<=k->¬U (fW f j w):=by
 intro j hj hu;have:∀i,U (fW f (i+j) w):=fun i=>by
  induction i with
  |zero=>rw[bD];exact hu
  |succ i ih=>rw[show i+1+j=(i+j)+1 by omega];exact hU _ ih
 have h1:=this (k-j);rw[show k-j+j=k by omega,hk]at h1;exact hw h1
def jX(f:α->α)(w:α)(k:Nat):List α:=(cI k).map fun j=>fW f j w
theorem BY(w k):(jX f w k).length=k:=by rw[jX,υ,jQ]
theorem sr(w k):jX f w (k+1)=jX f w k++[fW f k w]:=by rw[jX,jX,sB,dV];rfl
theorem rC{w:α}{v:α}:v∈jX f w k↔∃j,j<k/\fW f j w=v:=by
 rw[jX,List.mem_map];constructor
 .rintro⟨j,h1,h2⟩;exact⟨j,List.mem_range.1 h1,h2⟩
 .rintro⟨j,h1,h2⟩;exact⟨j,List.mem_range.2 h1,h2⟩
theorem sw{w:α}(h0:0<k)(hk:fW f k w=w):∀v∈jX f w k,f v∈jX f w k:=by
 intro v hv;obtain⟨j,h1,rfl⟩:=rC.1 hv;by_cases e:j+1=k
 .exact rC.2 ⟨0,h0,by show w=fW f (j+1) w;rw[e,hk]⟩
 .exact rC.2 ⟨j+1,oM,rfl⟩
end
section
variable{κ τ:Type}[DecidableEq κ](key:Nat->κ)(lo hi:Nat->τ)(z:τ)
def iq:List (κ×τ×τ)->τ->List (κ×τ×τ)
 |[],_=>[]
 |(k,a,_)::l,h=>(k,a,h)::l
def BZ:Nat->List (κ×τ×τ)
 |0=>[]
 |i+1=>if i=0\/key (i-1)≠key i then(key i,lo i,hi i)::BZ i else iq (BZ i) (hi i)
end
end
section
open Go Go.RowKit Go.Lib
def fX(l:List Wy):List χ:=l.flatMap fun w=>[Υ Ξ w.x,Υ Ξ w.y,Υ Ξ w.d]
theorem AJ(l):(fX l).length=l.length*3:=by
 induction l with
 |nil=>rfl
 |cons q qs ih=>simp[fX]at *;omega
theorem Lt(a b):fX (a++b)=fX a++fX b:=by simp[fX]
theorem Lu(l):∀u∈fX l,u.oneCell'=ι:=by
 intro u hu;obtain⟨p,-,h⟩:=List.mem_flatMap.1 hu;simp only[jT,pL,or_false]at h;rcases h with rfl|rfl|rfl<;>rfl
theorem GU:∀(l:List Wy)(i:Nat),i<l.length->(fX l)[i*3]? =ζ (Υ Ξ (l.getD i Γ).x)/\(fX l)[i*3+1]? =ζ (Υ Ξ (l.getD i Γ).y)/\(fX l)[i*3+2]? =ζ (Υ Ξ (l.getD i Γ).d)
 |[],i,h=>by simp at h
 |q::qs,0,_=>⟨rfl,rfl,rfl⟩
 |q::qs,i+1,h=>by
  have:=GU qs i (by simpa using h)
  have e:fX (q::qs)=[Υ Ξ q.x,Υ Ξ q.y,Υ Ξ q.d]++fX qs:=rfl
  rw[e,fA (by simp;omega),fA (by simp;omega),fA (by simp;omega)]
  simp only[aC,bB,jS]
  rw[show(i+1)*3-(0+1+1+1)=i*3 by omega,show(i+1)*3+1-(0+1+1+1)=i*3+1 by omega,show(i+1)*3+2-(0+1+1+1)=i*3+2 by omega]
  exact this
def En(W:η)(b off:Nat)(l:List Wy):Prop:=∀i,i<l.length->W.cell? ⟨b,off+i*3,δ⟩=ζ (Υ Ξ (l.getD i Γ).x)/\W.cell? ⟨b,off+i*3+1,δ⟩=ζ (Υ Ξ (l.getD i Γ).y)/\W.cell? ⟨b,off+i*3+2,δ⟩=ζ (Υ Ξ (l.getD i Γ).d)
theorem En.below{b:Nat}(h:En W b off l)(hb:Bw W W'):En W' b off l:=fun i hi=>by
 obtain⟨h1,h2,h3⟩:=h i hi
 exact⟨(hb.cell (p:=⟨b,_,δ⟩) (aD W _ h1)).trans h1,(hb.cell (p:=⟨b,_,δ⟩) (aD W _ h2)).trans h2,(hb.cell (p:=⟨b,_,δ⟩) (aD W _ h3)).trans h3⟩
theorem En.cells{b:Nat}(h:En W b off l)(j u)(hu:(fX l)[j]? =ζ u):W.cell? ⟨b,off+j,δ⟩=ζ u:=by
 have hj:j<(fX l).length:=by
  rcases fO j (fX l).length with h|h
  .exact h
  .rw[nW h]at hu;cases hu
 rw[AJ]at hj;have hi:j/3<l.length:=oM;obtain⟨k1,k2,k3⟩:=GU l (j/3) hi;obtain⟨c1,c2,c3⟩:=h (j/3) hi;have hr:j%3=0\/j%3=1\/j%3=2:=oM;rcases hr with r|r|r
 .rw[show j=j/3*3 by omega,k1]at hu;rw[show off+j=off+j/3*3 by omega,c1];exact hu
 .rw[show j=j/3*3+1 by omega,k2]at hu;rw[show off+j=off+j/3*3+1 by omega,c2];exact hu
 .rw[show j=j/3*3+2 by omega,k3]at hu;rw[show off+j=off+j/3*3+2 by omega,c3];exact hu
theorem En.part{b:Nat}(h:En W b 0 l)(k):En W b (k*3) (l.drop k):=fun i hi=>by
 rw[dJ]at hi
 have:=h (k+i) oM
 rw[show(l.drop k).getD i Γ=l.getD (k+i) Γ by simp[Ω]]
 rwa[show 0+(k+i)*3=k*3+i*3 by omega]at this
theorem En.front{b:Nat}(h:En W b off l)(k):En W b off (l.take k):=fun i hi=>by
 rw[dR]at hi
 have:=h i oM
 rwa[show(l.take k).getD i Γ=l.getD i Γ by simp[Ω,kP,show i<k by omega]]
theorem En.own{n:Nat}(h:W.ownsRow cH T 3 (Θ (ζ ⟨g,0,δ⟩) n cap) n (fX l)):En W g 0 l:=fun i hi=>by
 have hl:=h.1
 rw[AJ]at hl
 obtain⟨h1,h2,h3⟩:=GU l i hi
 rw[bD]
 exact⟨by rw[dN h _ oM,h1],by rw[dN h _ oM,h2],by rw[dN h _ oM,h3]⟩
section
variable(S:WL)(xs ys:List (List UInt8))
def Yp(w:Wy):List UInt8:=wH xs ys w.x.toNat w.y.toNat w.d
def Ux(w:Wy):List UInt8:=wH xs ys (fU w.x w.d).toNat (fV w.y w.d).toNat w.d
def B7(w:Wy):Nat×Int:=(w.d,rU S w)
theorem wJ(a b):mF S a b=decide (B7 S a=B7 S b):=by
 unfold mF B7;rw[oC,aI,decide_eq_true_eq,decide_eq_true_eq,decide_eq_true_eq,Prod.mk.injEq]
def bo2(e:(Nat×Int)×List UInt8×List UInt8):Pt:=⟨e.1.2,e.2.1,e.2.2⟩
def jY(l:List Wy)(k:Nat):List Pt:=(BZ (fun i=>B7 S (l.getD i Γ)) (fun i=>Yp xs ys (l.getD i Γ)) (fun i=>Ux xs ys (l.getD i Γ)) k).reverse.map bo2
theorem ND(h:k=0\/mF S (l.getD (k-1) Γ) (l.getD k Γ)=ν):jY S xs ys l (k+1)=jY S xs ys l k++[⟨rU S (l.getD k Γ),Yp xs ys (l.getD k Γ),Ux xs ys (l.getD k Γ)⟩]:=by
 unfold jY;rw[BZ,ip]
 .rw[KX,dV];rfl
 .rcases h with h|h
  .exact .inl h
  .rw[wJ,decide_eq_false_iff_not]at h;exact .inr h
theorem Kj[DecidableEq κ](key:Nat->κ)(lo hi:Nat->τ):∀k,0<k->∃e l,BZ key lo hi k=e::l
 |0,h=>absurd h dD
 |k+1,_=>by
  rw[BZ]
  split
  .exact⟨_,_,rfl⟩
  .rename_i hn
   obtain⟨e,l,h⟩:=Kj key lo hi k (by
    rcases iZ k with e|e
    .exact absurd (.inl e) hn
    .exact e)
   rw[h]
   obtain⟨a,b,c⟩:=e
   exact⟨_,_,rfl⟩
theorem Lv(h0:0<k)(h:mF S (l.getD (k-1) Γ) (l.getD k Γ)=ι):∃qs s a z,jY S xs ys l k=qs++[⟨s,a,z⟩]/\jY S xs ys l (k+1)=qs++[⟨s,a,Ux xs ys (l.getD k Γ)⟩]:=by
 unfold jY;rw[wJ,decide_eq_true_eq]at h;rw[BZ,iN (fun c=>c.elim (fun e=>oM) (fun e=>e h))];obtain⟨e,t,he⟩:=Kj (fun i=>B7 S (l.getD i Γ)) (fun i=>Yp xs ys (l.getD i Γ)) (fun i=>Ux xs ys (l.getD i Γ)) k h0;rw[he];obtain⟨a,b,c⟩:=e;exact⟨_,_,_,_,by rw[KX,dV];rfl,by rw[iq,KX,dV];rfl⟩
theorem ah5[DecidableEq κ](key:Nat->κ)(lo hi:Nat->τ)(k):(BZ key lo hi k).length<=k:=by
 induction k with
 |zero=>exact θ _
 |succ k ih=>
  rw[BZ];split
  .rw[aC];omega
  .have:(iq (BZ key lo hi k) (hi k)).length=(BZ key lo hi k).length:=by
    cases BZ key lo hi k with
    |nil=>rfl
    |cons e l=>obtain⟨a,b,c⟩:=e;rfl
   omega
theorem NE(l k):(jY S xs ys l k).length<=k:=by
 unfold jY;rw[υ,tM];exact ah5 _ _ _ _
theorem NF(l)(h:0<k):0<(jY S xs ys l k).length:=by
 unfold jY;obtain⟨e,t,he⟩:=Kj (fun i=>B7 S (l.getD i Γ)) (fun i=>Yp xs ys (l.getD i Γ)) (fun i=>Ux xs ys (l.getD i Γ)) k h;rw[he,υ,tM,aC];omega
def mH(l:List Wy):Nat->Nat
 |0=>0
 |k+1=>if mH l k=k then(if mF S (l.getD ((k+l.length-1)%l.length) Γ) (l.getD k Γ)=ι then k+1 else k)else mH l k
def eO(l:List Wy):Nat:=if mH S l l.length=l.length then 0 else mH S l l.length
theorem sz(l k):mH S l k<=k:=by
 induction k with
 |zero=>exact θ _
 |succ k ih=>unfold mH;split <;>(try split)<;>omega
theorem Lw(h:mH S l k<k):∀j,mH S l (k+j)=mH S l k:=by
 intro j;induction j with
 |zero=>rfl
 |succ j ih=>rw[<-Nat.add_assoc,mH,iN oM,ih]
def Eo(l:List Wy)(k:Nat):List Wy:=l.drop k++l.take k
def fF(l:List Wy):List Pt:=jY S xs ys (Eo l (eO S l)) l.length
theorem ah6(l)(h:k<=l.length):(Eo l k).length=l.length:=by unfold Eo;rw[aJ,dJ,dR];omega
theorem tf(h:0<l.length):eO S l<l.length:=by
 unfold eO;have:=sz S l l.length;split <;>omega
theorem IS{w:Wy}(h:w∈Eo l k):w∈l:=by
 unfold Eo at h;rcases List.mem_append.1 h with h|h
 .exact List.mem_of_mem_drop h
 .exact dj h
end
theorem MB{c1 c2:Array χ}{T1 T2:cS}(h:(w.alloc (π c1 T1)).alloc (π c2 T2)=W):
 bE W w.heap.size c1 T1/\bE W (w.heap.size+1) c2 T2/\Bw w W:=by
 subst h;have:=bE.new (w.alloc (π c1 T1)) c2 T2;rw[aL]at this;exact⟨(bE.new w _ _).alloc _,this,(nA _ _).alloc sP _⟩
theorem bd2(a b c e:Int)(d:Nat)(hd:d<4)(w:η):fD γ (M4 249 (bQ #[Υ Ξ a,Υ Ξ b,Υ Ξ c,Υ Ξ e]) (Υ Ξ d)) w=.ok (Υ Ξ ([a,b,c,e].getD d 0)) w:=by
 match d,hd with
 |0,_=>first |kernel_rfl|rfl
 |1,_=>first |kernel_rfl|rfl
 |2,_=>first |kernel_rfl|rfl
 |3,_=>first |kernel_rfl|rfl
theorem Kk(x y:Int)(d:Nat)(hd:d<4)(w:η)(hx:-1000000<=x/\x<=1000000)(hy:-1000000<=y/\y<=1000000):
 aE γ 119 #[bQ #[Υ Ξ x,Υ Ξ y],Υ Ξ d] w (Rt (bQ #[Υ Ξ (fU x d),Υ Ξ (fV y d)]) w):=by
 have I1:=fun W=>bd2 1 0 (-1) 0 d hd W;have I2:=fun W=>bd2 0 1 0 (-1) d hd W;obtain⟨u,hu⟩:=nm ([1,0,-1,0].getD d (0:Int));obtain⟨v,hv⟩:=nm ([0,1,0,-1].getD d (0:Int));rw[hu]at I1;rw[hv]at I2;have hux:fU x d=x+u/\fV y d=y+v/\-1<=u/\u<=1/\-1<=v/\v<=1:=by
  rw[<-hu,<-hv];match d,hd with
  |0,_=>exact⟨rfl,(mP y).symm,dD,dD,dD,dD⟩
  |1,_=>exact⟨(mP x).symm,rfl,dD,dD,dD,dD⟩
  |2,_=>exact⟨rfl,(mP y).symm,dD,dD,dD,dD⟩
  |3,_=>exact⟨(mP x).symm,rfl,dD,dD,dD,dD⟩
 obtain⟨hX,hY,u1,u2,v1,v2⟩:=hux;rw[hX,hY];have wx:IntKind.i64.wrap (x+u)=x+u:=aM _ oM;have wy:IntKind.i64.wrap (y+v)=y+v:=aM _ oM;clear hu hv hX hY u1 u2 v1 v2 hx hy;obtain⟨q,hq⟩:=nm (x+u);obtain⟨r,hr⟩:=nm (y+v);rw[hq]at wx|-;rw[hr]at wy|-;have wx:IntKind.i64.wrap (x+u)=q:=by rw[hq];exact wx
 have wy:IntKind.i64.wrap (y+v)=r:=by rw[hr];exact wy
 clear hq hr;have hdi:(d:Int)<4:=oM;have B2:=MB (w:=w) (c1:=#[Υ Ξ x,Υ Ξ y]) (c2:=#[Υ Ξ 0,Υ Ξ 0]) (T1:=128) (T2:=128) rfl;obtain⟨q1,q2,hb⟩:=B2;have k0:=q1.ce 0;have k1:=q1.ce 1;have k2:=q2.fz 0;have k3:=q2.fz 1;have l1:=q1.lt;have l2:=q2.lt;have HB:=zq hb;clear hb;go_enter func119,ntmps119;go_wp2;go_region;all_goals
  go_wp2;refine cU (BR (T:=128) Tryz.results119 _ _ (w.heap.size+1) _ _ rfl (MB (c1:=#[Υ Ξ x,Υ Ξ y]) (c2:=#[Υ Ξ q,Υ Ξ r]) (T1:=128) (T2:=128) rfl).2.1 isAgg128 sizeOf128) rfl ⟨rfl,((nA w _).alloc sP _).drew⟩
end
section
open Go Go.RowKit Go.Shelf Go.Lib
def Lx(X Y:Nat)(v:Wy):Prop:=0<=v.x/\v.x<X/\0<=v.y/\v.y<Y/\v.d<4/\0<=fU v.x v.d/\fU v.x v.d<X/\0<=fV v.y v.d/\fV v.y v.d<Y
theorem IT{b n:Nat}{v:χ}(hb:bE W b cs T)(h:W.ownsRow cH e size v n xs)(hne:T≠e):ζ b≠v.ownBlock:=by
 rcases h.2 with⟨h,_⟩|⟨g,c,pZ,h,_,k,_⟩
 .rw[h];simp[iQ]
 .rw[h];intro e;have e:b=g:=by simpa[iQ]using e
  subst e;have Ju:W.heap[b]? =ζ (π cs T (0,0)):=hb;rw[Ju]at k;cases k;exact hne rfl
theorem To{b n:Nat}{v:χ}(hb:bE W b cs T)(h:W.ownsRow cH e size v n xs)(hne:T≠e)(hg:W.grownBy W' v.ownBlock):bE W' b cs T:=(hg.block b hb.lt (IT hb h hne)).trans hb
theorem aS6{A NB:Nat}{p2 p3 p4 x y d:χ}{n:Nat}{v:χ}{us:List χ}{pg:χ}(hA:bE W A #[pg] 74)(hG:bE W G #[xv,yv,p2,p3,p4] 117)(hN:bE W NB #[x,y,d] 130)(ho:W.ownsRow cH 35 3 v n us)(hg:W.grownBy W' v.ownBlock):
 W'.cell? ⟨A,0,δ⟩=ζ pg/\W'.cell? ⟨G,2,δ⟩=ζ p2/\W'.cell? ⟨NB,0,δ⟩=ζ x/\W'.cell? ⟨NB,1,δ⟩=ζ y/\W'.cell? ⟨NB,2,δ⟩=ζ d:=by
 have h1:=To hA ho dD hg;have h2:=To hG ho dD hg;have h3:=To hN ho dD hg;exact⟨h1.cell 0,h2.cell 2,h3.cell 0,h3.cell 1,h3.cell 2⟩
theorem tg{o:eZ}{K:iS->η->Prop}{Q:sG->iS->η->Prop}{E:Prop}(Io:o.guard=δ)(s x)(ho:o.op=.call {callee:=.builtin .append,args:=#[s,x],argTypes:=#[32,32]})(B v n xs)(hs:a.eval s=v)(cT:w.ownsRow B 35 3 v n xs)(nb d y z)(hx:a.eval x=Θ (ζ ⟨nb,0,δ⟩) 1 1)(hnb:bE w nb #[Υ Ξ d,Δ y,Δ z] 35)(OZ:n+1<=100000)(kH:B<=w.heap.size)(h:∀g cap w',w'.ownsRow B 35 3 (Θ (ζ ⟨g,0,δ⟩) (n+1) cap) (n+1) (xs++[Υ Ξ d,Δ y,Δ z])->w.grownBy w' v.ownBlock->(v.ownBlock=ζ g\/g=w.heap.size)->K (a.put o.dst (Θ (ζ ⟨g,0,δ⟩) (n+1) cap)) w'):
 if dU o (rP cF a.tmps)=ι then OQ γ o a w K Q else E:=by
 obtain⟨i0,hi,Ak,yP,uT⟩:=jJ wI;exact step_append_lies w Io s x 32 ho B 35 i0 (bQ #[Υ Ξ 0,Δ ⟨#[]⟩,Δ ⟨#[]⟩]) 3 40 rQ hi Ak yP uT rfl dD v n xs hs cT ⟨nb,0,δ⟩ 1 1 [Υ Ξ d,Δ y,Δ z] hx rfl (dr hnb) (by simp[iP]) dD (by unfold yE;omega) oM kH _ rfl
  fun g cap w' h1 h2 h3 _=>h g cap w' h1 h2 h3
theorem VD{p q:bW}{v u:χ}(hne:p≠q)(h:W.cell? p=ζ v):(W.setCell q u).cell? p=ζ v:=(World.cell?_setCell_other _ _ _ _ (Ne.symm hne)).trans h
theorem PH(qs s a z h):(cJ (qs++[⟨s,a,z⟩])).set (qs.length*3+2) (Δ (bs h))=cJ (qs++[⟨s,a,h⟩]):=by
 rw[tO,tO,List.set_append_right _ _ (by rw[oW];omega),oW,show qs.length*3+2-3*qs.length=2 by omega];rfl
theorem NG{m:Nat}{qs:List Pt}{s:Int}{a z:List UInt8}(h:W.ownsRow cH 35 3 (Θ (ζ ⟨g,0,δ⟩) (m+1) c) (m+1) (cJ (qs++[⟨s,a,z⟩])))(hm:qs.length=m)(u):
 (W.setCell ⟨g,m*3+2,δ⟩ (Δ (bs u))).ownsRow cH 35 3 (Θ (ζ ⟨g,0,δ⟩) (m+1) c) (m+1) (cJ (qs++[⟨s,a,u⟩])):=by
 have:=(Br h (m*3+2) (Δ (bs u))).1;rw[<-hm]at this|-;rwa[PH]at this
theorem aS7{xs:List (List UInt8)}{v:Wy}(hv:Lx X Y v)(hg:iJ W G (Θ (ζ ⟨gx,0,δ⟩) X cx) (Θ (ζ ⟨gy,0,δ⟩) Y cy) m2 m3 m4 S N I)(hl:Lns W gx gy X Y xs ys):
 aE γ 124 #[aB (ζ ⟨G,0,δ⟩),bQ #[Υ Ξ v.x,Υ Ξ v.y],Υ Ξ v.d] W (Rt (Δ (bs (Yp xs ys v))) W):=by
 obtain⟨h1,h2,h3,h4,h5,-⟩:=hv;have:=Np G gx gy X Y cx cy m2 m3 m4 S N I xs ys v.x.toNat v.y.toNat v.d h5 oM oM W hg hl;rw[fE h1,fE h3]at this;exact this
theorem aS8{xs:List (List UInt8)}{v:Wy}(hv:Lx X Y v)(hg:iJ W G (Θ (ζ ⟨gx,0,δ⟩) X cx) (Θ (ζ ⟨gy,0,δ⟩) Y cy) m2 m3 m4 S N I)(hl:Lns W gx gy X Y xs ys):
 aE γ 124 #[aB (ζ ⟨G,0,δ⟩),bQ #[Υ Ξ (fU v.x v.d),Υ Ξ (fV v.y v.d)],Υ Ξ v.d] W (Rt (Δ (bs (Ux xs ys v))) W):=by
 obtain⟨-,-,-,-,h5,h1,h2,h3,h4⟩:=hv;have:=Np G gx gy X Y cx cy m2 m3 m4 S N I xs ys (fU v.x v.d).toNat (fV v.y v.d).toNat v.d h5 oM oM W hg hl;rw[fE h1,fE h3]at this;exact this
theorem Zv(G gx gy X Y cx cy m2 m3 m4 S N I xs ys b n cap l w)(hX:X<=100000)(hY:Y<=100000)(SY:0 < n)(hn:n<=10000)(Kf:n<=cap)(hln:l.length=n)(hv:∀ v∈l,Lx X Y v)(hg:iJ w G (Θ (ζ ⟨gx,0,δ⟩) X cx) (Θ (ζ ⟨gy,0,δ⟩) Y cy) m2 m3 m4 S N I)(hl:Lns w gx gy X Y xs ys)(rw':En w b 0 l):
 aE γ 71 #[aB (ζ ⟨G,0,δ⟩),Θ (ζ ⟨b,0,δ⟩) n cap] w fun e w'=>(∃ g c,e=σ (Θ (ζ ⟨g,0,δ⟩) (fF S xs ys l).length c)/\w'.ownsRow w.heap.size 35 3 (Θ (ζ ⟨g,0,δ⟩) (fF S xs ys l).length c) (fF S xs ys l).length (cJ (fF S xs ys l)))/\Bw w w':=by
 have fL:=nA w (π #[aB (ζ ⟨G,0,δ⟩)] 74);have q0:=bE.new w #[aB (ζ ⟨G,0,δ⟩)] 74;obtain⟨W0,fI⟩:=nm (w.alloc (π #[aB (ζ ⟨G,0,δ⟩)] 74));have JU:=hg.below fL;have hl0:=hl.below fL;have hr0:=rw'.below fL;rw [fI] at fL q0 JU hl0 hr0;have HSa:aQ (∀ i j,i < n->j < n->∀ W,Bw W0 W->aE γ 122 #[bQ #[Υ Ξ (l.getD i Γ).x,Υ Ξ (l.getD i Γ).y,Υ Ξ (l.getD i Γ).d],bQ #[Υ Ξ (l.getD j Γ).x,Υ Ξ (l.getD j Γ).y,Υ Ξ (l.getD j Γ).d],aB (ζ ⟨w.heap.size,0,δ⟩)] W (Rt (ω (mF S (l.getD i Γ) (l.getD j Γ))) W)):=fun i j _ _ W hW=>
  Nq w.heap.size G _ _ m2 m3 m4 S N I _ _ W (JU.below hW) (q0.below hW q0.lt)
 have gH:=zq fL;have rD:=zq q0;have VG:=zq JU;have HL0:=zq hl0;have HR0:=zq hr0;have If:=zq fI;clear hg hl rw' fL q0 JU hl0 hr0 fI;go_enter func71,ntmps71;have lA:=rD.o.lt;go_upto_block 0 with fail
 rw [If.o];clear If;go_cut [6] (fun v W=> v=Υ Ξ (eO S l)/\aQ (Bw W0 W));case first=>
  go_wp2;go_loopw [6,14] (fun f i wr=>∃ k:Nat,i=Υ Ξ k/\f=Υ Ξ 0/\k<=n/\mH S l k=k/\aQ (Bw W0 wr)) (fun _ i _=>n - (ξ i).toNat);case atStart=>exact⟨0,rfl,rfl,aP _,rfl,μ _ _⟩
  case round=>
   obtain⟨k,rfl,rfl,hk,hf,HB⟩:=hrel;have Hf:=zq hf;have Hln:=zq hln;by_cases hlt:k < n
   .have hlt2:(k:Int) < n:=oM;obtain⟨m,hm⟩:=nm ((k+n - 1) % n);have hmn:m < n:=by rw [<- hm];exact aV _ SY
    have e1:IntKind.i64.wrap ((k:Int)+n)=(k:Int)+n:=aM _ oM;have e2:IntKind.i64.wrap ((k:Int)+n - 1)=(k:Int)+n - 1:=aM _ oM;have e3:Int.tmod ((k:Int)+n - 1) n=m:=by
     rw [kO oM,<- hm,Int.natCast_emod];congr 1;omega
    have em:(m:Int) < n:=oM;have hnI:¬ n=0:=oM;have em0:(0:Int)<=m:=oM;have Hm:=zq hm;have HC:=zq (HSa.o m k hmn hlt);obtain⟨c0,c1,c2⟩:=(HR0.o.below HB.o) m (by rw [hln];exact hmn);obtain⟨d0,d1,d2⟩:=(HR0.o.below HB.o) k (by rw [hln];exact hlt);rw [bD] at c0 c1 c2 d0 d1 d2;obtain⟨sv,hsv⟩:=nm (mF S (l.getD m Γ) (l.getD k Γ));rw [hsv] at HC;have HFs:aQ (sv=ν->eO S l=k):=fun e=>by
     have h1:mH S l (k+1)=k:=by
      rw [mH,ip hf,hln,hm,iN (by rw [hsv,e];decide)]
     have h2:=Lw S (l:=l) (k:=k+1) oM (n - (k+1));rw [show k+1+(n - (k+1))=n by omega,h1] at h2;unfold eO;rw [hln,h2,iN oM]
    have Ka:aQ (sv=ι->mH S l (k+1)=k+1):=fun e=>by
     rw [mH,ip hf,hln,hm,ip (by rw [hsv,e])]
    clear hm hf hsv hln;generalize l.getD k Γ=wk,l.getD m Γ=wm at *;obtain⟨mx,my,md⟩:=wm;obtain⟨kx,ky,kd⟩:=wk;simp only [] at *;have Yq:=zq ((μ wr.heap.size wr).drew);go_wp2;go_cut [34] (fun v W=>v=ω (!sv)/\aQ (Bw wr W));case first=>
     go_region_held3 (fun w'=>w'.cell? ⟨b,m * 3,δ⟩=ζ (Υ Ξ mx)/\w'.cell? ⟨b,m * 3+1,δ⟩=ζ (Υ Ξ my)/\w'.cell? ⟨b,m * 3+2,δ⟩=ζ (Υ Ξ md)/\w'.cell? ⟨b,k * 3,δ⟩=ζ (Υ Ξ kx)/\w'.cell? ⟨b,k * 3+1,δ⟩=ζ (Υ Ξ ky)/\w'.cell? ⟨b,k * 3+2,δ⟩=ζ (Υ Ξ kd)) (go_keep)
      (first
       | (go_at_call 122;(with_reducible refine(HC.o _ (aW HB.o Yq.o)).mono ?_);rintro e w1 ⟨rfl,hb1⟩;have eG:=Yq.bS hb1;have r0:=aY hb1 c0;have r1:=aY hb1 c1;have r2:=aY hb1 c2;have r3:=aY hb1 d0;have r4:=aY hb1 d1;have r5:=aY hb1 d2)
       | fail)
     all_goals
      go_wp2;go_meet;case rel=>exact⟨rfl,eG.o⟩
    case rest=>
    obtain⟨rfl,eG⟩:=hcut;have HBn:=zq (aW HB.o eG.o);clear e1 e2 e3 c0 c1 c2 d0 d1 d2;cases sv
    .have HF:=zq (HFs.o rfl);go_wp2;go_meet;case rel=>exact⟨by rw [HF.o] <;> rfl,HBn.o⟩
    .have HF:=zq (Ka.o rfl);go_wp2;go_roundw;case rel=>exact⟨k+1,by go_num,rfl,oM,HF.o,HBn.o⟩
     case measure=>simp only [ξ];omega
   .obtain rfl:k=n:=oM;have HF:aQ (eO S l=0):=by
     show _=_;unfold eO;rw [Hln.o,ip Hf.o]
    go_wp2;go_meet;case rel=>exact⟨by rw [HF.o] <;> rfl,HB.o⟩
 case rest=>
 obtain⟨rfl,eG⟩:=hcut;have hF:=tf S (l:=l) oM;have hrl:=ah6 (l:=l) (k:=eO S l) oM;have hpw:fF S xs ys l=jY S xs ys (Eo l (eO S l)) l.length:=rfl;have hrv:∀ v∈Eo l (eO S l),Lx X Y v:=fun v h=>hv v (IS h);have IU:aQ (∀ W (bb:Nat) v1 v2 c,Bw W0 W->v1=Θ (ζ ⟨b,eO S l * 3,δ⟩) (n - eO S l) c->v2=Θ (ζ ⟨b,0,δ⟩) (eO S l) cap->bE W bb #[v1,v2] 132->aE γ 123 #[Θ (ζ ⟨bb,0,δ⟩) 2 2] W fun e w'=>(∃ g cap,e=σ (Θ (ζ ⟨g,0,δ⟩) n cap)/\w'.ownsRow W.heap.size 130 3 (Θ (ζ ⟨g,0,δ⟩) n cap) n (fX (Eo l (eO S l))))/\Bw W w'):=fun W bb v1 v2 c hW h1 h2 PI=>by
  subst h1 h2;have hr:=HR0.o.below hW;have c0:=PI.ce 0;have c1:=PI.ce 1;have:=aB2 (ζ ⟨bb,0,δ⟩) 2 2 [⟨b,eO S l * 3,n - eO S l,c,fX (l.drop (eO S l))⟩,⟨b,0,eO S l,cap,fX (l.take (eO S l))⟩] W rfl dD (by
   intro x hx;simp only [jT,pL,or_false] at hx;rcases hx with rfl | rfl
   .exact⟨by show n - eO S l<=10000;omega,by rw [AJ,dJ,hln],Lu _⟩
   .exact⟨by show eO S l<=10000;omega,by rw [AJ,dR];show min _ _ * 3=eO S l * 3;rw [Nat.min_eq_left oM],Lu _⟩)
   (by show 0 < 0+(n - eO S l)+eO S l;omega) (by
    intro i hi;have hi:i < 2:=hi;match i,hi with
    | 0,_=>exact⟨bb,0,rfl,c0,(hr.part (eO S l)).cells⟩
    | 1,_=>exact⟨bb,0,rfl,c1,(hr.front (eO S l)).cells⟩)
  have e1:iK [⟨b,eO S l * 3,n - eO S l,c,fX (l.drop (eO S l))⟩,⟨b,0,eO S l,cap,fX (l.take (eO S l))⟩] 2=n:=by show 0+(n - eO S l)+eO S l=n;omega
  have e2:vL [⟨b,eO S l * 3,n - eO S l,c,fX (l.drop (eO S l))⟩,⟨b,0,eO S l,cap,fX (l.take (eO S l))⟩]=fX (Eo l (eO S l)):=by
   unfold Eo;rw [Lt];simp [vL]
  rw [e1,e2] at this;exact this
 rw [hln] at hpw hrl;have HPW:=zq hpw;have VH:=zq hrl;have Hrv:=zq hrv;rw [hln] at hF;clear hpw hrl hrv HSa;generalize eO S l=f,Eo l (eO S l)=rl at *;have f1:(f:Int)<=n:=oM;have f2:(n:Int)<=cap:=oM;have f0:(0:Int)<=f:=oM;have f3:(f:Int)<=cap:=oM;rename η=>wc;have ru:¬ cap=f:=oM;obtain⟨WC,hWC⟩:=nm ((wc.alloc (π #[Θ (ζ ⟨b,f * 3,δ⟩) (n - f) (cap - f),Θ (ζ ⟨b,0,δ⟩) f cap] 132)).drew);have hbC:Bw wc WC:=by rw [<- hWC];exact(nA _ _).drew
 have PI:bE WC wc.heap.size #[Θ (ζ ⟨b,f * 3,δ⟩) (n - f) (cap - f),Θ (ζ ⟨b,0,δ⟩) f cap] 132:=by rw [<- hWC];exact bE.new _ _ _
 have HCw:=zq (IU.o WC wc.heap.size _ _ (cap - f) (aW eG.o hbC) rfl rfl PI);have HWC:=zq hWC;have HbC:=zq hbC;clear hWC hbC PI IU;go_upto_region 9 with (fail)
 go_cut [1] (fun v W=>∃ g ah7,v=Θ (ζ ⟨g,0,δ⟩) n ah7/\aQ (W.ownsRow w.heap.size 130 3 (Θ (ζ ⟨g,0,δ⟩) n ah7) n (fX rl))/\aQ (Bw wc W));case first=>
  go_region_with (go_at_call 123;rw [HWC.o];(with_reducible refine HCw.o.mono ?_);rintro e w1 ⟨⟨g,c2,rfl,cT⟩,hb1⟩;have PJ:=zq cT;have wF:=HbC.bS hb1;clear cT hb1);all_goals
   go_wp2;go_meet;case rel=>exact⟨g,c2,rfl,jU PJ.o (aA gH.o.size (aA eG.o.size HbC.o.size)),wF.o⟩
 case rest=>
 obtain⟨g0,ah7,rfl,PJ,eU⟩:=hcut;rename η=>wd;have Yr:=zq (aW eG.o eU.o);have HR:=PJ;clear eG eU PJ HCw HWC HbC f0 f1 f2 f3 ru Kf hF;go_wp2;go_loopw [8,47] (fun o iv wr=>∃ k:Nat,iv=Υ Ξ k/\k<=n/\aQ (wr.ownsRow W0.heap.size 35 3 o (jY S xs ys rl k).length (cJ (jY S xs ys rl k)))/\aQ (wr.ownsRow w.heap.size 130 3 (Θ (ζ ⟨g0,0,δ⟩) n ah7) n (fX rl))/\aQ (Bw W0 wr)) (fun _ iv _=>n - (ξ iv).toNat);case atStart=>exact⟨0,rfl,aP _,rN _ _ _ _,HR.o,Yr.o⟩
 case round=>
  clear Yr HR;obtain⟨k,rfl,hk,HO,HR,HB⟩:=hrel;by_cases hlt:k < n
  .have hlt2:(k:Int) < n:=oM;have hvk:=Hrv.o _ (aN (by rw [VH.o];exact hlt) Γ:rl.getD k Γ∈rl);have Zf:=zq fun W (h:Bw W0 W)=>aS7 hvk (VG.o.below h) (HL0.o.below h);have HHi:=zq fun W (h:Bw W0 W)=>aS8 hvk (VG.o.below h) (HL0.o.below h);have HSt:aQ (∀ W,aE γ 119 #[bQ #[Υ Ξ (rl.getD k Γ).x,Υ Ξ (rl.getD k Γ).y],Υ Ξ (rl.getD k Γ).d] W (Rt (bQ #[Υ Ξ (fU (rl.getD k Γ).x (rl.getD k Γ).d),Υ Ξ (fV (rl.getD k Γ).y (rl.getD k Γ).d)]) W)):=fun W=>by
    obtain⟨h1,h2,h3,h4,h5,-⟩:=hvk;exact Kk _ _ _ h5 W oM oM
   have HSa:aQ (∀ W,Bw W0 W->aE γ 122 #[bQ #[Υ Ξ (rl.getD (k - 1) Γ).x,Υ Ξ (rl.getD (k - 1) Γ).y,Υ Ξ (rl.getD (k - 1) Γ).d],bQ #[Υ Ξ (rl.getD k Γ).x,Υ Ξ (rl.getD k Γ).y,Υ Ξ (rl.getD k Γ).d],aB (ζ ⟨w.heap.size,0,δ⟩)] W (Rt (ω (mF S (rl.getD (k - 1) Γ) (rl.getD k Γ))) W)):=fun W hW=>
    Nq w.heap.size G _ _ m2 m3 m4 S N I _ _ W (VG.o.below hW) (rD.o.below hW rD.o.lt)
   have ah8:aQ (k=0\/mF S (rl.getD (k - 1) Γ) (rl.getD k Γ)=ν->jY S xs ys rl (k+1)=jY S xs ys rl k ++ [⟨rU S (rl.getD k Γ),Yp xs ys (rl.getD k Γ),Ux xs ys (rl.getD k Γ)⟩]):=fun h=>ND S xs ys h;have VI:aQ (0 < k->mF S (rl.getD (k - 1) Γ) (rl.getD k Γ)=ι->∃ qs s a z,jY S xs ys rl k=qs ++ [⟨s,a,z⟩]/\jY S xs ys rl (k+1)=qs ++ [⟨s,a,Ux xs ys (rl.getD k Γ)⟩]):=fun h0 h=>Lv S xs ys h0 h;have Zw:=zq (fun (W:η) (h:Bw W0 W)=>BM (w:=W) (VG.o.below h).s (rl.getD k Γ).x (rl.getD k Γ).y (rl.getD k Γ).d);obtain⟨c0,c1,c2⟩:=En.own HR.o k (by rw [VH.o];exact hlt);obtain⟨b0,b1,b2⟩:=En.own HR.o (k - 1) (by rw [VH.o];omega);rw [bD] at c0 c1 c2 b0 b1 b2;obtain⟨j,hj⟩:=nm (k - 1);rw [hj] at b0 b1 b2 HSa ah8 VI;obtain⟨ps2,aS9⟩:=nm (jY S xs ys rl (k+1));have bd3:=zq aS9;rw [aS9] at ah8 VI;have ir:aQ ((jY S xs ys rl k).length<=k):=NE S xs ys rl k;generalize mF S (rl.getD j Γ) (rl.getD k Γ)=sv,Ux xs ys (rl.getD k Γ)=HI,Yp xs ys (rl.getD k Γ)=LO,jY S xs ys rl k=ps at *;have Zw:aQ (∀ W,Bw W0 W->fD γ (pT 114 (.map (ζ m2)) (bQ #[Υ Ξ (rl.getD k Γ).x,Υ Ξ (rl.getD k Γ).y,Υ Ξ (rl.getD k Γ).d]) ν) W= .ok (Υ Ξ (rU S (rl.getD k Γ))) W):=Zw.o;generalize rl.getD k Γ=vk,rl.getD j Γ=vj,rU S (rl.getD k Γ)=SD at *;obtain⟨vx,vy,vd⟩:=vk;obtain⟨jx,jy,jd⟩:=vj;simp only [] at *;generalize fV vy vd=sy,fU vx vd=sx at *;obtain⟨WD,hWD⟩:=nm (wr.alloc (π #[Υ Ξ vx,Υ Ξ vy,Υ Ξ vd] 130));have hbD:Bw wr WD:=by rw [<- hWD];exact nA _ _
   have HQD:aQ (bE WD wr.heap.size #[Υ Ξ vx,Υ Ξ vy,Υ Ξ vd] 130):=by rw [<- hWD];exact bE.new _ _ _
   have HBD:=HB.bS hbD;have HOD:=zq (aR HO.o hbD);have HRD:=zq (aR HR.o hbD);have HWD:=zq hWD;have z0:=aY hbD b0;have z1:=aY hbD b1;have z2:=aY hbD b2;clear hWD hbD aS9 hvk;go_upto_region 14 with (fail)
   rw [HWD.o];clear HWD c0 c1 c2 b0 b1 b2 HO HR HB;generalize wr.heap.size=NB at *;obtain⟨n0,n1,n2⟩:=HQD.o.three;have ln:=HQD.o.lt;have Yq:=zq ((μ WD.heap.size WD).drew);obtain⟨nb,hnb⟩:=nm (decide (k=0) || !sv);have Hnb:=zq hnb;clear hnb;go_cut [64] (fun v W=> v=ω nb/\aQ (Bw WD W));case first=>
    by_cases hk0:k=0
    .subst hk0;go_quiet (fail)
     go_wp2;go_meet;case rel=>exact⟨by rw [<- Hnb.o];simp,by first | exact μ _ _ | exact dO (μ _ _) _⟩
    .have Yo:((k:Int)==0)=ν:=by rw [beq_eq_false_iff_ne];omega
     have wj:IntKind.i64.wrap ((k:Int) - 1)=(j:Int):=(aM _ oM).trans oM;have j1:(j:Int) < n:=oM;have hkd:decide (k=0)=ν:=decide_eq_false hk0;go_region_held3 (fun w'=>w'.cell? ⟨g0,j * 3,δ⟩=ζ (Υ Ξ jx)/\w'.cell? ⟨g0,j * 3+1,δ⟩=ζ (Υ Ξ jy)/\w'.cell? ⟨g0,j * 3+2,δ⟩=ζ (Υ Ξ jd)/\w'.cell? ⟨NB,0,δ⟩=ζ (Υ Ξ vx)/\w'.cell? ⟨NB,1,δ⟩=ζ (Υ Ξ vy)/\w'.cell? ⟨NB,2,δ⟩=ζ (Υ Ξ vd)) (go_keep)
      (first
       | (go_at_call 122;(with_reducible refine(HSa.o _ (aW HBD.o Yq.o)).mono ?_);rintro e w1 ⟨rfl,hb1⟩;have eG:=Yq.bS hb1;have r0:=aY hb1 z0;have r1:=aY hb1 z1;have r2:=aY hb1 z2;have r3:=aY hb1 n0;have r4:=aY hb1 n1;have r5:=aY hb1 n2)
       | fail)
     all_goals
      go_wp2;go_meet;case rel=>exact⟨by rw [<- Hnb.o];simp [Yo,hk0],eG.o⟩
   case rest=>
   obtain⟨rfl,HB3⟩:=hcut;have th:=zq (aW HBD.o HB3.o);have HOE:=zq (aR HOD.o HB3.o);have HRE:=zq (aR HRD.o HB3.o);have HQE:=zq (HQD.o.below HB3.o HQD.o.lt);clear HBD HOD HRD HQD HB3 n0 n1 n2 ln z0 z1 z2 HSa Yq;rename η=>we;have CW:ps.length<=10000:=by have:=ir.o;omega
   have a0:=(rD.o.below th.o rD.o.lt).cell 0;have g2:=(VG.o.below th.o).blk.cell 2;obtain⟨n0,n1,n2⟩:=HQE.o.three;simp only [bC,aU,cO] at a0 g2;have hA:=rD.o.below th.o rD.o.lt;have hG:=(VG.o.below th.o).blk;have Yq:=zq ((μ we.heap.size we).drew);cases nb
   .have hk0:0 < k:=by
     rcases iZ k with e | e
     .have:=Hnb.o;rw [e] at this;simp at this
     .exact e
    have hsv:sv=ι:=by have:=Hnb.o;cases sv <;> simp at this |-
    obtain⟨qs,s5,a5,z5,hq1,he5⟩:=VI.o hk0 hsv;obtain⟨m,hm⟩:=nm qs.length;have hpm:ps.length=m+1:=by rw [hq1,aJ,hm];rfl
    have hoe:=HOE.o;rw [hpm,hq1] at hoe;obtain⟨g5,c5,rfl⟩:=qV (Nat.succ_pos m) hoe;have Mb:=zq hoe;have HBF:=th;have HRF:=HRE;have HQF:=HQE;have HE5:=zq he5;have Hm:=zq hm;rename η=>wf;clear a0 g2 n0 n1 n2 hA hG th HOE HRE HQE Yq Zf ah8 VI hoe he5 hm hq1;have wl:IntKind.i64.wrap ((m:Int)+1 - 1)=(m:Int):=(aM _ oM).trans oM;have i1:(m:Int) < (m:Int)+1:=oM;have wl2:IntKind.i64.wrap (m:Int)=(m:Int):=aM _ oM;have i0:(0:Int)<=(m:Int):=oM;have a0:=(rD.o.below HBF.o rD.o.lt).cell 0;obtain⟨n0,n1,n2⟩:=HQF.o.three;have y0:=dN Mb.o (m * 3+2) oM;rw [(tF (qs ++ [(⟨s5,a5,z5⟩:Pt)]) m (by rw [aJ,Hm.o];exact Fk _)).2.2] at y0;have y1:=jB Mb.o (m * 3+2);have ly:=(mD Mb.o).2.1;simp only [bC,aU,cO] at a0;have Yq:=zq ((μ wf.heap.size wf).drew);have HnA:aQ (w.heap.size≠g5):=fun e=>IT (rD.o.below HBF.o rD.o.lt) Mb.o dD (by rw [e];rfl);have HnN:aQ (NB≠g5):=fun e=>IT HQF.o Mb.o dD (by rw [e];rfl);generalize bs ((qs ++ [(⟨s5,a5,z5⟩:Pt)]).getD m Γ).en=Z at *;go_upto_region 16 with (fail)
    go_region_held3 (fun w'=>w'.cell? ⟨w.heap.size,0,δ⟩=ζ (aB (ζ ⟨G,0,δ⟩))/\w'.cell? ⟨NB,0,δ⟩=ζ (Υ Ξ vx)/\w'.cell? ⟨NB,1,δ⟩=ζ (Υ Ξ vy)/\w'.cell? ⟨NB,2,δ⟩=ζ (Υ Ξ vd)) (first | go_keep | ((refine⟨?_,?_,?_,?_⟩) <;> (refine VD (by intro e;injection e with e1 e2;(first | exact HnA.o e1 | exact HnN.o e1)) ?_;assumption)))
     (first
      | (go_at_call 119;(with_reducible refine(HSt.o _).mono ?_);rintro e w1 ⟨rfl,hb1⟩;have eG:=Yq.bS hb1;have r0:=aY eG.o a0;have r2:=aY eG.o n0;have r3:=aY eG.o n1;have r4:=aY eG.o n2)
      | (go_at_call 124;(with_reducible refine(HHi.o _ (aW HBF.o eG.o)).mono ?_);rintro e w2 ⟨rfl,hb2⟩;have eU:=eG.bS hb2;have r0:=aY eU.o a0;have r2:=aY eU.o n0;have r3:=aY eU.o n1;have r4:=aY eU.o n2;have r5:=aY eU.o y0;have r6:=jB (aR Mb.o eU.o) (m * 3+2);have l2:=(mD (aR Mb.o eU.o)).2.1;have HOH:=zq (NG (aR Mb.o eU.o) Hm.o HI);have HOI:=zq (Br (aR Mb.o eU.o) (m * 3+2) (Δ (bs HI))).2)
      | fail)
    all_goals
     have HC6:aQ (_/\_/\_):=⟨HOH.o,dT (v:=Θ (ζ ⟨g5,0,δ⟩) (m+1) c5) (aW HBF.o eU.o) HOI.o (aR Mb.o eU.o) (θ _) (aA HBF.o.size eU.o.size),(aR HRF.o eU.o).kept HOI.o (pQ (aR HRF.o eU.o) (aR Mb.o eU.o) dD)⟩;obtain⟨HO6,xU,HR6⟩:=HC6.o;go_wp2;go_roundw;case rel=>exact⟨k+1,by go_num,oM,by rw [bd3.o,HE5.o,show(qs ++ [(⟨s5,a5,HI⟩:Pt)]).length=m+1 by rw [aJ,Hm.o];rfl];exact HO6,HR6,xU⟩
     case measure=>simp only [ξ];omega
   .have l0:=Zw.o we.drew (aW th.o Yq.o);have lA2:=hA.lt;have lG2:=hG.lt;have ln2:=HQE.o.lt;have HHA:=zq hA;have HHG:=zq hG;clear hA hG;go_upto_region 15 with (fail)
    go_cut [8] (fun v W=>∃ g c,v=Θ (ζ ⟨g,0,δ⟩) (ps.length+1) c/\aQ (W.ownsRow W0.heap.size 35 3 (Θ (ζ ⟨g,0,δ⟩) (ps.length+1) c) (ps.length+1) (cJ (ps ++ [⟨SD,LO,[]⟩])))/\aQ (Bw W0 W)/\aQ (W.ownsRow w.heap.size 130 3 (Θ (ζ ⟨g0,0,δ⟩) n ah7) n (fX rl))/\aQ (bE W NB #[Υ Ξ vx,Υ Ξ vy,Υ Ξ vd] 130));case first=>
     go_region_held3 (fun w'=>w'.cell? ⟨w.heap.size,0,δ⟩=ζ (aB (ζ ⟨G,0,δ⟩))/\w'.cell? ⟨G,2,δ⟩=ζ (.map (ζ m2))/\w'.cell? ⟨NB,0,δ⟩=ζ (Υ Ξ vx)/\w'.cell? ⟨NB,1,δ⟩=ζ (Υ Ξ vy)/\w'.cell? ⟨NB,2,δ⟩=ζ (Υ Ξ vd)) (go_keep)
      (first
       | (go_at_call 124;(with_reducible refine(Zf.o _ (aW th.o Yq.o)).mono ?_);rintro e w1 ⟨rfl,hb1⟩;have eG:=Yq.bS hb1;have r0:=aY eG.o a0;have r1:=aY eG.o g2;have r2:=aY eG.o n0;have r3:=aY eG.o n1;have r4:=aY eG.o n2;have l1:=Zw.o w1 (aW th.o eG.o))
       | (refine tg (by rfl) _ _ (by rfl) W0.heap.size u8 ps.length _ (by rfl) (aR HOE.o (eG.o.alloc eG.o.size _)) w1.heap.size SD (bs LO) ⟨#[]⟩ (by rfl) (bE.new w1 _ _) oM (aA th.o.size (eG.o.alloc eG.o.size _).size) ?_;intro g5 c5 w5 lJ sT bo3;have hal:=eG.o.alloc eG.o.size (π #[Υ Ξ SD,Δ (bs LO),Δ ⟨#[]⟩] 35);have hoo:=aR HOE.o hal;have HP5:=zq (aS6 (HHA.o.below hal HHA.o.lt) (HHG.o.below hal HHG.o.lt) (HQE.o.below hal HQE.o.lt) hoo sT);obtain⟨p0,p1,p2,p3,p4⟩:=HP5.o;have io:=zq lJ;have wG:=zq (dT (aW th.o hal) sT hoo (θ _) (aA th.o.size hal.size));have HR5:=zq ((aR HRE.o hal).kept sT (pQ (aR HRE.o hal) hoo dD));have DP:=zq (To (HQE.o.below hal HQE.o.lt) hoo dD sT);clear hal hoo sT bo3 lJ)
       | fail)
     all_goals
      go_wp2;go_meet;case rel=>exact⟨g5,c5,rfl,by rw [Tn];exact io.o,wG.o,HR5.o,DP.o⟩
    case rest=>
    obtain⟨g5,c5,rfl,Mb,HBF,HRF,HQF⟩:=hcut;rename η=>wf;have HE5:aQ (ps2=ps ++ [⟨SD,LO,HI⟩]):=ah8.o (by
     have:=Hnb.o;simp only [jZ,decide_eq_true_eq,bX] at this;exact this)
    clear a0 g2 n0 n1 n2 l0 lA2 lG2 ln2 HHA HHG th HOE HRE HQE Yq Zf ah8 VI;obtain⟨z5,hz5⟩:∃ z:List UInt8,([]:List UInt8)=z:=⟨_,rfl⟩;rw [hz5] at Mb;obtain⟨m,hm⟩:=nm ps.length;rw [hm] at CW Mb |-;have Hm:=zq hm;clear hz5 hm;generalize LO=a5,SD=s5,ps=qs at *;have wl:IntKind.i64.wrap ((m:Int)+1 - 1)=(m:Int):=(aM _ oM).trans oM;have i1:(m:Int) < (m:Int)+1:=oM;have wl2:IntKind.i64.wrap (m:Int)=(m:Int):=aM _ oM;have i0:(0:Int)<=(m:Int):=oM;have a0:=(rD.o.below HBF.o rD.o.lt).cell 0;obtain⟨n0,n1,n2⟩:=HQF.o.three;have y0:=dN Mb.o (m * 3+2) oM;rw [(tF (qs ++ [(⟨s5,a5,z5⟩:Pt)]) m (by rw [aJ,Hm.o];exact Fk _)).2.2] at y0;have y1:=jB Mb.o (m * 3+2);have ly:=(mD Mb.o).2.1;simp only [bC,aU,cO] at a0;have Yq:=zq ((μ wf.heap.size wf).drew);have HnA:aQ (w.heap.size≠g5):=fun e=>IT (rD.o.below HBF.o rD.o.lt) Mb.o dD (by rw [e];rfl);have HnN:aQ (NB≠g5):=fun e=>IT HQF.o Mb.o dD (by rw [e];rfl);generalize bs ((qs ++ [(⟨s5,a5,z5⟩:Pt)]).getD m Γ).en=Z at *;go_upto_region 16 with (fail)
    go_region_held3 (fun w'=>w'.cell? ⟨w.heap.size,0,δ⟩=ζ (aB (ζ ⟨G,0,δ⟩))/\w'.cell? ⟨NB,0,δ⟩=ζ (Υ Ξ vx)/\w'.cell? ⟨NB,1,δ⟩=ζ (Υ Ξ vy)/\w'.cell? ⟨NB,2,δ⟩=ζ (Υ Ξ vd)) (first | go_keep | ((refine⟨?_,?_,?_,?_⟩) <;> (refine VD (by intro e;injection e with e1 e2;(first | exact HnA.o e1 | exact HnN.o e1)) ?_;assumption)))
     (first
      | (go_at_call 119;(with_reducible refine(HSt.o _).mono ?_);rintro e w1 ⟨rfl,hb1⟩;have eG:=Yq.bS hb1;have r0:=aY eG.o a0;have r2:=aY eG.o n0;have r3:=aY eG.o n1;have r4:=aY eG.o n2)
      | (go_at_call 124;(with_reducible refine(HHi.o _ (aW HBF.o eG.o)).mono ?_);rintro e w2 ⟨rfl,hb2⟩;have eU:=eG.bS hb2;have r0:=aY eU.o a0;have r2:=aY eU.o n0;have r3:=aY eU.o n1;have r4:=aY eU.o n2;have r5:=aY eU.o y0;have r6:=jB (aR Mb.o eU.o) (m * 3+2);have l2:=(mD (aR Mb.o eU.o)).2.1;have HOH:=zq (NG (aR Mb.o eU.o) Hm.o HI);have HOI:=zq (Br (aR Mb.o eU.o) (m * 3+2) (Δ (bs HI))).2)
      | fail)
    all_goals
     have HC6:aQ (_/\_/\_):=⟨HOH.o,dT (v:=Θ (ζ ⟨g5,0,δ⟩) (m+1) c5) (aW HBF.o eU.o) HOI.o (aR Mb.o eU.o) (θ _) (aA HBF.o.size eU.o.size),(aR HRF.o eU.o).kept HOI.o (pQ (aR HRF.o eU.o) (aR Mb.o eU.o) dD)⟩;obtain⟨HO6,xU,HR6⟩:=HC6.o;go_wp2;go_roundw;case rel=>exact⟨k+1,by go_num,oM,by rw [bd3.o,HE5.o,show(qs ++ [(⟨s5,a5,HI⟩:Pt)]).length=m+1 by rw [aJ,Hm.o];rfl];exact HO6,HR6,xU⟩
     case measure=>simp only [ξ];omega
  .obtain rfl:k=n:=oM;have HZ:aQ (fF S xs ys l=jY S xs ys rl k):=HPW.o;obtain⟨g,c,rfl⟩:=qV (NF S xs ys rl SY) HO.o;rw [<- HZ.o] at HO;have Lj:=zq (jU HO.o gH.o.size);have HBz:=zq (aW gH.o HB.o);have HZl:aQ ((jY S xs ys rl k).length=(fF S xs ys l).length):=by show _=_;rw [HZ.o]
   clear HPW;go_wp2;go_ret;exact⟨⟨g,c,by rw [<- HZl.o] <;> rfl,Lj.o⟩,HBz.o⟩
end
section
instance(s:Sg)(x y:Int)(d:Nat):Decidable (A6 s x y d):=by
 unfold A6;split <;>infer_instance
def uX(w:Wy)(PL:Option Int)(s:Sg):Option Int:=
 if A6 s w.x w.y w.d then(match PL with |none=>ζ s.side|some t=>if s.side<t then ζ s.side else ζ t)else PL
def nO(E:List Sg)(w:Wy):Option Int:=E.foldl (uX w) δ
theorem Ep(E s w):nO (E++[s]) w=uX w (nO E w) s:=by
 unfold nO;rw[Mm];rfl
theorem NH{w:Wy}{PL:Option Int}(h:PL.isSome=ι\/A6 s w.x w.y w.d):(uX w PL s).isSome=ι:=by
 unfold uX;split
 .split
  .rfl
  .split <;>rfl
 .rcases h with h|h
  .exact h
  .exact absurd h ‹_›
theorem Zx (E : List Sg) (w : Wy) : ∀ PL : Option Int, (PL.isSome = ι \/ ∃ s ∈ E, A6 s w.x w.y w.d) -> (E.foldl (uX w) PL).isSome = ι := by
  induction E with
  | nil => rintro PL (h | ⟨s, hs, -⟩)
           . exact h
           . cases hs
  | cons s E ih =>
    intro PL h
    refine ih _ ?_
    rcases h with h | ⟨t,ht,ho⟩
    . exact .inl (NH (.inl h))
    . rcases List.mem_cons.1 ht with rfl | ht
      . exact .inl (NH (.inr ho))
      . exact .inr ⟨t,ht,ho⟩
theorem QR{w:Wy}(hs:s∈E)(h:A6 s w.x w.y w.d):(nO E w).isSome=ι:=Zx E w δ (.inr ⟨s,hs,h⟩)
theorem ti(E:List Sg)(w:Wy)(t:Int):∀PL:Option Int,E.foldl (uX w) PL=ζ t->PL=ζ t\/∃s∈E,A6 s w.x w.y w.d/\s.side=t:=by
 induction E with
 |nil=>intro PL h;exact .inl h
 |cons s E ih=>
  intro PL h;rcases ih _ h with h1|⟨u,hu,h1⟩
  .unfold uX at h1;split at h1
   .rename_i ho;split at h1
    .cases h1;exact .inr ⟨s,bO ..,ho,rfl⟩
    .split at h1
     .cases h1;exact .inr ⟨s,bO ..,ho,rfl⟩
     .exact .inl h1
   .exact .inl h1
  .exact .inr ⟨u,cC _ hu,h1⟩
theorem NI{w:Wy}{t:Int}(h:nO E w=ζ t):∃s∈E,A6 s w.x w.y w.d/\s.side=t:=by
 rcases ti E w t δ h with h|h
 .cases h
 .exact h
def GV(E:List Sg)(x y:Int):Int:=lF (fun s=>if s.up=ι/\s.line=x then tD s.a s.b y else 0) E
theorem Kl(E s x y):GV (E++[s]) x y=GV E x y+(if s.up=ι/\s.line=x then tD s.a s.b y else 0):=by
 unfold GV;rw[zW];simp only[lF];omega
structure mI(E:List Sg)(S N:List (Wy×Int)):Prop where
 net:∀x y:Int,(mR N ⟨x,y,1⟩).getD 0=GV E x y
 sid:∀w:Wy,w.d<4->mR S w=nO E w
theorem mI.nil:mI [] [] []:=⟨fun _ _=>rfl,fun _ _=>rfl⟩
def Er(up back:Bool):Nat:=if up=ι then(if back=ι then 3 else 1)else(if back=ι then 2 else 0)
def iY(a:Int)(back:Bool)(k:Nat):Int:=if back=ι then a-k else a+k
def wK(side:Int)(up:Bool)(line a:Int)(back:Bool)(k:Nat):Sg:=⟨side,up,line,a,iY a back k⟩
def Bn(up:Bool)(line p:Int):Int×Int:=if up=ι then(line,p)else(p,line)
def B8(up:Bool)(line a:Int)(back:Bool)(k:Nat):Wy:=⟨(Bn up line (iY a back k)).1,(Bn up line (iY a back k)).2,Er up back⟩
theorem aB3(up back):Er up back<4:=by cases up<;>cases back<;>decide
theorem ah9(up line a back k):(fU (B8 up line a back k).x (Er up back),fV (B8 up line a back k).y (Er up back))=Bn up line (iY a back (k+1)):=by
 cases up<;>cases back<;>simp[B8,Er,Bn,iY,fU,fV]<;>omega
theorem aB4(side up line a back k w)(hw:w.d<4):A6 (wK side up line a back (k+1)) w.x w.y w.d↔(A6 (wK side up line a back k) w.x w.y w.d\/w=B8 up line a back k):=by
 obtain⟨x,y,d⟩:=w;dsimp only at hw|-;rw[B8,Wy.mk.injEq];match d,hw with
 |0,_=>cases up<;>cases back<;>simp(config:={decide:=ι}) only[A6,wK,Er,Bn,iY,aK,reduceCtorEq,if_true,if_false,true_and,false_and,and_false,or_false,false_or,and_true]<;>omega
 |1,_=>cases up<;>cases back<;>simp(config:={decide:=ι}) only[A6,wK,Er,Bn,iY,aK,reduceCtorEq,if_true,if_false,true_and,false_and,and_false,or_false,false_or,and_true]<;>omega
 |2,_=>cases up<;>cases back<;>simp(config:={decide:=ι}) only[A6,wK,Er,Bn,iY,aK,reduceCtorEq,if_true,if_false,true_and,false_and,and_false,or_false,false_or,and_true]<;>omega
 |3,_=>cases up<;>cases back<;>simp(config:={decide:=ι}) only[A6,wK,Er,Bn,iY,aK,reduceCtorEq,if_true,if_false,true_and,false_and,and_false,or_false,false_or,and_true]<;>omega
theorem ai0(side up line a back k):¬A6 (wK side up line a back k) (B8 up line a back k).x (B8 up line a back k).y (B8 up line a back k).d:=by
 cases up<;>cases back<;>simp only[A6,wK,B8,Er,Bn,iY,aK,if_true,if_false]<;>omega
theorem ai1(side:Int)(up:Bool)(line a:Int)(back:Bool)(w:Wy):¬A6 (wK side up line a back 0) w.x w.y w.d:=by
 obtain⟨x,y,d⟩:=w;dsimp only;unfold A6;split <;>cases up<;>cases back<;>simp only[wK,iY,aK,reduceCtorEq,if_true,if_false,true_and,false_and,and_false,not_false_eq_true]<;>omega
theorem ai2(a k y):tD a (a+((k+1:Nat):Int)) y=tD a (a+k) y+(if y=a+k then 1 else 0)/\tD a (a-((k+1:Nat):Int)) y=tD a (a-k) y-(if y=a-((k+1:Nat):Int)then 1 else 0):=by
 unfold tD;constructor <;>(repeat' split)<;>omega
theorem mI.zero{S N:List (Wy×Int)}{side:Int}{up:Bool}{line a:Int}{back:Bool}:mI (E++[wK side up line a back 0]) S N↔mI E S N:=by
 have h1:∀x y,GV (E++[wK side up line a back 0]) x y=GV E x y:=fun x y=>by
  rw[Kl];have:tD a (iY a back 0) y=0:=by
   have e:iY a back 0=a:=by cases back<;>simp[iY]
   rw[e];unfold tD;(repeat' split)<;>omega
  simp only[wK,this];split <;>omega
 have h2:∀w,nO (E++[wK side up line a back 0]) w=nO E w:=fun w=>by
  rw[Ep];unfold uX;rw[iN (ai1 side up line a back w)]
 constructor
 .rintro⟨k1,k2⟩;exact⟨fun x y=>by rw[k1,h1],fun w hw=>by rw[k2 w hw,h2]⟩
 .rintro⟨k1,k2⟩;exact⟨fun x y=>by rw[k1,h1],fun w hw=>by rw[k2 w hw,h2]⟩
theorem mI.side{S N:List (Wy×Int)}{side:Int}{up:Bool}{line a:Int}{back:Bool}(h:mI (E++[wK side up line a back k]) S N):
 ∀w:Wy,w.d<4->nO (E++[wK side up line a back (k+1)]) w=if w=B8 up line a back k then(match mR S w with |none=>ζ side|some t=>if side<t then ζ side else ζ t)else mR S w:=by
 intro w hw;rw[h.sid w hw,Ep,Ep];unfold uX;have ho:=aB4 side up line a back k w hw;by_cases e:w=B8 up line a back k
 .rw[ip e,ip (ho.2 (.inr e))];rw[iN (by rw[e];exact ai0 side up line a back k)];rfl
 .rw[iN e];by_cases ho2:A6 (wK side up line a back k) w.x w.y w.d
  .rw[ip (ho.2 (.inl ho2)),ip ho2];rfl
  .rw[iN (fun c=>(ho.1 c).elim ho2 e),iN ho2]
theorem mI.nets{S N:List (Wy×Int)}{side:Int}{up:Bool}{line a:Int}{back:Bool}(h:mI (E++[wK side up line a back k]) S N)(x y):
 GV (E++[wK side up line a back (k+1)]) x y=(mR N ⟨x,y,1⟩).getD 0+(if up=ι then(if back=ι then(if(x,y)=Bn up line (iY a back (k+1))then -1 else 0)else(if(x,y)=Bn up line (iY a back k)then 1 else 0))else 0):=by
 rw[h.net,Kl,Kl];obtain⟨c1,c2⟩:=ai2 a k y;cases up<;>cases back<;>simp only[wK,iY,Bn,aK,false_and,true_and,if_true,if_false,Prod.mk.injEq]
 .omega
 .omega
 .rw[c1];by_cases e:line=x
  .rw[ip e,ip e];by_cases e2:y=a+k
   .rw[ip e2,ip ⟨e.symm,e2⟩];omega
   .rw[iN e2,iN (fun c=>e2 c.2)];omega
  .rw[iN e,iN e,iN (fun c=>e c.1.symm)];omega
 .rw[c2];by_cases e:line=x
  .rw[ip e,ip e];by_cases e2:y=a-((k+1:Nat):Int)
   .rw[ip e2,ip ⟨e.symm,e2⟩];omega
   .rw[iN e2,iN (fun c=>e2 c.2)];omega
  .rw[iN e,iN e,iN (fun c=>e c.1.symm)];omega
theorem mI.next{S N S' N':List (Wy×Int)}{side:Int}{up:Bool}{line a:Int}{back:Bool}(h:mI (E++[wK side up line a back k]) S N)(hS:S'=S/\(∃t,mR S (B8 up line a back k)=ζ t/\t<=side)\/S'=kJ S (B8 up line a back k) side/\(∀t,mR S (B8 up line a back k)=ζ t->side<t))(hN:N'=N/\up=ν\/N'=kJ N ⟨(Bn up line (iY a back (if back=ι then k+1 else k))).1,(Bn up line (iY a back (if back=ι then k+1 else k))).2,1⟩ ((mR N ⟨(Bn up line (iY a back (if back=ι then k+1 else k))).1,(Bn up line (iY a back (if back=ι then k+1 else k))).2,1⟩).getD 0+(if back=ι then -1 else 1))/\up=ι):
 mI (E++[wK side up line a back (k+1)]) S' N':=by
 refine⟨fun x y=>?_,fun w hw=>?_⟩
 .rw[h.nets x y];rcases hN with⟨rfl,rfl⟩|⟨rfl,rfl⟩
  .simp
  .rw[D9];cases back<;>simp only[aK,if_true,if_false,Wy.mk.injEq,and_true]
   .by_cases e:(Bn ι line (iY a ν k)).1=x/\(Bn ι line (iY a ν k)).2=y
    .rw[ip e,ip (by rw[<-e.1,<-e.2]),e.1,e.2];rfl
    .rw[iN e,iN (fun c=>e ⟨by rw[<-c],by rw[<-c]⟩)];omega
   .by_cases e:(Bn ι line (iY a ι (k+1))).1=x/\(Bn ι line (iY a ι (k+1))).2=y
    .rw[ip e,ip (by rw[<-e.1,<-e.2]),e.1,e.2];rfl
    .rw[iN e,iN (fun c=>e ⟨by rw[<-c],by rw[<-c]⟩)];omega
 .rw[h.side w hw];rcases hS with⟨rfl,t,ht,hn⟩|⟨rfl,hn⟩
  .by_cases e:w=B8 up line a back k
   .rw[ip e,e,ht];simp[show¬side<t by omega]
   .rw[iN e]
  .rw[D9];by_cases e:w=B8 up line a back k
   .rw[ip e,ip e.symm,e];cases hm:mR S (B8 up line a back k)with
    |none=>rfl
    |some t=>simp[hn t hm]
   .rw[iN e,iN (fun c=>e c.symm)]
theorem ai3{a:Int}{back:Bool}(h:iY a back j=iY a back k):j=k:=by
 cases back<;>simp only[iY,aK,if_true,if_false]at h<;>omega
theorem bo4(up line p):(if up=ι then(Bn up line p).2 else(Bn up line p).1)=p:=by cases up<;>rfl
end
section
open Go Go.RowKit Go.Lib
structure iX(X:Nat->Prop)(W W':η):Prop where
 os:W'.os=W.os
 tape:W'.tape=W.tape
 output:W'.output=W.output
 size:W.heap.size<=W'.heap.size
 block:∀k,k<W.heap.size->¬X k->W'.heap[k]? =W.heap[k]?
theorem iX.refl(X:Nat->Prop)(W):iX X W W:=⟨rfl,rfl,rfl,θ _,fun _ _ _=>rfl⟩
theorem iX.trans{X:Nat->Prop}{B:η}(h:iX X A B)(k:iX X B C):iX X A C:=
 ⟨k.os.trans h.os,k.tape.trans h.tape,k.output.trans h.output,aA h.size k.size,fun i hi hn=>(k.block i (cN hi h.size) hn).trans (h.block i hi hn)⟩
theorem iX.of_below{X:Nat->Prop}(h:Bw W W'):iX X W W':=⟨h.os,h.tape,h.output,h.size,fun k hk _=>h.block k hk⟩
theorem iX.step{X:Nat->Prop}{B:η}(h:iX X A B)(k:Bw B C):iX X A C:=h.trans (.of_below k)
theorem iX.below{X:Nat->Prop}(h:iX X W W')(hB:B<=W.heap.size)(hX:∀k,X k->B<=k):Below B W W':=
 ⟨h.os,h.tape,h.output,h.size,fun k hk=>h.block k (cN hk hB) fun c=>absurd (hX k c) oM⟩
theorem iX.putObj{X:Nat->Prop}(W){m:Nat}(hm:X m)(o):iX X W (W.putObj m o):=
 ⟨rfl,rfl,rfl,by show _<=(yV _ _ _).size;rw[Array.size_setIfInBounds];exact θ _,fun k _ hn=>by
  show(yV _ _ _)[k]? =_
  rw[yJ,iN (fun e=>hn (by rw[<-e];exact hm))]⟩
theorem iX.obj{X:Nat->Prop}{m:Nat}{o:Obj}(h:iX X W W')(hm:W.heap[m]? =ζ o)(hn:¬X m):W'.heap[m]? =ζ o:=(h.block m (Array.getElem?_eq_some_iff.1 hm).1 hn).trans hm
theorem iX.blk{X:Nat->Prop}{b:Nat}(h:iX X W W')(hb:bE W b cs T)(hn:¬X b):bE W' b cs T:=h.obj hb hn
theorem iX.cell{X:Nat->Prop}{a:bW}{v:χ}(h:iX X W W')(hc:W.cell? a=ζ v)(hn:¬X a.block):W'.cell? a=ζ v:=by
 have hlt:=aD W a hc;rw[<-hc];unfold World.cell?;rw[h.block a.block hlt hn]
theorem fG(W:η)(m k:Nat)(o:Obj)(h:m≠k):(W.putObj m o).heap[k]? =W.heap[k]?:=by
 show(yV _ _ _)[k]? =_;rw[yJ,iN h]
theorem AK{m:Nat}{u:Obj}(h:W.heap[m]? =ζ u)(o):(W.putObj m o).heap[m]? =ζ o:=by
 show(yV _ _ _)[m]? =_;rw[yJ,ip rfl,ip (Array.getElem?_eq_some_iff.1 h).1]
def Es(m2 m3 m4:Nat):Prop:=m2≠m3/\m2≠m4/\m3≠m4
theorem lU{b m:Nat}{es:Array MapEntry}(hb:bE W b cs T)(hm:W.heap[m]? =ζ (.map es c)):m≠b:=by
 intro e;subst e;have hb:W.heap[m]? =ζ (π cs T (0,0)):=hb;rw[hm]at hb;cases hb
theorem GW{b:Nat}(h:bE W b cs T)(k:bE W c ds U)(hne:T≠U):b≠c:=by
 intro e;subst e;have h':W.heap[b]? =ζ (π cs T (0,0)):=h;have k':W.heap[b]? =ζ (π ds U (0,0)):=k;rw[h']at k';cases k';exact hne rfl
section
variable{W:η}{G:Nat}{xv yv:χ}{m2 m3 m4:Nat}{S N:WL}{I:SL}
theorem iJ.putI(h:iJ W G xv yv m2 m3 m4 S N I)(ha:Es m2 m3 m4)(J:SL):iJ (W.putObj m4 (mS kS vB J)) G xv yv m2 m3 m4 S N J:=
 ⟨(fG _ _ _ _ (lU h.blk h.i)).trans h.blk,(fG _ _ _ _ (Ne.symm ha.2.1)).trans h.s,(fG _ _ _ _ (Ne.symm ha.2.2)).trans h.n,AK h.i _⟩
theorem iJ.putS(h:iJ W G xv yv m2 m3 m4 S N I)(ha:Es m2 m3 m4)(J:WL):iJ (W.putObj m2 (mS kW vI J)) G xv yv m2 m3 m4 J N I:=
 ⟨(fG _ _ _ _ (lU h.blk h.s)).trans h.blk,AK h.s _,(fG _ _ _ _ ha.1).trans h.n,(fG _ _ _ _ ha.2.1).trans h.i⟩
theorem iJ.putN(h:iJ W G xv yv m2 m3 m4 S N I)(ha:Es m2 m3 m4)(J:WL):iJ (W.putObj m3 (mS kW vI J)) G xv yv m2 m3 m4 S J I:=
 ⟨(fG _ _ _ _ (lU h.blk h.n)).trans h.blk,(fG _ _ _ _ (Ne.symm ha.1)).trans h.s,AK h.n _,(fG _ _ _ _ ha.2.2).trans h.i⟩
end
theorem QU{f:Sg->Int}{l:List Sg}(h:∀s∈l,-1<=f s/\f s<=1):-(l.length:Int)<=lF f l/\lF f l<=l.length:=by
 induction l with
 |nil=>exact⟨by simp[lF],by simp[lF]⟩
 |cons s l ih=>
  have h1:=h s (bO ..);have h2:=ih fun t ht=>h t (cC _ ht);simp only[lF,aC];omega
theorem QV(a b y):-1<=tD a b y/\tD a b y<=1:=by unfold tD;split;omega;split <;>omega
theorem NJ(E x y):-(E.length:Int)<=GV E x y/\GV E x y<=E.length:=QU fun s _=>by
 have:=QV s.a s.b y
 split <;>omega
theorem VJ(E i k):-(E.length:Int)<=bF E i k/\bF E i k<=E.length:=QU fun s _=>by
 have:=QV s.a s.b k
 unfold JM
 split <;>omega
def nE(E:List Sg)(X Y:Nat)(y x:Int)(I:SL):Prop:=∀i j:Int,mW I i j=decide (0<=i/\i+1<X/\0<=j/\j+1<Y/\(j<y\/(j=y/\x<=i))/\0<bF E i j)
theorem nE.init(E X Y):nE E X Y 0 X []:=fun i j=>by
 symm
 show decide _=ν
 rw[decide_eq_false_iff_not]
 omega
theorem nE.line{y:Int}(h:nE E X Y y 0 I):nE E X Y (y+1) X I:=fun i j=>by
 rw[h i j,decide_eq_decide]
 constructor <;>(rintro⟨h1,h2,h3,h4,h5,h6⟩;exact⟨h1,h2,h3,h4,oM,h6⟩)
theorem nE.few{y x z:Int}(h:nE E X Y y x I)(hx:(X:Int)<=x+1)(hz:(X:Int)<=z+1):nE E X Y y z I:=fun i j=>by
 rw[h i j,decide_eq_decide]
 constructor <;>(rintro⟨h1,h2,h3,h4,h5,h6⟩;exact⟨h1,h2,h3,h4,oM,h6⟩)
theorem nE.cell{y x:Int}(h:nE E X Y y x I)(hx:0<x)(hX:x<X)(hy:0<=y)(hY:y+1<Y):nE E X Y y (x-1) (kJ I (x-1,y) (decide (0<bF E (x-1) y))):=fun i j=>by
 unfold mW
 rw[D9]
 by_cases e:(x-1,y)=(i,j)
 .rw[ip e]
  injection e with e1 e2
  subst e1;subst e2
  rw[bK,decide_eq_decide]
  constructor
  .intro h1;exact⟨oM,oM,hy,hY,.inr ⟨rfl,oM⟩,h1⟩
  .rintro⟨-,-,-,-,-,h1⟩;exact h1
 .rw[iN e]
  have h1:=h i j
  unfold mW at h1
  rw[h1,decide_eq_decide]
  have e:¬(i=x-1/\j=y):=fun c=>e (by rw[c.1,c.2])
  constructor <;>(rintro⟨h1,h2,h3,h4,h5,h6⟩;exact⟨h1,h2,h3,h4,oM,h6⟩)
theorem nE.done{y:Int}(h:nE E X Y y X I)(hy:(Y:Int)<=y+1)(i j):mW I i j=dK X Y E i j:=by
 rw[h i j];unfold dK;rw[decide_eq_decide];constructor
 .rintro⟨h1,h2,h3,h4,h5,h6⟩;exact⟨h1,h3,h2,h4,h6⟩
 .rintro⟨h1,h2,h3,h4,h5⟩;exact⟨h1,h3,h2,h4,oM,h5⟩
theorem QW(G:Nat)(xa ya:Option bW)(X Y cx cy m2 m3 m4:Nat)(S N:WL)(E:List Sg)(w:η)(hX:X<=100000)(hY:Y<=100000)(hE:E.length<=100000)(ha:Es m2 m3 m4)(hN:∀x y,rU N ⟨x,y,1⟩=GV E x y)(hin:∀s∈E,s.line<X\/s.up=ν)
 (hg:iJ w G (Θ xa X cx) (Θ ya Y cy) m2 m3 m4 S N []):
 aE γ 67 #[aB (ζ ⟨G,0,δ⟩)] w fun e w'=>(∃v,e=σ v)/\iX (·=m4) w w'/\∃I,iJ w' G (Θ xa X cx) (Θ ya Y cy) m2 m3 m4 S N I/\∀i j,mW I i j=dK X Y E i j:=by
 have H0:∀y,bF E ((X:Int)-1) y=0:=fun y=>BB fun s hs=>by
  unfold JM;rw[iN];rintro⟨h1,h2⟩;rcases hin s hs with h|h
  .omega
  .rw[h1]at h;cases h
 have H1:∀x y,bF E (x-1) y=bF E x y+GV E x y:=fun x y=>Fo E x y;have HG:=zq hg;have HZ:=zq H0;have HS:=zq H1;have HNt:=zq hN;have wF:=zq (VJ E);have HBn:=zq (NJ E);have HE:=zq hE;have HA:=zq ha;obtain⟨g0,g1,g2,g3,g4⟩:=hg.cells;clear hg hN hin H0 H1 hE ha;have wY:IntKind.i64.wrap ((Y:Int)-1)=(Y:Int)-1:=aM _ oM;go_enter func67,ntmps67;go_wp2;go_loopw[12] (fun i wr=>∃y:Nat,i=Υ Ξ y/\y<=Y-1/\aQ (iX (·=m4) w wr/\∃I,iJ wr G (Θ xa X cx) (Θ ya Y cy) m2 m3 m4 S N I/\nE E X Y y X I)) (fun i _=>(Y-1)-(ξ i).toNat);case atStart=>exact⟨0,rfl,oM,iX.refl _ _,[],HG.o,nE.init E X Y⟩
 case round=>
  clear g0 g1 g2 g3 g4 HG;obtain⟨y,rfl,hy,HI⟩:=hrel;obtain⟨hk,I,hg,hi⟩:=HI.o;obtain⟨g0,g1,g2,g3,g4⟩:=hg.cells;have HK:=zq hk;have HG:=zq hg;have HW:=zq hi;clear HI hk hg hi;by_cases hlt:y<Y-1
  .have hlt2:(y:Int)<max ((Y:Int)-1) 0:=oM;have hY:y+1<Y:=oM;have wX:IntKind.i64.wrap ((X:Int)-1)=(X:Int)-1:=aM _ oM;have If:aQ (∃I,nE E X Y y ((X:Int)-1) I):=⟨I,HW.o.few oM oM⟩;go_wp2;go_loopw[3,4] (fun n x wi=>∃k:Int,x=Υ Ξ k/\n=Υ Ξ (bF E k y)/\k<X/\(k=(X:Int)-1\/0<=k)/\aQ (iX (·=m4) w wi/\∃I,iJ wi G (Θ xa X cx) (Θ ya Y cy) m2 m3 m4 S N I/\nE E X Y y k I)) (fun _ x _=>(ξ x+1).toNat);case atStart=>exact⟨(X:Int)-1,rfl,by rw[HZ.o],oM,.inl rfl,HK.o,I,HG.o,HW.o.few oM oM⟩
   case round=>
    clear g0 g1 g2 g3 g4 HG HK HW If;rename η=>wo;obtain⟨k,rfl,rfl,hkX,hk0,HI⟩:=hrel;obtain⟨hk,I,hg,hi⟩:=HI.o;obtain⟨g0,g1,g2,g3,g4⟩:=hg.cells;have HK:=zq hk;have HG:=zq hg;have HW:=zq hi;clear HI hk hg hi;rename η=>wi;have hb:=wF.o k y;have hbn:=HBn.o k y;have hb2:=wF.o (k-1) y;have hEl:=HE.o;by_cases hpos:0<k
    .have Zw:fD γ (pT 114 (.map (ζ m3)) (bQ #[Υ Ξ k,Υ Ξ y,Υ Ξ 1]) ν) wi=.ok (Υ Ξ (GV E k y)) wi:=by
      rw[<-HNt.o];exact BM (w:=wi) HG.o.n k y 1
     have HUp:fD γ (DW 115 (.map (ζ m4)) (bQ #[Υ Ξ (k-1),Υ Ξ y]) (ω (decide (0<bF E (k-1) y)))) wi=.ok () (wi.putObj m4 (mS kS vB (kJ I (k-1,(y:Int)) (decide (0<bF E (k-1) y))))):=SI aM4 ab2 HG.o.i (k-1,(y:Int)) _;have e1:bF E k y+GV E k y=bF E (k-1) y:=(HS.o k y).symm;have w1:IntKind.i64.wrap (bF E k y+GV E k y)=bF E (k-1) y:=by rw[e1];exact aM _ oM
     have w2:IntKind.i64.wrap (k-1)=k-1:=aM _ oM;have Ma:=zq (HK.o.trans (iX.putObj (X:=(·=m4)) wi rfl (mS kS vB (kJ I (k-1,(y:Int)) (decide (0<bF E (k-1) y))))));have HG2:=zq (HG.o.putI HA.o (kJ I (k-1,(y:Int)) (decide (0<bF E (k-1) y))));have HW2:=zq (HW.o.cell hpos hkX oM oM);generalize tZ:bF E (k-1) y=WN1,bF E k y=WN,GV E k y=NS at *;have HEq:=zq tZ;clear tZ e1 hb hbn hb2 hEl;go_wp2;go_roundw;case rel=>exact⟨k-1,rfl,by rw[HEq.o]<;>rfl,oM,oM,Ma.o,_,HG2.o,HW2.o⟩
     case measure=>simp only[ξ];omega
    .have Zy:¬(0<k):=hpos;go_wp2;go_roundw;case rel=>exact⟨y+1,by go_num,oM,HK.o,I,HG.o,by
      have:=HW.o;rcases hk0 with e|e
      .exact(this.few (z:=0) oM oM).line
      .obtain rfl:k=0:=oM;exact this.line⟩
     case measure=>simp only[ξ];omega
  .have hge:¬(y:Int)<max ((Y:Int)-1) 0:=oM;go_wp2;go_end0;exact⟨⟨_,rfl⟩,HK.o,I,HG.o,fun i j=>HW.o.done oM i j⟩
end
section
open Go Go.RowKit Go.Shelf Go.Lib
theorem B9{p:Tmp}{ty:cS}(h:fn.results= #[.cell p ty])(tmps w g x y z)(hp:tmps.getD p ψ=aB (ζ ⟨g,0,δ⟩))(hb:bE w g #[x,y,z] T)(ha:∀w,(isAgg ty).run P w=.ok ι w)(hs:∀w,(sizeOf ty).run P w=.ok 3 w):
 (gP fn tmps).run P w=.ok (bQ #[x,y,z]) w:=by
 have S7:tmps[p]?.getD ψ=aB (ζ ⟨g,0,δ⟩):=by simpa using hp
 have c0:=hb.ce 0;have c1:=hb.ce 1;have c2:=hb.ce 2;simp[gP,h,go_sem,S7,c0,c1,c2,ha,hs]
def tP(k:Nat):Nat:=[1,0,3].getD k 0
theorem bo5(k:Nat)(hk:k<3)(w:η):fD γ (M4 183 (bQ #[Υ Ξ 1,Υ Ξ 0,Υ Ξ 3]) (Υ Ξ k)) w=.ok (Υ Ξ (tP k)) w:=by
 match k,hk with
 |0,_=>first |kernel_rfl|rfl
 |1,_=>first |kernel_rfl|rfl
 |2,_=>first |kernel_rfl|rfl
structure NK(w:η)(A G:Nat)(xv yv:χ)(m2 m3 m4 C:Nat)(x y d x2 y2:Int)(S N:WL)(I:SL)(W:η):Prop where
 bel:Bw w W
 a:bE W A #[Υ Ξ x,Υ Ξ y,Υ Ξ d] 130
 b:bE W (A+1) #[Υ Ξ 0,Υ Ξ 0,Υ Ξ 0] 130
 c:bE W C #[Υ Ξ x2,Υ Ξ y2] 128
 g:iJ W G xv yv m2 m3 m4 S N I
theorem NK.below{A:Nat}{C:Nat}{x y d x2 y2:Int}(h:NK w A G xv yv m2 m3 m4 C x y d x2 y2 S N I W)(hb:Bw W W'):NK w A G xv yv m2 m3 m4 C x y d x2 y2 S N I W':=
 ⟨aW h.bel hb,h.a.below hb h.a.lt,h.b.below hb h.b.lt,h.c.below hb h.c.lt,h.g.below hb⟩
theorem NL(h:Bw w W)(hg:w.heap.size<=g)(a b c):Bw w (((W.setCell ⟨g,0,δ⟩ a).setCell ⟨g,1,δ⟩ b).setCell ⟨g,2,δ⟩ c):=
 ((h.setCell (p:=⟨g,0,δ⟩) hg a).setCell (p:=⟨g,1,δ⟩) hg b).setCell (p:=⟨g,2,δ⟩) hg c
theorem aT0(c:Int->Int->Bool)(x y d):(∀j,j<3->bor c (fU x d) (fV y d) ((d+tP j)%4)=ν)->eY c ⟨x,y,d⟩=⟨x,y,d⟩:=by
 intro h;have h0:=h 0 dD;have h1:=h 1 dD;have h2:=h 2 dD;unfold tP at h0 h1 h2;simp only[Ω,aU,cO,bK,jN]at h0 h1 h2;unfold eY;simp[h0,h1,h2]
theorem aB5(c:Int->Int->Bool)(x y d k)(hk:k<3)(h:∀j,j<k->bor c (fU x d) (fV y d) ((d+tP j)%4)=ν)(ht:bor c (fU x d) (fV y d) ((d+tP k)%4)=ι):eY c ⟨x,y,d⟩=⟨fU x d,fV y d,(d+tP k)%4⟩:=by
 unfold eY;match k,hk,h,ht with
 |0,_,_,ht=>
  simp only[tP,Ω,aU,bK]at ht;simp[ht,tP]
 |1,_,h,ht=>
  have h0:=h 0 dD;simp only[tP,Ω,aU,cO,bK,jN]at ht h0;simp[ht,h0,tP]
 |2,_,h,ht=>
  have h0:=h 0 dD;have h1:=h 1 dD;simp only[tP,Ω,aU,cO,bK,jN]at ht h0 h1;simp[ht,h0,h1,tP]
theorem tj(G xv yv m2 m3 m4 S N I x y d)(hd:d<4)(hx:-100000<=x/\x<=100000)(hy:-100000<=y/\y<=100000)(w)(hg:iJ w G xv yv m2 m3 m4 S N I):
 aE γ 70 #[aB (ζ ⟨G,0,δ⟩),kW ⟨x,y,d⟩] w (Rt (kW (eY (mW I) ⟨x,y,d⟩)) w):=by
 have HSt:=zq (fun W=>Kk x y d hd W oM oM);have hb2:(-100001<=fU x d/\fU x d<=100001)/\(-100001<=fV y d/\fV y d<=100001):=by unfold fU fV;constructor <;>(split <;>omega)
 have Uv:aQ (∀(t:Nat)W,t<4->iJ W G xv yv m2 m3 m4 S N I->aE γ 69 #[aB (ζ ⟨G,0,δ⟩),bQ #[Υ Ξ (fU x d),Υ Ξ (fV y d),Υ Ξ t]] W (Rt (ω (bor (mW I) (fU x d) (fV y d) t)) W)):=fun t W ht hG=>Lm G xv yv m2 m3 m4 S N I _ _ t ht oM oM W hG;have HN0:=zq (aT0 (mW I) x y d);have HN1:=zq (aB5 (mW I) x y d);obtain⟨x2,J7⟩:=nm (fU x d);obtain⟨y2,VK⟩:=nm (fV y d);rw[J7,VK]at Uv HN0 HN1;simp only[J7,VK]at HSt;have fL:=(nA w (π #[Υ Ξ x,Υ Ξ y,Υ Ξ d] 130)).alloc sP (π #[Υ Ξ 0,Υ Ξ 0,Υ Ξ 0] 130);have q0:=(bE.new w #[Υ Ξ x,Υ Ξ y,Υ Ξ d] 130).alloc (π #[Υ Ξ 0,Υ Ξ 0,Υ Ξ 0] 130);have q1:=bE.new (w.alloc (π #[Υ Ξ x,Υ Ξ y,Υ Ξ d] 130)) #[Υ Ξ 0,Υ Ξ 0,Υ Ξ 0] 130;rw[aL]at q1;obtain⟨W0,fI⟩:=nm ((w.alloc (π #[Υ Ξ x,Υ Ξ y,Υ Ξ d] 130)).alloc (π #[Υ Ξ 0,Υ Ξ 0,Υ Ξ 0] 130));have Uy:=hg.below fL;rw[fI]at fL q0 q1 Uy;have gH:=zq fL;have rD:=zq q0;have Fv:=zq q1;have VG:=zq Uy;have If:=zq fI;obtain⟨a0,a1,a2⟩:=q0.three;have lA:=q0.lt;unfold kW;have J5:(d:Int)<4:=oM;have Hd:=zq hd;clear hx hy hb2 J7 VK hg fL q0 q1 Uy fI hd;go_enter func70,ntmps70;go_upto_region 1 with(fail)
 rw[If.o];clear If;go_wp2_with fail
 (with_reducible refine(HSt.o _).mono ?_);rintro e W1⟨rfl,hb1⟩;have Us:=nA W1 (π #[Υ Ξ x2,Υ Ξ y2] 128);have HNA:aQ (NK w w.heap.size G xv yv m2 m3 m4 W1.heap.size x y d x2 y2 S N I (W1.alloc (π #[Υ Ξ x2,Υ Ξ y2] 128))):=
  ⟨aW (aW gH.o hb1) Us,(rD.o.below hb1 rD.o.lt).below Us (rD.o.below hb1 rD.o.lt).lt,(Fv.o.below hb1 Fv.o.lt).below Us (Fv.o.below hb1 Fv.o.lt).lt,bE.new _ _ _,(VG.o.below hb1).below Us⟩
 clear hb1 Us gH rD Fv VG a0 a1 a2 lA HSt;go_wp2;go_loopw[15] (fun i wr=>∃k:Nat,i=Υ Ξ k/\k<=3/\aQ (NK w w.heap.size G xv yv m2 m3 m4 W1.heap.size x y d x2 y2 S N I wr/\∀j,j<k->bor (mW I) x2 y2 ((d+tP j)%4)=ν)) (fun i _=>3-(ξ i).toNat);case atStart=>exact⟨0,rfl,oM,HNA.o,fun j hj=>absurd hj (vJ _)⟩
 case round=>
  clear HNA;obtain⟨k,rfl,hk,HI⟩:=hrel;obtain⟨hn,hf⟩:=HI.o;have HN:=zq hn;have HF:=zq hf;obtain⟨a0,a1,a2⟩:=hn.a.three;obtain⟨c0,c1,-,-,lC⟩:=hn.c.two;have lA:=hn.a.lt;have lB:=hn.b.lt;clear HI hn hf;by_cases hlt:k<3
  .have hx3:=fun W=>bo5 k hlt W;have ht4:tP k<4:=by unfold tP;match k,hlt with |0,_=>decide|1,_=>decide|2,_=>decide
   obtain⟨m,hm⟩:=nm ((d+tP k)%4);have hm4:m<4:=oM;have e1:IntKind.i64.wrap ((d:Int)+(tP k:Nat))=(d:Int)+(tP k:Nat):=aM _ (by have:=Hd.o;omega);have e2:Int.tmod ((d:Int)+(tP k:Nat)) 4=(m:Int):=by rw[<-hm,kO oM];omega
   have hlt3:(k:Int)<3:=oM;have Hm:=zq hm;have Ht:=zq ht4;obtain⟨tn,FU⟩:∃t:Int,((tP k:Nat):Int)=t:=⟨_,rfl⟩;simp only[FU]at hx3 e1 e2;have hbW:=nA wr (π #[Υ Ξ x2,Υ Ξ y2,Υ Ξ m] 130);have HNW:=zq (HN.o.below hbW);have HQW:=zq (bE.new wr #[Υ Ξ x2,Υ Ξ y2,Υ Ξ m] 130);clear hbW hm ht4 FU;go_wp2_with fail
   (with_reducible refine(Uv.o m _ hm4 HNW.o.g).mono ?_);rintro e W2⟨rfl,hb2⟩;have Ys:=zq (HNW.o.below hb2);have GX:=HQW.bb hb2;clear hb2 HNW HQW a0 a1 a2 c0 c1 lC lA lB hx3 e1 e2;obtain⟨n0,n1,n2⟩:=GX.o.three;have ln:=GX.o.lt;have lB:=Ys.o.b.lt;obtain⟨b0,b1,b2⟩:=Ys.o.b.three;have z0:=Ys.o.b.fz 0;have z1:=Ys.o.b.fz 1;have z2:=Ys.o.b.fz 2;cases hbo:bor (mW I) x2 y2 m
   .go_wp2;go_roundw;case rel=>exact⟨k+1,by go_num,oM,Ys.o,fun j hj=>by
     by_cases e:j=k
     .rw[e,Hm.o];exact hbo
     .exact HF.o j oM⟩
    case measure=>simp only[ξ];omega
   .have HE:aQ (eY (mW I) ⟨x,y,d⟩=⟨x2,y2,m⟩):=by
     have:=HN1.o k hlt HF.o (by rw[Hm.o];exact hbo);rwa[Hm.o]at this
    have HQB:=zq (((Ys.o.b.set 0 (Υ Ξ x2)).set 1 (Υ Ξ y2)).set 2 (Υ Ξ m));have HBB:=zq (NL Ys.o.bel (g:=w.heap.size+1) oM (Υ Ξ x2) (Υ Ξ y2) (Υ Ξ m));go_wp2;refine cU (B9 (T:=130) Tryz.results70 _ _ (w.heap.size+1) _ _ _ rfl HQB.o isAgg130 sizeOf130) rfl ⟨by rw[HE.o]<;>rfl,HBB.o⟩
  .have hge:¬(k:Int)<3:=oM;obtain⟨b0,b1,b2⟩:=HN.o.b.three;have z0:=HN.o.b.fz 0;have z1:=HN.o.b.fz 1;have z2:=HN.o.b.fz 2;have HE:aQ (eY (mW I) ⟨x,y,d⟩=⟨x,y,d⟩):=HN0.o fun j hj=>HF.o j oM;have HQB:=zq (((HN.o.b.set 0 (Υ Ξ x)).set 1 (Υ Ξ y)).set 2 (Υ Ξ d));have HBB:=zq (NL HN.o.bel (g:=w.heap.size+1) oM (Υ Ξ x) (Υ Ξ y) (Υ Ξ d));go_wp2;refine cU (B9 (T:=130) Tryz.results70 _ _ (w.heap.size+1) _ _ _ rfl HQB.o isAgg130 sizeOf130) rfl ⟨by rw[HE.o]<;>rfl,HBB.o⟩
end
section
def it{α:Type}(f:α->α)(w:α)(k:Nat):Prop:=0<k/\fW f k w=w/\∀j,0<j->j<k->fW f j w≠w
theorem it.uniq{f:α->α}{w:α}{l:Nat}(h:it f w k)(g:it f w l):k=l:=by
 rcases Nat.lt_trichotomy k l with c|c|c
 .exact absurd h.2.1 (g.2.2 k h.1 c)
 .exact c
 .exact absurd g.2.1 (h.2.2 l g.1 c)
open Classical in
noncomputable def Ly {α:Type} (f:α->α) (w:α):List α:=if h:∃k,it f w k then jX f w (Classical.choose h)else[]
theorem uY{f:α->α}{w:α}(h:it f w k):Ly f w=jX f w k:=by
 unfold Ly;rw[dif_pos ⟨k,h⟩,(Classical.choose_spec (⟨k,h⟩:∃k,it f w k)).uniq h]
def oR(X Y:Nat):List Wy:=(cI X).flatMap fun x:Nat=>(cI Y).flatMap fun y:Nat=>(cI 4).map fun d=>⟨(x:Int),(y:Int),d⟩
theorem Ca{w:Wy}:w∈oR X Y↔0<=w.x/\w.x<X/\0<=w.y/\w.y<Y/\w.d<4:=by
 obtain⟨x,y,d⟩:=w;unfold oR;simp only[List.mem_flatMap,List.mem_map,xS,Wy.mk.injEq];constructor
 .rintro⟨a,ha,b,hb,e,he,rfl,rfl,rfl⟩;exact⟨oM,oM,oM,oM,he⟩
 .rintro⟨h1,h2,h3,h4,h5⟩;exact⟨x.toNat,oM,y.toNat,oM,d,h5,oM,oM,rfl⟩
noncomputable def eT (c:Int->Int->Bool) (st:List Wy×List (List Wy)) (w:Wy):List Wy×List (List Wy):=
 open Classical in if w∈st.1\/eX c w=ν then st else(st.1++Ly (eY c) w,st.2++[Ly (eY c) w])
noncomputable def jK (c:Int->Int->Bool) (ws:List Wy):List Wy×List (List Wy):=ws.foldl (eT c) ([],[])
theorem VL(c:Int->Int->Bool)(ws w):jK c (ws++[w])=eT c (jK c ws) w:=by
 unfold jK;rw[Mm];rfl
def tG(c:Int->Int->Bool)(X Y:Nat):Prop:=∀i j,c i j=ι->0<=i/\i+1<X/\0<=j/\j+1<Y
theorem zZ{c:Int->Int->Bool}(h:tG c X Y){w:Wy}(hb:eX c w=ι):w∈oR X Y:=by
 rw[Ca];unfold eX bor at hb;rw[aI,decide_eq_true_eq,aI]at hb;obtain⟨hd,hl,-⟩:=hb;obtain⟨x,y,d⟩:=w;dsimp only at hd hl|-;unfold pv at hl;split at hl
 .have:=h _ _ hl;exact⟨oM,oM,oM,oM,hd⟩
 .have:=h _ _ hl;exact⟨oM,oM,oM,oM,hd⟩
 .have:=h _ _ hl;exact⟨oM,oM,oM,oM,hd⟩
 .have:=h _ _ hl;exact⟨oM,oM,oM,oM,hd⟩
def ai4(c:Int->Int->Bool)(X Y:Nat):List Wy:=(oR X Y).filter (eX c)
theorem xK{c:Int->Int->Bool}(h:tG c X Y){w:Wy}:w∈ai4 c X Y↔eX c w=ι:=by
 unfold ai4;rw[List.mem_filter];exact⟨fun k=>k.2,fun k=>⟨zZ h k,k⟩⟩
theorem Km{c:Int->Int->Bool}(h:tG c X Y):NA (eY c) (ai4 c X Y):=
 ⟨fun _ hw=>(xK h).2 (Mx ((xK h).1 hw)),fun _ hv _ hw e=>ax4 ((xK h).1 hv) ((xK h).1 hw) e⟩
theorem VM(X Y):(oR X Y).length=X*(Y*4):=by
 unfold oR;rw[oo];have:(oO (fun x:Nat=>((cI Y).flatMap fun y:Nat=>(cI 4).map fun d=>(⟨(x:Int),(y:Int),d⟩:Wy)).length) (cI X))=Qg X (Y*4):=by
  apply Mo;intro i;rw[oP,List.getElem?_replicate];by_cases h:i<X
  .rw[List.getElem?_range h,ip h,yF,oo];simp only[υ,jQ,List.map_const',Yd]
  .rw[iN h,nW (by rw[jQ];omega)];rfl
 rw[this,Yd]
theorem GY{c:Int->Int->Bool}(h:tG c X Y){w:Wy}(hb:eX c w=ι):∃k,it (eY c) w k/\k<=X*(Y*4):=by
 obtain⟨k,h1,h2,h3,h4⟩:=(Km h).back ((xK h).2 hb);refine⟨k,⟨h1,h3,h4⟩,aA h2 ?_⟩;rw[<-VM];exact xF _ _
structure rW(c:Int->Int->Bool)(X Y:Nat)(st:List Wy×List (List Wy)):Prop where
 bor:∀w∈st.1,eX c w=ι
 kept:∀w∈st.1,eY c w∈st.1
 all:st.1=st.2.flatten
 nd:st.1.Nodup
 pos:∀l∈st.2,l≠[]/\∃w,eX c w=ι/\l=Ly (eY c) w
theorem AL{c:Int->Int->Bool}{w:Wy}(hb:eX c w=ι)(k):eX c (fW (eY c) k w)=ι:=by
 induction k with
 |zero=>exact hb
 |succ k ih=>exact Mx ih
theorem rW.nil(c:Int->Int->Bool)(X Y):rW c X Y ([],[]):=⟨sP,sP,rfl,List.nodup_nil,sP⟩
theorem rW.step{c:Int->Int->Bool}(hc:tG c X Y){st:List Wy×List (List Wy)}(h:rW c X Y st)(w):rW c X Y (eT c st w):=by
 unfold eT;split
 .exact h
 .rename_i hn;have hw:w∉st.1:=fun c=>hn (.inl c);have hb:eX c w=ι:=by
   cases e:eX c w with
   |true=>rfl
   |false=>exact absurd (.inr e) hn
  obtain⟨k,hk,-⟩:=GY hc hb;have e:=uY hk;have mG:∀v,v∈jX (eY c) w k->eX c v=ι/\v∉st.1:=fun v hv=>by
   obtain⟨j,hj,rfl⟩:=rC.1 hv;exact⟨AL hb j,NC hk.2.1 (U:=(·∈st.1)) h.kept hw j (fM hj)⟩
  refine⟨fun v hv=>?_,fun v hv=>?_,?_,?_,fun l hl=>?_⟩
  .rcases List.mem_append.1 hv with h1|h1
   .exact h.bor v h1
   .rw[e]at h1;exact(mG v h1).1
  .rcases List.mem_append.1 hv with h1|h1
   .exact gU _ (h.kept v h1)
   .rw[e]at h1;exact rM _ (by rw[e];exact sw hk.1 hk.2.1 v h1)
  .rw[List.flatten_append,<-h.all];simp
  .rw[List.nodup_append];refine⟨h.nd,?_,?_⟩
   .rw[e,jX,List.nodup_iff_pairwise_ne,List.pairwise_map];refine zm ?_ (List.pairwise_lt_range (n:=k));intro i j _ hj Le;rw[xS]at hj;exact(Km hc).apart ((xK hc).2 hb) hk.2.2 i j Le hj
   .intro a ha b hb2 e2;rw[e]at hb2;exact(mG b hb2).2 (by rw[<-e2];exact ha)
  .rcases List.mem_append.1 hl with h1|h1
   .exact h.pos l h1
   .rw[dE]at h1;subst h1;refine⟨fun e0=>?_,w,hb,rfl⟩;rw[e]at e0;have:=BY (f:=eY c) w k;rw[e0]at this;exact absurd hk.1 (by rw[<-this];decide)
theorem wL{c:Int->Int->Bool}(hc:tG c X Y)(ws):rW c X Y (jK c ws):=by
 unfold jK;have:∀(ws:List Wy)st,rW c X Y st->rW c X Y (ws.foldl (eT c) st):=by
  intro ws;induction ws with
  |nil=>intro st h;exact h
  |cons w ws ih=>intro st h;exact ih _ (h.step hc w)
 exact this ws _ (rW.nil c X Y)
theorem ai5{ls:List (List α)}(h:∀l∈ls,l≠[]):ls.length<=ls.flatten.length:=by
 induction ls with
 |nil=>exact θ _
 |cons l ls ih=>
  have h1:=ih fun m hm=>h m (cC _ hm);have h2:=List.length_pos_iff.2 (h l (bO ..));rw[List.flatten_cons,aJ,aC];omega
theorem rW.len{c:Int->Int->Bool}(hc:tG c X Y){st:List Wy×List (List Wy)}(h:rW c X Y st):st.2.length<=X*(Y*4):=by
 have h1:=ai5 fun l hl=>(h.pos l hl).1;rw[<-h.all]at h1;have h2:=Fp (m:=ai4 c X Y) h.nd fun w hw=>(xK hc).2 (h.bor w hw);have h3:(ai4 c X Y).length<=(oR X Y).length:=xF _ _;rw[VM]at h3;omega
end
section
open Go Go.RowKit Go.Shelf Go.Lib
section
attribute[local go_sem] eQ
def yC(Y k:Nat):Wy:=⟨((k/4/Y:Nat):Int),((k/4%Y:Nat):Int),k%4⟩
theorem iu{x y d:Nat}(hy:y<Y)(hd:d<4):yC Y ((x*Y+y)*4+d)=⟨(x:Int),(y:Int),d⟩:=by
 unfold yC;have h1:((x*Y+y)*4+d)/4=x*Y+y:=oM;have h2:((x*Y+y)*4+d)%4=d:=oM;rw[h1,h2,Nat.mul_comm x Y,Nat.mul_add_div oM,Nat.div_eq_of_lt hy,Nat.mul_add_mod,aT hy,jN]
theorem QZ(a b):cI (a*b)=(cI a).flatMap fun i=>(cI b).map fun j=>i*b+j:=by
 induction a with
 |zero=>simp
 |succ a ih=>rw[nu,OU,List.range_add,ih,sB,kA];simp
theorem VN(X Y):oR X Y=(cI (X*Y*4)).map (yC Y):=by
 rw[QZ,List.map_flatMap,QZ,List.flatMap_assoc];unfold oR;have fm {α β:Type} {f g:α->List β} {l:List α} (h:∀a∈l,f a=g a):l.flatMap f=l.flatMap g:=by
  induction l with
  |nil=>rfl
  |cons a l ih=>rw[gS,gS,h a (bO ..),ih fun b hb=>h b (cC _ hb)]
 refine fm fun x _=>?_;rw[List.flatMap_map];refine fm fun y hy=>?_;rw[eH];apply eB;intro d hd;exact(iu (List.mem_range.1 hy) (List.mem_range.1 hd)).symm
abbrev bd4(Y k:Nat):Array χ:=#[bQ #[Υ Ξ (yC Y k).x,Υ Ξ (yC Y k).y,Υ Ξ (yC Y k).d]]
theorem tk(F n)(h7:F.fn 120)(hro:F.round=δ)(hn:1<=n)(Bg G a b X Y ca cb m2 m3 m4 w)(hX:X<=100000)(hY:Y<=100000)(hB:bE w Bg #[aB (ζ ⟨G,0,δ⟩)] 74)(hg:bE w G #[Θ a X ca,Θ b Y cb,m2,m3,m4] 117):
 aQ7 F n γ 120 #[aB (ζ ⟨Bg,0,δ⟩)] (bd4 Y) (eK (fun k=>k=Bg\/k=G)) (X*Y*4) w:=by
 intro l J Jx W hW hYd h0;have b0:=(hB.below hW hB.lt).cell 0;have hG:=hg.below hW hg.lt;have g0:=hG.cell 0;have g1:=hG.cell 1;simp only[bC,aU,cO]at b0 g0 g1;have hcB:∀V,eK (fun k=>k=Bg\/k=G) W V->V.cell? ⟨Bg,0,δ⟩=ζ (aB (ζ ⟨G,0,δ⟩))/\V.cell? ⟨G,0,δ⟩=ζ (Θ a X ca)/\V.cell? ⟨G,1,δ⟩=ζ (Θ b Y cb):=fun V h=>
  ⟨(h.cell (p:=⟨Bg,0,δ⟩) (.inl rfl)).trans b0,(h.cell (p:=⟨G,0,δ⟩) (.inr rfl)).trans g0,(h.cell (p:=⟨G,1,δ⟩) (.inr rfl)).trans g1⟩
 have HC:=zq hcB;have HY:=zq hYd;clear hB hg hW hG hcB hYd;refine ol func120 rfl h7 ?_ hro;simp only[ntmps120,bI,aC,bB,cL,dF,bG,bH,cE,bN,cM,bV];gi_wp2;gi_loopw [11] (fun i wr=>∃x:Nat,i=Υ Ξ x/\x<=X/\J (x*Y*4) wr/\eK (fun k=>k=Bg\/k=G) W wr) (fun i _=>X-(ξ i).toNat);case atStart=>exact⟨0,rfl,aP _,by rw[vO,vO];exact h0,eK.refl _ _⟩
 case round=>
  obtain⟨x,rfl,hx,hJ,hS⟩:=hrel;rename η=>wo;by_cases hxl:x<X
  .have hxI:(x:Int)<X:=oM;obtain⟨c0,c1,c2⟩:=HC.o wo hS;clear b0 g0 g1;gi_wp2;gi_loopw [19] (fun i wr=>∃y:Nat,i=Υ Ξ y/\y<=Y/\J ((x*Y+y)*4) wr/\eK (fun k=>k=Bg\/k=G) W wr) (fun i _=>Y-(ξ i).toNat);case atStart=>exact⟨0,rfl,aP _,hJ,hS⟩
   case round=>
    clear hJ hS c0 c1 c2;obtain⟨y,rfl,hy,hJ2,hS2⟩:=hrel;by_cases hyl:y<Y
    .have hyI:(y:Int)<Y:=oM;gi_wp2;gi_loopw [22] (fun i wr=>∃d:Nat,i=Υ Ξ d/\d<=4/\J ((x*Y+y)*4+d) wr/\eK (fun k=>k=Bg\/k=G) W wr) (fun i _=>4-(ξ i).toNat);case atStart=>exact⟨0,rfl,oM,hJ2,hS2⟩
     case round=>
      clear hJ2 hS2;obtain⟨d,rfl,hd,hJ3,hS3⟩:=hrel;rename η=>wi;by_cases hlt:d<4
      .have hN:(x*Y+y)*4+d<X*Y*4:=by
        have h1:x*Y+y<X*Y:=by
         have:(x+1)*Y<=X*Y:=tA _ hxl;rw[nu,OU]at this;omega
        omega
       obtain⟨fn,tmps,assign,body,hyy,hR⟩:=HY.o ((x*Y+y)*4+d) wi hN hJ3;rw[bd4,iu hyl hlt]at hyy;have J5:(d:Int)<4:=oM;gi_wp2;refine hR.mono ?_;rintro e W3 (⟨rfl,hJ4,hk4⟩|⟨rfl,bo6⟩)
       .gi_wp2;go_roundw;case rel=>exact⟨d+1,by go_num,oM,hJ4,hS3.trans hk4⟩
        case measure=>simp only[ξ];omega
       .gi_wp2;refine cU (tW rfl _ _ _) rfl ?_;exact⟨⟨_,rfl⟩,.inr ⟨(x*Y+y)*4+d+1,oM,bo6⟩⟩
      .obtain rfl:d=4:=oM;gi_wp2;go_roundw;case rel=>exact⟨y+1,by go_num,oM,by rw[show(x*Y+(y+1))*4=(x*Y+y)*4+4 by omega];exact hJ3,hS3⟩
       case measure=>simp only[ξ];omega
    .obtain rfl:y=Y:=oM;gi_wp2;go_roundw;case rel=>exact⟨x+1,by go_num,oM,by rw[nu,OU];exact hJ2,hS2⟩
     case measure=>simp only[ξ];omega
  .obtain rfl:x=X:=oM;gi_wp2;go_end0;exact⟨⟨_,rfl⟩,.inl hJ⟩
theorem tm(G w):
 aE γ 68 #[aB (ζ ⟨G,0,δ⟩)] w fun e w'=>e=σ (.func (.func 120) #[] #[aB (ζ ⟨w.heap.size,0,δ⟩)])/\w'=w.alloc (π #[aB (ζ ⟨G,0,δ⟩)] 74):=by
 go_enter func68,ntmps68;go_wp2;go_ret;exact⟨rfl,rfl⟩
end
abbrev UL:=List (Wy×Bool)
theorem VO{w:η}{b:Nat}{U:UL}(h:w.heap[b]? =ζ (mS kW vB U))(x y:Int)(d:Nat):(pT 123 (.map (ζ b)) (bQ #[Υ Ξ x,Υ Ξ y,Υ Ξ d]) ν).run γ w=.ok (ω ((mR U ⟨x,y,d⟩).getD ν)) w:=
 Iu (zero:=ν) Qp ab3 aM3 h ⟨x,y,d⟩ ν
open Classical in
def Aa(U:UL)(us:List Wy):Prop:=∀v,mR U v=if v∈us then ζ ι else δ
theorem Aa.get{U:UL}(h:Aa U us)(v):(mR U v).getD ν=ι↔v∈us:=by
 rw[h v];split
 .exact⟨fun _=>‹_›,fun _=>rfl⟩
 .exact⟨fun e=>(by cases e),fun e=>absurd e ‹_›⟩
theorem Aa.put{U:UL}(h:Aa U us)(v):Aa (kJ U v ι) (us++[v]):=by
 intro x;rw[D9,h x];by_cases e:v=x
 .rw[ip e,ip (by rw[e];simp)]
 .rw[iN e];by_cases e2:x∈us
  .rw[ip e2,ip (gU _ e2)]
  .rw[iN e2,iN];intro c;rcases List.mem_append.1 c with c|c
   .exact e2 c
   .exact e (List.mem_singleton.1 c).symm
theorem Aa.nil:Aa [] []:=fun v=>by simp[mR]
structure gI(W1:η)(M O:Nat)(us:List Wy)(Ab:List (List Pt))(W:η):Prop where
 kept:iX (fun j=>j=M\/j=O) W1 W
 map:∃U,W.heap[M]? =ζ (mS kW vB U)/\Aa U us
 o:∃v aZ,bE W O #[v] 28/\gM W1.heap.size W v aZ/\aZ.map Lp.ps=Ab
section
variable{W1 W W':η}{M O:Nat}{us:List Wy}{Ab:List (List Pt)}
theorem gI.below(h:gI W1 M O us Ab W)(hb:Bw W W'):gI W1 M O us Ab W':=by
 obtain⟨h1,⟨U,h2,h3⟩,v,aZ,h4,h5,h6⟩:=h;exact⟨h1.step hb,⟨U,tN h2 hb,h3⟩,v,aZ,h4.below hb h4.lt,h5.below hb,h6⟩
theorem gI.own(hM:M<W1.heap.size)(hO:O<W1.heap.size)(h:gI W1 M O us Ab W)(hg:W.grownBy W' row)(hr:∀r,row=ζ r->W1.heap.size<=r/\∃o:Obj,W.heap[r]? =ζ o/\o.isCells=ν):gI W1 M O us Ab W':=by
 obtain⟨h1,⟨U,h2,h3⟩,v,aZ,h4,h5,h6⟩:=h;have ne:∀k,k<W1.heap.size->ζ k≠row:=fun k hk e=>by have:=(hr k e.symm).1;omega
 refine⟨⟨hg.os.trans h1.os,hg.tape.trans h1.tape,hg.output.trans h1.output,aA h1.size hg.size,fun k hk hn=>(hg.block k (cN hk h1.size) (ne k hk)).trans (h1.block k hk hn)⟩,
  ⟨U,(hg.block M (Array.getElem?_eq_some_iff.1 h2).1 (ne M hM)).trans h2,h3⟩,v,aZ,(hg.block O h4.lt (ne O hO)).trans h4,⟨mE h5.1 hg (fun r e=>(hr r e).2),fun l hl=>mE (h5.2 l hl) hg (fun r e=>(hr r e).2)⟩,h6⟩
theorem NM{n:Nat}{v:χ}(h:W.ownsRow B e size v n xs)(he:e≠130)(hr:∀r,row=ζ r->∃cs fz,W.heap[r]? =ζ (π cs 130 fz)):v.ownBlock=δ\/v.ownBlock≠row:=by
 rcases h.2 with⟨h,_⟩|⟨g,c,pZ,h,_,k,_⟩
 .left;rw[h];rfl
 .right;rw[h];intro e2;obtain⟨cs,fz,h3⟩:=hr g e2.symm;rw[k]at h3;cases h3;exact he rfl
theorem gI.turn(hM:M<W1.heap.size)(hO:O<W1.heap.size)(h:gI W1 M O us Ab W)(hg:W.grownBy W' row)(hr:∀r,row=ζ r->W1.heap.size<=r/\∃cs fz,W.heap[r]? =ζ (π cs 130 fz)):gI W1 M O us Ab W':=by
 obtain⟨h1,⟨U,h2,h3⟩,v,aZ,h4,h5,h6⟩:=h;have ne:∀k,k<W1.heap.size->ζ k≠row:=fun k hk e=>by have:=(hr k e.symm).1;omega
 have Pw:∀r,row=ζ r->∃cs fz,W.heap[r]? =ζ (π cs 130 fz):=fun r e=>(hr r e).2;exact⟨⟨hg.os.trans h1.os,hg.tape.trans h1.tape,hg.output.trans h1.output,aA h1.size hg.size,fun k hk hn=>(hg.block k (cN hk h1.size) (ne k hk)).trans (h1.block k hk hn)⟩,
  ⟨U,(hg.block M (Array.getElem?_eq_some_iff.1 h2).1 (ne M hM)).trans h2,h3⟩,v,aZ,(hg.block O h4.lt (ne O hO)).trans h4,⟨h5.1.kept hg (NM h5.1 dD Pw),fun l hl=>(h5.2 l hl).kept hg (NM (h5.2 l hl) dD Pw)⟩,h6⟩
theorem mA{n:Nat}{v:χ}(h:W.ownsRow B e size v n xs):∀r,v.ownBlock=ζ r->B<=r/\∃cs fz,W.heap[r]? =ζ (π cs e fz):=by
 intro r hr;rcases h.2 with⟨h,_⟩|⟨g,c,pZ,h,hb,k,_⟩
 .rw[h]at hr;cases hr
 .rw[h]at hr;have e:g=r:=by simpa[iQ]using hr
  subst e;exact⟨hb,pZ,_,k⟩
theorem gI.use(h:gI W1 M O us Ab W){U:UL}(hm:W.heap[M]? =ζ (mS kW vB U))(hU:Aa U us)(v):gI W1 M O (us++[v]) Ab (W.putObj M (mS kW vB (kJ U v ι))):=by
 obtain⟨h1,-,x,aZ,h4,h5,h6⟩:=h;have hc:(mS kW vB U).isCells=ν:=rfl;exact⟨h1.trans (.putObj W (.inl rfl) _),⟨_,AK hm _,hU.put v⟩,x,aZ,(fG _ _ _ _ (lU h4 hm)).trans h4,⟨mE h5.1 (pX W M _) (fun r e=>by cases e;exact⟨_,hm,hc⟩),fun l hl=>mE (h5.2 l hl) (pX W M _) (fun r e=>by cases e;exact⟨_,hm,hc⟩)⟩,h6⟩
end
theorem Ac(W:η)(a:bW)(u:χ):W.grownBy (W.setCell a u) (ζ a.block):=
 ⟨rfl,rfl,rfl,sP,fun k _ hk=>dG W a k u (fun e=>hk (by rw[e]))⟩
theorem VP{a b c:η}(h:a.grownBy b row)(k:b.grownBy c row):a.grownBy c row:=
 ⟨k.os.trans h.os,k.tape.trans h.tape,k.output.trans h.output,aA h.size k.size,fun i hi hn=>(k.block i (cN hi h.size) hn).trans (h.block i hi hn)⟩
theorem tq(W:η)(g:Nat)(a b c:χ):W.grownBy (((W.setCell ⟨g,0,δ⟩ a).setCell ⟨g,1,δ⟩ b).setCell ⟨g,2,δ⟩ c) (ζ g):=
 VP (VP (Ac W ⟨g,0,δ⟩ a) (Ac _ ⟨g,1,δ⟩ b)) (Ac _ ⟨g,2,δ⟩ c)
structure iw(W1 W:η)(M O:Nat)(us:List Wy)(Ab:List (List Pt))(f:Wy->Wy)(v:Wy)(j qn:Nat)(lv:χ)(wr:η):Prop where
 n:bE wr qn #[Υ Ξ (fW f j v).x,Υ Ξ (fW f j v).y,Υ Ξ (fW f j v).d] 130
 nb:W1.heap.size<=qn
 lo:gI W1 M O (us++jX f v j) Ab wr
 row:wr.ownsRow W1.heap.size 130 3 lv j (fX (jX f v j))
 sep:ζ qn≠lv.ownBlock
 kf:iB W1.heap.size W wr
theorem Cb(h:iB B W V)(hb:Bw V V'):iB B W V':=h.trans ((gC hb).from B)
theorem xM(h:iB B W V)(hg:V.grownBy V' row)(hr:∀r,row=ζ r->∃cs T fz,V.heap[r]? =ζ (π cs T fz)):iB B W V':=h.trans ((FN hg (fun r o e ho=>by
 obtain⟨cs,T,fz,h2⟩:=hr r e
 rw[h2]at ho
 cases ho
 rfl)).from B)
theorem Kn{c:Int->Int->Bool}(h:tG c X Y){w:Wy}(hb:eX c w=ι):Lx X Y w:=by
 obtain⟨h1,h2,h3,h4,h5⟩:=Ca.1 (zZ h hb);obtain⟨t,-,-,e,-⟩:=rT hb;obtain⟨k1,k2,k3,k4,-⟩:=Ca.1 (zZ h (Mx hb));rw[e]at k1 k2 k3 k4;exact⟨h1,h2,h3,h4,h5,k1,k2,k3,k4⟩
theorem VQ{n:Nat}{v:χ}(h:W.ownsRow B e size v n xs)(hO:O<B)(u j):(W.setCell ⟨O,j,δ⟩ u).ownsRow B e size v n xs:=
 h.kept (Ac W ⟨O,j,δ⟩ u) (by
  rcases h.2 with⟨h1,_⟩|⟨g,c,pZ,h1,hb,_⟩
  .left;rw[h1];rfl
  .right;rw[h1];intro e
   have e:g=O:=by simpa[iQ]using e
   omega)
theorem gI.push{W1:η}{M:Nat}{ov:χ}{l:Lp}(hM:M<W1.heap.size)(hO:O<W1.heap.size)(hMO:M≠O)(hk:iX (fun j=>j=M\/j=O) W1 W)(hm:∃U,W.heap[M]? =ζ (mS kW vB U)/\Aa U us)(hb:bE W O #[ov] 28)(ho:gM W1.heap.size W ov aZ)(hl:W.ownsRow W1.heap.size 35 3 l.v l.ps.length (cJ l.ps))(hg:W.grownBy W' ov.ownBlock)(cT:W'.ownsRow W1.heap.size 32 1 (Θ (ζ ⟨g,0,δ⟩) (aZ.length+1) c) (aZ.length+1) (aZ.map Lp.v++[l.v])):
 gI W1 M O us (aZ.map Lp.ps++[l.ps]) (W'.setCell ⟨O,0,δ⟩ (Θ (ζ ⟨g,0,δ⟩) (aZ.length+1) c)):=by
 obtain⟨U,h2,h3⟩:=hm;have hr:=mA ho.1;have ne:∀k,k<W1.heap.size->ζ k≠ov.ownBlock:=fun k hk e=>by have:=(hr k e.symm).1;omega
 have hG:=ho.grow hl hg cT;have hbO:bE W' O #[ov] 28:=(hg.block O hb.lt (ne O hO)).trans hb;refine⟨⟨hg.os.trans hk.os,hg.tape.trans hk.tape,hg.output.trans hk.output,by rw[World.size_setCell];exact aA hk.size hg.size,fun k hlt hn=>?_⟩,⟨U,?_,h3⟩,_,aZ++[l],hbO.set 0 _,⟨VQ hG.1 hO _ 0,fun x hx=>VQ (hG.2 x hx) hO _ 0⟩,sP⟩
 .rw[dG W' ⟨O,0,δ⟩ k _ (fun e=>hn (.inr e))];exact(hg.block k (cN hlt hk.size) (ne k hlt)).trans (hk.block k hlt hn)
 .rw[dG W' ⟨O,0,δ⟩ M _ hMO];exact(hg.block M (Array.getElem?_eq_some_iff.1 h2).1 (ne M hM)).trans h2
theorem Cc{o:eZ}{K:iS->η->Prop}{Q:sG->iS->η->Prop}{E:Prop}(Io:o.guard=δ)(s x)(ho:o.op=.call {callee:=.builtin .append,args:=#[s,x],argTypes:=#[28,28]})(B v n xs)(hs:a.eval s=v)(cT:w.ownsRow B 32 1 v n xs)(nb ad m c)(hx:a.eval x=Θ (ζ ⟨nb,0,δ⟩) 1 1)(hnb:bE w nb #[Θ ad m c] 32)(OZ:n+1<=100000)(kH:B<=w.heap.size)(h:∀g cap w',w'.ownsRow B 32 1 (Θ (ζ ⟨g,0,δ⟩) (n+1) cap) (n+1) (xs++[Θ ad m c])->w.grownBy w' v.ownBlock->(v.ownBlock=ζ g\/g=w.heap.size)->K (a.put o.dst (Θ (ζ ⟨g,0,δ⟩) (n+1) cap)) w'):
 if dU o (rP cF a.tmps)=ι then OQ γ o a w K Q else E:=by
 obtain⟨i0,hi,Ak,yP,uT⟩:=jJ VA;exact step_append_lies w Io s x 28 ho B 32 i0 (Θ δ 0 0) 1 24 underlying28 hi Ak yP uT rfl dD v n xs hs cT ⟨nb,0,δ⟩ 1 1 [Θ ad m c] hx rfl (dr hnb) (by simp[iP]) dD (by unfold yE;omega) oM kH _ rfl
  fun g cap w' h1 h2 h3 _=>h g cap w' h1 h2 h3
section
attribute[local go_sem] eQ
theorem Zz{n:Nat}{o:eZ}{Q:sG->iS->η->Prop}(Io:o.guard=δ)(s x)(ho:o.op=.call {callee:=.builtin .append,args:=#[s,x],argTypes:=#[132,132]})(cH v m xs)(hs:a.eval s=v)(cT:w.ownsRow cH 130 3 v m xs)(d1 d2 d3)(hx:a.eval x=Θ (ζ ⟨w.heap.size,0,δ⟩) 1 1)(OZ:m+1<=100000000)(kH:cH<=w.heap.size)(h:∀g cap w',w'.ownsRow cH 130 3 (Θ (ζ ⟨g,0,δ⟩) (m+1) cap) (m+1) (xs++[Υ Ξ d1,Υ Ξ d2,Υ Ξ d3])->cH<=g->w.grownBy w' v.ownBlock->
  wpListIn F n γ cF Q rest (a.put o.dst (Θ (ζ ⟨g,0,δ⟩) (m+1) cap)) w'):
 wpListIn F n γ cF Q (o::rest) a (w.alloc (π #[Υ Ξ d1,Υ Ξ d2,Υ Ξ d3] 130)):=by
 obtain⟨i0,hi,Ak,yP,uT⟩:=jJ Nz;refine wpListIn_append_own _ Io s x 132 ho cH 130 i0 (bQ #[Υ Ξ 0,Υ Ξ 0,Υ Ξ 0]) 3 24 Js hi Ak yP uT rfl dD v m xs hs (cT.alloc _) ⟨w.heap.size,0,δ⟩ 1 1 [Υ Ξ d1,Υ Ξ d2,Υ Ξ d3] hx rfl (JH w _ _) (by simp[iP])
  (by unfold yE;omega) oM (by simp;omega) ?_
 intro v' w' lH hg JJ;obtain⟨g',Ip,rfl⟩:=JI lH;exact h g' Ip w' lH (mD lH).1 (A5 (de w _ δ) hg)
theorem iJ.kept{X:Nat->Prop}(h:iJ W G xv yv m2 m3 m4 S N I)(hk:iX X W W')(hX:∀k,X k->B<=k)(h1:G<B)(h2:m2<B)(h3:m3<B)(h4:m4<B):iJ W' G xv yv m2 m3 m4 S N I:=
 ⟨hk.blk h.blk fun c=>by have:=hX _ c;omega,hk.obj h.s fun c=>by have:=hX _ c;omega,hk.obj h.n fun c=>by have:=hX _ c;omega,hk.obj h.i fun c=>by have:=hX _ c;omega⟩
theorem Lns.kept{X:Nat->Prop}{P Q:Nat}{xs:List (List UInt8)}(h:Lns W gx gy P Q xs ys)(hk:iX X W W')(hX:∀k,X k->B<=k)(h1:gx<B\/P=0)(h2:gy<B\/Q=0):Lns W' gx gy P Q xs ys:=
 ⟨h.lx,h.ly,fun i hi=>hk.cell (h.x i hi) fun c=>by have:=hX _ c;rcases h1 with h1|h1<;>simp at this<;>omega,fun i hi=>hk.cell (h.y i hi) fun c=>by have:=hX _ c;rcases h2 with h2|h2<;>simp at this<;>omega⟩
def aT1:χ->Nat
 |Θ _ n _=>n
 |_=>0
theorem Q5(hk:k<X*Y*4):(oR X Y).take (k+1)=(oR X Y).take k++[yC Y k]:=by
 rw[VN,bM (by rw[υ,jQ];exact hk)];simp
theorem ZA(xa ya G gx gy X Y cx cy m2 m3 m4 S N I xs ys w)(hX:X<=100000)(hY:Y<=100000)(hXY:X*(Y*4)<=10000)(oV:tG (mW I) X Y)(hxa:0<X->xa=ζ ⟨gx,0,δ⟩)(hya:0<Y->ya=ζ ⟨gy,0,δ⟩)(hg:iJ w G (Θ xa X cx) (Θ ya Y cy) m2 m3 m4 S N I)(hl:Lns w gx gy X Y xs ys):
 aE γ 28 #[aB (ζ ⟨G,0,δ⟩)] w fun e w'=>(∃v aZ,e=σ v/\gM w.heap.size w' v aZ/\aZ.map Lp.ps=(jK (mW I) (oR X Y)).2.map (fF S xs ys))/\Bw w w':=by
 have ij:=@run_makeMap γ
 have HGx:aQ (∀W,0<X->0<Y->iJ W G (Θ xa X cx) (Θ ya Y cy) m2 m3 m4 S N I->iJ W G (Θ (ζ ⟨gx,0,δ⟩) X cx) (Θ (ζ ⟨gy,0,δ⟩) Y cy) m2 m3 m4 S N I):=fun W h1 h2 h=>by rw[<-hxa h1,<-hya h2];exact h
 clear hxa hya
 obtain⟨W0,fI⟩:=nm ((((w.alloc (π #[aB (ζ ⟨G,0,δ⟩)] 74)).alloc (.map #[] 0)).alloc (π #[.map (ζ (w.heap.size+1))] 123)).alloc (π #[Θ δ 0 0] 28))
 have fL:Bw w W0:=by rw[<-fI];exact(((nA _ _).alloc sP _).alloc (by simp <;>omega) _).alloc (by simp <;>omega) _
 have hs0:W0.heap.size=w.heap.size+4:=by rw[<-fI];simp
 have q0:bE W0 w.heap.size #[aB (ζ ⟨G,0,δ⟩)] 74:=by rw[<-fI];exact(((bE.new w _ _).alloc _).alloc _).alloc _
 have qm:W0.heap[w.heap.size+1]? =ζ (mS kW vB []):=by
  rw[<-fI]
  have e1:=heap_alloc_new (w.alloc (π #[aB (ζ ⟨G,0,δ⟩)] 74)) (.map #[] 0)
  rw[aL]at e1
  refine(xR _ _ _ (by simp <;>omega)).trans ((xR _ _ _ sP).trans e1)
 have q2:bE W0 (w.heap.size+1+1) #[.map (ζ (w.heap.size+1))] 123:=by
  rw[<-fI]
  have:=(bE.new ((w.alloc (π #[aB (ζ ⟨G,0,δ⟩)] 74)).alloc (.map #[] 0)) #[.map (ζ (w.heap.size+1))] 123).alloc (π #[Θ δ 0 0] 28)
  rwa[aL,aL]at this
 have q3:bE W0 (w.heap.size+1+1+1) #[Θ δ 0 0] 28:=by
  rw[<-fI]
  have:=bE.new (((w.alloc (π #[aB (ζ ⟨G,0,δ⟩)] 74)).alloc (.map #[] 0)).alloc (π #[.map (ζ (w.heap.size+1))] 123)) #[Θ δ 0 0] 28
  rwa[aL,aL,aL]at this
 have ZB:G<w.heap.size/\m2<w.heap.size/\m3<w.heap.size/\m4<w.heap.size:=⟨hg.blk.lt,(Array.getElem?_eq_some_iff.1 hg.s).1,(Array.getElem?_eq_some_iff.1 hg.n).1,(Array.getElem?_eq_some_iff.1 hg.i).1⟩
 have hll:(gx<w.heap.size\/X=0)/\(gy<w.heap.size\/Y=0):=by
  constructor
  .rcases iZ X with e|e
   .exact .inr e
   .exact .inl (aD w ⟨gx,0,δ⟩ (hl.x 0 e))
  .rcases iZ Y with e|e
   .exact .inr e
   .exact .inl (aD w ⟨gy,0,δ⟩ (hl.y 0 e))
 have HG:=zq (hg.below fL)
 have HL:=zq (hl.below fL)
 have HGl:=zq ZB
 have HLl:=zq hll
 have gH:=zq fL
 have rD:=zq q0
 have HQm:=zq qm
 have GX:=zq q2
 have Q7:=zq q3
 have Hs0:=zq hs0
 have If:=zq fI
 clear hg hl fL qm q2 q3 ZB hll hs0 fI
 refine eE func28 rfl ?_
 simp only[ntmps28,bI,aC,bB,cL,dF,bG,bH,cE,bN,cM,bV]
 go_upto_region 3 with(fail)
 rw[If.o]
 clear If
 have b1:=q0.ce 0
 clear q0
 go_wp2_with fail
 refine ka (tm G W0) fun W1 tZ=>?_
 have hb1:Bw W0 W1:=by rw[tZ];exact nA _ _
 have xZ:W1.heap.size=w.heap.size+5:=by rw[tZ,aL,Hs0.o]
 have wF:aQ (bE W1 W0.heap.size #[aB (ζ ⟨G,0,δ⟩)] 74):=by rw[tZ];exact bE.new _ _ _
 have HG1:=zq (HG.o.below hb1)
 have HL1:=zq (HL.o.below hb1)
 have eG:=gH.bS hb1
 have rD:=rD.bb hb1
 have HQm:=zq (tN HQm.o hb1)
 have GX:=GX.bb hb1
 have Q7:=Q7.bb hb1
 have Hs1:=zq xZ
 have aT2:aQ (W0.heap.size=w.heap.size+4):=Hs0.o
 clear hb1 tZ HG HL b1 xZ gH Hs0
 generalize W0.heap.size=BWv at *
 have HX:aQ (∀k,(k=w.heap.size+1\/k=w.heap.size+1+1+1)->w.heap.size<=k):=fun k h=>oM
 have aB6:aQ (∀W,iX (fun j=>j=w.heap.size+1\/j=w.heap.size+1+1+1) W1 W->iJ W G (Θ xa X cx) (Θ ya Y cy) m2 m3 m4 S N I/\Lns W gx gy X Y xs ys):=fun W h=>
  ⟨HG1.o.kept h HX.o HGl.o.1 HGl.o.2.1 HGl.o.2.2.1 HGl.o.2.2.2,HL1.o.kept h HX.o HLl.o.1 HLl.o.2⟩
 go_wp2_with fail
 have Tp:∀k,(k=BWv\/k=G)->k<W1.heap.size:=fun k h=>h.elim (fun e=>by rw[e];exact wF.o.lt) (fun e=>by rw[e];exact HG1.o.blk.lt)
 have Tq:w.heap.size+1<W1.heap.size:=by rw[Hs1.o];omega
 have VR:w.heap.size+1+1+1<W1.heap.size:=by rw[Hs1.o];omega
 refine M9 (gf:=120) (lb:=#[aB (ζ ⟨BWv,0,δ⟩)]) rfl (iC func120 kF rfl)
  (tk eD 8 trivial rfl dD BWv G _ _ X Y cx cy _ _ _ W1 hX hY wF.o HG1.o.blk).m eK.trans (eK.putObj Tp) (fun _=>rfl)
  (fun k W=>gI W1 (w.heap.size+1) (w.heap.size+1+1+1) (jK (mW I) ((oR X Y).take k)).1 ((jK (mW I) ((oR X Y).take k)).2.map (fF S xs ys)) W) (fun _ _ _=>False)
  (fun _ _ _ _ hs hg hr=>hs.own Tq VR hg hr) (fun c _ _ _ _ hs _ _=>hs) ⟨iX.refl _ _,⟨[],HQm.o,Aa.nil⟩,_,[],Q7.o,⟨rN _ _ _ _,fun l hl=>by cases hl⟩,rfl⟩
  (fun a' k W=>(∃q,a'={tmps:=#[aB (ζ ⟨G,0,δ⟩),aB (ζ ⟨w.heap.size,0,δ⟩),Θ δ 0 0,aB (ζ ⟨w.heap.size+1+1,0,δ⟩),aB (ζ ⟨w.heap.size+1+1+1,0,δ⟩),aB (ζ ⟨q,0,δ⟩),ψ,ψ,.map (ζ (w.heap.size+1)),aB (ζ ⟨G,0,δ⟩),.func (.func 120) #[] #[aB (ζ ⟨BWv,0,δ⟩)],bQ #[Υ Ξ (yC Y k).x,Υ Ξ (yC Y k).y,Υ Ξ (yC Y k).d],ψ,ψ,ψ,ψ,ψ,ψ,ψ,ψ,ψ,ψ,ψ,ψ,ψ,ψ,ψ,ψ,ψ,ψ,ψ,ψ,ψ,ψ,ψ,ψ,ψ,ψ,ψ,ψ,ψ,ψ,ψ],defers:=[]}/\bE W q #[Υ Ξ (yC Y k).x,Υ Ξ (yC Y k).y,Υ Ξ (yC Y k).d] 130)/\gI W1 (w.heap.size+1) (w.heap.size+1+1+1) (jK (mW I) ((oR X Y).take k)).1 ((jK (mW I) ((oR X Y).take k)).2.map (fF S xs ys)) W)
  (fun a'=>eJ (Own.from (fun s A B row hs hg hr=>by obtain⟨q,e,h⟩:=hs;exact⟨q,e,h.own hg hr⟩) _) (fun _ _ _ _ hs hg hr=>hs.own Tq VR hg hr))
  ?assign ?body ?done ?stop
 case assign=>
  intro l k W K hk hI hK
  obtain⟨V,hV⟩:=nm (W.alloc (π #[Υ Ξ (yC Y k).x,Υ Ξ (yC Y k).y,Υ Ξ (yC Y k).d] 130))
  have hb:Bw W V:=by rw[<-hV];exact nA _ _
  have HN:aQ (bE V W.heap.size #[Υ Ξ (yC Y k).x,Υ Ξ (yC Y k).y,Υ Ξ (yC Y k).d] 130):=by rw[<-hV];exact bE.new _ _ _
  have HKf:=zq ((gC hb).from W1.heap.size)
  have HSa:aQ (eK (fun k=>k=BWv\/k=G) W V):=eK.below hb (fun k h=>cN (Tp k h) hI.kept.size)
  have HIv:=zq (hI.below hb)
  have HV:=zq hV
  clear hb hI hV
  gi_wp2
  try rw[HV.o]
  clear HV
  generalize W.heap.size=q at *
  exact hK _ _ HKf.o HSa.o ⟨⟨q,rfl,HN.o⟩,HIv.o⟩
 case done=>
  rintro D W hD hB hK
  obtain⟨Yo,-,v,aZ,ho,Tr,lI⟩:=hB
  have hcn:(Obj.deferred (ζ [])).isCells=ν:=rfl
  have HK:=zq hK
  have HBW:=zq (eG.o.trans (Yo.below (B:=w.heap.size) (by rw[Hs1.o];omega) HX.o))
  have HBD:=zq (lQ (B:=w.heap.size) (by have:=Hs1.o;omega) hK (o':=.deferred δ))
  have HLp:aQ (gM w.heap.size (W.putObj D (.deferred δ)) v aZ):=⟨jU (mE Tr.1 (pX W D _) (fun r e=>by cases e;exact⟨_,hK,hcn⟩)) (by rw[Hs1.o];omega),fun l hl=>jU (mE (Tr.2 l hl) (pX W D _) (fun r e=>by cases e;exact⟨_,hK,hcn⟩)) (by rw[Hs1.o];omega)⟩
  have HPs:aQ (aZ.map Lp.ps=(jK (mW I) (oR X Y)).2.map (fF S xs ys)):=by
   show _=_
   rw[lI,eA]
   rw[VN,υ,jQ]
   exact θ _
  have b3:=ho.ce 0
  clear Yo ho Tr lI hK hD
  go_wp2
  refine⟨sP,.inl ⟨_,_,rfl,iD HK.o,?_⟩⟩
  exact⟨_,results_tmp Tryz.results28 _ _ _,⟨v,aZ,rfl,HLp.o,HPs.o⟩,HBW.o.trans HBD.o⟩
 case stop=>
  rintro D c k W hD hk h
  exact absurd h (fun h=>h)
 case body=>
  rintro l k a' W hk⟨⟨q,rfl,hq⟩,hI⟩
  have bd5:yC Y k∈oR X Y:=by
   have:=dj (l:=oR X Y) (i:=k+1) (a:=yC Y k) (by rw[Q5 hk];simp)
   exact this
  have HSt:aQ (jK (mW I) ((oR X Y).take (k+1))=eT (mW I) (jK (mW I) ((oR X Y).take k)) (yC Y k)):=by show _=_;rw[Q5 hk,VL]
  have bd6:=zq (wL oV ((oR X Y).take k))
  have VU:aQ (∀V,gI W1 (w.heap.size+1) (w.heap.size+1+1+1) (eT (mW I) (jK (mW I) ((oR X Y).take k)) (yC Y k)).1 ((eT (mW I) (jK (mW I) ((oR X Y).take k)) (yC Y k)).2.map (fF S xs ys)) V->gI W1 (w.heap.size+1) (w.heap.size+1+1+1) (jK (mW I) ((oR X Y).take (k+1))).1 ((jK (mW I) ((oR X Y).take (k+1))).2.map (fF S xs ys)) V):=fun V h=>by rw[HSt.o];exact h
  generalize jK (mW I) ((oR X Y).take k)=st at *
  generalize yC Y k=v at *
  obtain⟨hx0,hx1,hy0,hy1,hd⟩:=Ca.1 bd5
  obtain⟨vx,vy,vd⟩:=v
  simp only[]at hx0 hx1 hy0 hy1 hd hq
  have b0:=(hI.kept.blk rD.o (by intro c;omega)).cell 0
  have b2:=(hI.kept.blk GX.o (by intro c;omega)).cell 0
  simp only[bC,aU]at b0 b2
  obtain⟨e0,e1,e2⟩:=hq.three
  obtain⟨U,hm,hU⟩:=hI.map
  have HL:=VO hm vx vy vd
  have Mc:=hU.get ⟨vx,vy,vd⟩
  obtain⟨ub,hub⟩:=nm ((mR U ⟨vx,vy,vd⟩).getD ν)
  rw[hub]at HL Mc
  have bd7:=zq Mc
  have HI:=zq hI
  have HUU:=zq hU
  have Hm:=zq hm
  have Hq:=zq hq
  clear hI hU hm hub Mc bd5
  cases ub
  .have VV:(⟨vx,vy,vd⟩:Wy)∉st.1:=fun c=>by have:=bd7.o.2 c;cases this
   have Yr:=zq (Lm G _ _ m2 m3 m4 S N I vx vy vd hd oM oM W (aB6.o W HI.o.kept).1)
   obtain⟨bb,hbb⟩:=nm (bor (mW I) vx vy vd)
   rw[hbb]at Yr
   have Hbb:=zq hbb
   have bd8:=zq VV
   clear hbb VV
   gi_wp2_with fail
   refine⟨trivial,(Calls.round Yr.o _ _).mono ?_⟩
   rintro e W2⟨rfl,hb2⟩
   cases bb
   .have Ma:=zq ((gC hb2).from W1.heap.size)
    have HS2:aQ (eK (fun k=>k=BWv\/k=G) W W2):=eK.below hb2 (fun k h=>cN (Tp k h) HI.o.kept.size)
    have HI2:aQ (gI W1 (w.heap.size+1) (w.heap.size+1+1+1) (eT (mW I) st ⟨vx,vy,vd⟩).1 ((eT (mW I) st ⟨vx,vy,vd⟩).2.map (fF S xs ys)) W2):=by
     have e:eT (mW I) st ⟨vx,vy,vd⟩=st:=by
      unfold eT
      rw[ip]
      right
      unfold eX
      rw[Hbb.o,Bool.and_false]
     rw[e]
     exact HI.o.below hb2
    clear hb2
    gi_wp2
    exact⟨Ma.o,HS2.o,VU.o _ HI2.o⟩
   .have IV:eX (mW I) ⟨vx,vy,vd⟩=ι:=by
     unfold eX
     rw[Hbb.o,Bool.and_true]
     exact decide_eq_true hd
    obtain⟨kp,ZC,hkp⟩:=GY oV IV
    have hkp:kp<=10000:=aA hkp hXY
    have aT3:0<kp:=ZC.1
    have HFr:aQ (∀j,j<kp->fW (eY (mW I)) j ⟨vx,vy,vd⟩∉st.1++jX (eY (mW I)) ⟨vx,vy,vd⟩ j):=fun j hj c=>by
     rcases List.mem_append.1 c with c|c
     .exact NC ZC.2.1 (U:=(·∈st.1)) bd6.o.kept bd8.o j (fM hj) c
     .obtain⟨i,hi,e⟩:=rC.1 c
      exact(Km oV).apart ((xK oV).2 IV) ZC.2.2 i j hi hj e
    have iz:aQ (fW (eY (mW I)) kp ⟨vx,vy,vd⟩∈st.1++jX (eY (mW I)) ⟨vx,vy,vd⟩ kp):=rM _ (rC.2 ⟨0,aT3,ZC.2.1.symm⟩)
    have Uv:aQ (∀j,Lx X Y (fW (eY (mW I)) j ⟨vx,vy,vd⟩)):=fun j=>Kn oV (AL IV j)
    have aT4:aQ (eT (mW I) st ⟨vx,vy,vd⟩=(st.1++jX (eY (mW I)) ⟨vx,vy,vd⟩ kp,st.2++[jX (eY (mW I)) ⟨vx,vy,vd⟩ kp])):=by
     show _=_
     unfold eT
     rw[iN (fun c=>c.elim bd8.o (fun e=>by rw[IV]at e;cases e)),uY ZC]
    have bu8:=zq ZC
    have HW2:=zq hb2
    have HI2:=zq (HI.o.below hb2)
    have Hq2:=Hq.bb hb2
    obtain⟨V2,VW⟩:=nm (W2.alloc (π #[Υ Ξ vx,Υ Ξ vy,Υ Ξ vd] 130))
    have uB:Bw W2 V2:=by rw[<-VW];exact nA _ _
    have HRA:aQ (iw W1 W (w.heap.size+1) (w.heap.size+1+1+1) st.1 (st.2.map (fF S xs ys)) (eY (mW I)) ⟨vx,vy,vd⟩ 0 W2.heap.size (Θ δ 0 0) V2):=
     ⟨by rw[<-VW];exact bE.new _ _ _,aA HI2.o.kept.size (θ _),by show gI _ _ _ (st.1++[]) _ _;rw[kQ];exact HI2.o.below uB,rN _ _ _ _,by simp[iQ],Cb ((gC hb2).from _) uB⟩
    have Px:=zq VW
    obtain⟨e0,e1,e2⟩:=Hq2.o.three
    have b0:=(HI2.o.kept.blk rD.o (by intro c;omega)).cell 0
    have b2:=(HI2.o.kept.blk GX.o (by intro c;omega)).cell 0
    simp only[bC,aU]at b0 b2
    have hkW:=HI.o.kept
    clear hb2 uB VW ZC IV HL
    gi_wp2
    gi_loopw [6,7] (fun lv nv wr=>∃(j qn:Nat),nv=aB (ζ ⟨qn,0,δ⟩)/\j<=kp/\aT1 lv=j/\aQ (iw W1 W (w.heap.size+1) (w.heap.size+1+1+1) st.1 (st.2.map (fF S xs ys)) (eY (mW I)) ⟨vx,vy,vd⟩ j qn lv wr)) (fun lv _ _=>kp-aT1 lv)
    case atStart=>exact⟨0,W2.heap.size,rfl,aP _,rfl,by rw[Px.o];exact HRA.o⟩
    case round=>
     clear HRA Px HI2 Hq2 e0 e1 e2 b0 b2
     obtain⟨j,qn,rfl,hj,hlen,HR⟩:=hrel
     obtain⟨hn,hnb,ja,yB,NO,hkf⟩:=HR.o
     have LB:∀j,fW (eY (mW I)) (j+1) ⟨vx,vy,vd⟩=eY (mW I) (fW (eY (mW I)) j ⟨vx,vy,vd⟩):=fun j=>rfl
     have HN1:=zq (LB j)
     have HCy:=zq (sr (f:=eY (mW I)) ⟨vx,vy,vd⟩ j)
     have bd9:=zq (HFr.o j)
     have aB7:=zq (Uv.o j)
     have be0:aQ (j=kp->fW (eY (mW I)) j ⟨vx,vy,vd⟩∈st.1++jX (eY (mW I)) ⟨vx,vy,vd⟩ j):=fun e=>by rw[e];exact iz.o
     obtain⟨u,hu⟩:=nm (fW (eY (mW I)) j ⟨vx,vy,vd⟩)
     rw[hu]at hn HN1 HCy bd9 aB7 be0
     obtain⟨U2,Bo,hU2⟩:=ja.map
     have hgt:=hU2.get u
     have b0:=(ja.kept.blk rD.o (by intro c;omega)).cell 0
     have b2:=(ja.kept.blk GX.o (by intro c;omega)).cell 0
     simp only[bC,aU]at b0 b2
     obtain⟨n0,n1,n2⟩:=hn.three
     have ln:=hn.lt
     have Zf:=zq ja
     have ZD:=zq yB
     have bo7:=zq NO
     have HKf:=zq hkf
     have HNb:=zq hnb
     have HNn:=zq hn
     have HU2:=zq hU2
     have HM2:=zq Bo
     obtain⟨ux,uy,ud⟩:=u
     simp only[]at n0 n1 n2 HNn
     have hL2:=VO Bo ux uy ud
     obtain⟨ub,hub⟩:=nm ((mR U2 ⟨ux,uy,ud⟩).getD ν)
     rw[hub]at hL2 hgt
     have HGt:=zq hgt
     clear HR ja yB NO hkf hnb hn hU2 hgt hub hu LB
     by_cases hjk:j<kp
     .obtain rfl:ub=ν:=by
       cases ub
       .rfl
       .exact absurd (HGt.o.1 rfl) (bd9.o hjk)
      have HUp:fD γ (DW 123 (.map (ζ (w.heap.size+1))) (bQ #[Υ Ξ ux,Υ Ξ uy,Υ Ξ ud]) (ω ι)) wr=.ok () (wr.putObj (w.heap.size+1) (mS kW vB (kJ U2 ⟨ux,uy,ud⟩ ι))):=SI Qp ab3 Bo ⟨ux,uy,ud⟩ ι
      obtain⟨WA,Uu⟩:=nm (wr.putObj (w.heap.size+1) (mS kW vB (kJ U2 ⟨ux,uy,ud⟩ ι)))
      have hLA:gI W1 (w.heap.size+1) (w.heap.size+1+1+1) (st.1++jX (eY (mW I)) ⟨vx,vy,vd⟩ j++[⟨ux,uy,ud⟩]) (st.2.map (fF S xs ys)) WA:=by rw[<-Uu];exact Zf.o.use Bo HU2.o ⟨ux,uy,ud⟩
      have hgA:wr.grownBy WA (ζ (w.heap.size+1)):=by rw[<-Uu];exact pX wr _ _
      have hnA:bE WA qn #[Υ Ξ ux,Υ Ξ uy,Υ Ξ ud] 130:=by rw[<-Uu];exact(fG _ _ _ _ (lU HNn.o Bo)).trans HNn.o
      have hrA:WA.ownsRow W1.heap.size 130 3 u6 j (fX (jX (eY (mW I)) ⟨vx,vy,vd⟩ j)):=mE ZD.o hgA (fun r e=>by cases e;exact⟨_,Bo,rfl⟩)
      have hkA:iB W1.heap.size W WA:=HKf.o.trans (KeepsFrom.of_grownBy hgA (fun r e=>by cases e;exact Tq))
      have hsA:W1.heap.size<=WA.heap.size:=hLA.kept.size
      rw[Uu]at HUp
      have bu9:=HUp
      have bo8:aQ (fX (jX (eY (mW I)) ⟨vx,vy,vd⟩ (j+1))=fX (jX (eY (mW I)) ⟨vx,vy,vd⟩ j)++[Υ Ξ ux,Υ Ξ uy,Υ Ξ ud]):=by show _=_;rw[HCy.o,Lt];rfl
      have HLA:=zq hLA;have HNA:=zq hnA;have HRA:=zq hrA;have HKA:=zq hkA;have HSA:=zq hsA
      have a2':=(hLA.kept.blk GX.o (by intro c;omega)).cell 0
      simp only[bC,aU]at a2'
      obtain⟨k0,k1,k2⟩:=hnA.three
      have lnA:=hnA.lt
      clear Uu hLA hgA hnA hkA Bo
      have yB:=HRA.o
      have O6:=HSA.o
      have hj1:j+1<=100000000:=oM
      gi_wp2_with (gi_at_builtin;refine Zz rfl _ _ rfl W1.heap.size u6 j _ rfl yB ux uy ud rfl hj1 O6 ?_;intro g5 c5 w5 lJ sj sT;have x5:bE w5 qn #[Υ Ξ ux,Υ Ξ uy,Υ Ξ ud] 130:=(sT.block qn HNA.o.lt bo7.o).trans HNA.o;obtain⟨y0,y1,y2⟩:=x5.three;have ly:=x5.lt;have X5:=zq x5;clear x5;have xA:bE w5 w.heap.size #[aB (ζ ⟨G,0,δ⟩)] 74:=(HLA.o.turn Tq VR sT (mA HRA.o)).kept.blk rD.o (by intro c;omega);have y3:w5.cell? ⟨w.heap.size,0,δ⟩=ζ (aB (ζ ⟨G,0,δ⟩)):=xA.cell 0;have ly3:=xA.lt;clear xA)
      have hl5:=HLA.o.turn Tq VR sT (mA HRA.o)
      have hk5:=xM HKA.o sT (fun r e=>by obtain⟨-,cs,fz,h⟩:=mA HRA.o r e;exact⟨cs,_,fz,h⟩)
      rw[<-bo8.o]at lJ
      obtain⟨V5,hV5⟩:=nm (w5.alloc (π #[Υ Ξ ux,Υ Ξ uy,Υ Ξ ud] 130))
      have hb5:Bw w5 V5:=by rw[<-hV5];exact nA _ _
      have hn5:bE V5 w5.heap.size #[Υ Ξ ux,Υ Ξ uy,Υ Ξ ud] 130:=by rw[<-hV5];exact bE.new _ _ _
      have hl6:=hl5.below hb5
      have hk6:=Cb hk5 hb5
      have hr6:=aR lJ hb5
      have bo9:W1.heap.size<=w5.heap.size:=hl5.kept.size
      have bp0:g5<w5.heap.size:=(mD lJ).2.1
      have a0':=(hl6.kept.blk rD.o (by intro c;omega)).cell 0
      simp only[bC,aU]at a0'
      obtain⟨x0,x1,x2⟩:=hn5.three
      have PD:=zq (tj G _ _ m2 m3 m4 S N I ux uy ud aB7.o.2.2.2.2.1 (by have:=aB7.o;unfold Lx at this;simp only[]at this;omega) (by have:=aB7.o;unfold Lx at this;simp only[]at this;omega) V5 (aB6.o V5 hl6.kept).1)
      have HL6:=zq hl6;have HK6:=zq hk6;have HR6:=zq hr6;have HN6:=zq hn5;have HS5:=zq bo9;have HG5:=zq bp0
      try rw[hV5]
      clear hV5 hb5 hl5 hk5 lJ sT hl6 hk6 hr6 hn5 yB O6 y0 y1 y2 ly y3 ly3 k0 k1 k2 lnA
      generalize w5.heap.size=qn2 at *
      refine⟨trivial,(Calls.round PD.o _ _).mono ?_⟩
      obtain⟨t,ht⟩:=nm (eY (mW I) ⟨ux,uy,ud⟩)
      rw[ht]at HN1|-
      obtain⟨tx,ty,td⟩:=t
      rintro e W6⟨rfl,hb6⟩
      unfold kW
      have HN7:=HN6.bb hb6
      have HL7:=zq (HL6.o.below hb6)
      have HK7:=zq (Cb HK6.o hb6)
      have HR7:=zq (aR HR6.o hb6)
      clear hb6 x0 x1 x2 ht a0'
      obtain⟨x0,x1,x2⟩:=HN7.o.three
      have z0:=HN7.o.fz 0
      have z1:=HN7.o.fz 1
      have z2:=HN7.o.fz 2
      have lq:=HN7.o.lt
      have Et:=tq W6 qn2 (Υ Ξ tx) (Υ Ξ ty) (Υ Ξ td)
      have CD:∀r,ζ qn2=ζ r->W1.heap.size<=r/\∃cs fz,W6.heap[r]? =ζ (π cs 130 fz):=fun r e=>by cases e;exact⟨HS5.o,_,_,HN7.o⟩
      have HN8:=zq (((HN7.o.set 0 (Υ Ξ tx)).set 1 (Υ Ξ ty)).set 2 (Υ Ξ td))
      have HL8:=zq (HL7.o.turn Tq VR Et CD)
      have HK8:=zq (xM HK7.o Et (fun r e=>by obtain⟨-,cs,fz,h⟩:=CD r e;exact⟨cs,_,fz,h⟩))
      have HR8:=zq (HR7.o.kept Et (.inr (by show ζ g5≠ζ qn2;have:=HG5.o;intro e;cases e;omega)))
      have HSp:aQ (ζ qn2≠(Θ (ζ ⟨g5,0,δ⟩) (j+1) c5).ownBlock):=by show ζ qn2≠ζ g5;have:=HG5.o;intro e;cases e;omega
      clear Et CD
      gi_wp2
      go_roundw
      case rel=>exact⟨j+1,qn2,rfl,oM,rfl,by rw[HN1.o];exact HN8.o,HS5.o,by rw[HCy.o,<-sI];exact HL8.o,HR8.o,HSp.o,HK8.o⟩
      case measure=>have h1:=hlen;show kp-(j+1)<kp-aT1 u6;omega
     .obtain rfl:j=kp:=oM
      obtain rfl:ub=ι:=by
       cases ub
       .exact absurd (HGt.o.2 (be0.o rfl)) dD
       .rfl
      obtain⟨gl,cl,rfl⟩:=qV aT3 ZD.o
      obtain⟨xN,Zn,ov,aZ,Jw,Tr,lI⟩:=Zf.o
      have Kf:=(mD ZD.o).2.2.1
      have HPt:=zq (Zv G gx gy X Y cx cy m2 m3 m4 S N I xs ys gl j cl (jX (eY (mW I)) ⟨vx,vy,vd⟩ j) wr.drew hX hY aT3 hkp Kf (BY _ _) (fun x hx=>by obtain⟨i,-,rfl⟩:=rC.1 hx;exact Uv.o i) (HGx.o _ oM oM (aB6.o wr.drew ⟨xN.os,xN.tape,xN.output,xN.size,xN.block⟩).1) (aB6.o wr.drew ⟨xN.os,xN.tape,xN.output,xN.size,xN.block⟩).2 (En.own ZD.o))
      have hsr:W1.heap.size<=wr.drew.heap.size:=xN.size
      have o0:=Jw.ce 0
      have lO:=Jw.lt
      have jb:aZ.length+1<=100000:=by
       have h1:=bd6.o.len oV
       have h2:=congrArg List.length lI
       rw[υ,υ]at h2
       omega
      gi_wp2
      refine uO (S:=(fun w'=>w'.cell? ⟨w.heap.size,0,δ⟩=ζ (aB (ζ ⟨G,0,δ⟩)))) kF kF ?_ (fun iW=>?_)
      .exact b0
      refine tH 1 rfl ?_
      refine tH 2 rfl ?_
      refine pu ?_
      refine eM (rs:=[0,3]) kF sP ?_
      refine cP rfl (fun K hK=>?_) (cP rfl (fun K hK=>?_) dH)
      focus
       go_simp
       show K _ _
       refine hK.o _ _ b0 (fun iW=>?_)
       clear hK K
       refine pu ?_
       refine eM (rs:=[3]) kF sP ?_
       refine cP rfl (fun K hK=>?_) dH
       go_simp
       (with_reducible refine HPt.o.mono ?_)
       rintro e w1⟨⟨g6,c6,rfl,BV⟩,hb6⟩
       have xU:=zq (aW (μ wr.heap.size wr).drew hb6)
       have HO6:=zq (jU BV hsr)
       clear BV hb6
       have r0:=aY xU.o o0
       have r1:=aY xU.o b0
       show K _ _
       refine hK.o _ _ r1 (fun iW=>?_)
       clear hK K
       refine pu ?_
       refine eM (rs:=[4]) kF sP ?_
       refine cP rfl (fun K hK=>?_) dH
       go_simp
       show K _ _
       have hal:=xU.o.alloc xU.o.size (π #[Θ (ζ ⟨g6,0,δ⟩) (fF S xs ys (jX (eY (mW I)) ⟨vx,vy,vd⟩ j)).length c6] 32)
       have u0:=aY hal o0
       have u1:=aY hal b0
       refine hK.o _ _ u1 (fun iW=>?_)
       clear hK K
       refine pu ?_
       refine eM (rs:=[5]) kF sP ?_
       refine cP rfl (fun K hK=>?_) dH
       refine Cc (by rfl) _ _ (by rfl) W1.heap.size ov aZ.length _ (by rfl) (aR Tr.1 hal) w1.heap.size (ζ ⟨g6,0,δ⟩) _ c6 (by rfl) (bE.new w1 _ _) oM (aA xN.size hal.size) ?_
       intro g7 c7 w7 rB Eu ai6
       have hb7:=aR HO6.o (nA w1 (π #[Θ (ζ ⟨g6,0,δ⟩) (fF S xs ys (jX (eY (mW I)) ⟨vx,vy,vd⟩ j)).length c6] 32))
       have hLz:=gI.push (l:=⟨ζ ⟨g6,0,δ⟩,c6,fF S xs ys (jX (eY (mW I)) ⟨vx,vy,vd⟩ j)⟩) Tq VR oM (xN.step hal) (by obtain⟨U,h1,h2⟩:=Zn;exact⟨U,tN h1 hal,h2⟩) (Jw.below hal Jw.lt) (Tr.below hal) hb7 Eu rB
       have hA7:w7.cell? ⟨w.heap.size,0,δ⟩=ζ (aB (ζ ⟨G,0,δ⟩)):=(Eu.cell_far ⟨w.heap.size,0,δ⟩ (aD _ _ u1) (fun e=>by have h:W1.heap.size<=w.heap.size:=(mA (aR Tr.1 hal) _ e.symm).1;have:=Hs1.o;omega)).trans u1
       have jc:bE w7 (w.heap.size+1+1+1) #[ov] 28:=(Eu.block _ (Jw.below hal Jw.lt).lt (fun e=>by have:=(mA (aR Tr.1 hal) _ e.symm).1;omega)).trans (Jw.below hal Jw.lt)
       have hKz:=xM (xM (Cb HKf.o hal) Eu (fun r e=>by obtain⟨-,cs,fz,h⟩:=mA (aR Tr.1 hal) r e;exact⟨cs,_,fz,h⟩)) (Ac w7 ⟨w.heap.size+1+1+1,0,δ⟩ (Θ (ζ ⟨g7,0,δ⟩) (aZ.length+1) c7)) (fun r e=>by cases e;exact⟨_,_,_,jc⟩)
       have HLz:=zq hLz
       have HKz:=zq hKz
       have y0:=jc.ce 0
       have y1:=jc.fz 0
       have ly:=jc.lt
       refine hK.o _ _ hA7 (fun iW=>?_)
       clear hK K hLz hKz hb7 rB Eu ai6
       refine pu ?_
       refine eM (rs:=[6]) kF sP ?_
       refine cP rfl (fun K hK=>?_) dH
       go_simp
       show K _ _
       refine hK.o _ _ (VD (by intro e;injection e with e1 e2;omega) hA7) (fun iW=>?_)
       clear hK K
       refine pu ?_
       refine wR kF ?_ _
       refine jH.normal ?_
       have HSm:aQ (eK (fun k=>k=BWv\/k=G) W (w7.setCell ⟨w.heap.size+1+1+1,0,δ⟩ (Θ (ζ ⟨g7,0,δ⟩) (aZ.length+1) c7))):=fun k h=>by
        have hkn:¬(k=w.heap.size+1\/k=w.heap.size+1+1+1):=by have:=aT2.o;have:=HGl.o.1;rcases h with h|h<;>omega
        rw[HLz.o.kept.block k (Tp k h) hkn,hkW.block k (Tp k h) hkn]
       have HLe:aQ (gI W1 (w.heap.size+1) (w.heap.size+1+1+1) (eT (mW I) st ⟨vx,vy,vd⟩).1 ((eT (mW I) st ⟨vx,vy,vd⟩).2.map (fF S xs ys)) (w7.setCell ⟨w.heap.size+1+1+1,0,δ⟩ (Θ (ζ ⟨g7,0,δ⟩) (aZ.length+1) c7))):=by
        rw[aT4.o]
        have:=HLz.o
        rw[lI]at this
        rw[dV]
        exact this
       gi_wp2
       exact⟨HKz.o,HSm.o,VU.o _ HLe.o⟩
      focus
       go_simp
       (with_reducible refine HPt.o.mono ?_)
       rintro e w1⟨⟨g6,c6,rfl,BV⟩,hb6⟩
       have xU:=zq (aW (μ wr.heap.size wr).drew hb6)
       have HO6:=zq (jU BV hsr)
       clear BV hb6
       have r0:=aY xU.o o0
       have r1:=aY xU.o b0
       show K _ _
       refine hK.o _ _ r1 (fun iW=>?_)
       clear hK K
       refine pu ?_
       refine eM (rs:=[0,4]) kF sP ?_
       refine cP rfl (fun K hK=>?_) (cP rfl (fun K hK=>?_) dH)
       focus
        go_simp
        show K _ _
        refine hK.o _ _ r1 (fun iW=>?_)
        clear hK K
        refine pu ?_
        refine eM (rs:=[4]) kF sP ?_
        refine cP rfl (fun K hK=>?_) dH
        go_simp
        show K _ _
        have hal:=xU.o.alloc xU.o.size (π #[Θ (ζ ⟨g6,0,δ⟩) (fF S xs ys (jX (eY (mW I)) ⟨vx,vy,vd⟩ j)).length c6] 32)
        have u0:=aY hal o0
        have u1:=aY hal b0
        refine hK.o _ _ u1 (fun iW=>?_)
        clear hK K
        refine pu ?_
        refine eM (rs:=[5]) kF sP ?_
        refine cP rfl (fun K hK=>?_) dH
        refine Cc (by rfl) _ _ (by rfl) W1.heap.size ov aZ.length _ (by rfl) (aR Tr.1 hal) w1.heap.size (ζ ⟨g6,0,δ⟩) _ c6 (by rfl) (bE.new w1 _ _) oM (aA xN.size hal.size) ?_
        intro g7 c7 w7 rB Eu ai6
        have hb7:=aR HO6.o (nA w1 (π #[Θ (ζ ⟨g6,0,δ⟩) (fF S xs ys (jX (eY (mW I)) ⟨vx,vy,vd⟩ j)).length c6] 32))
        have hLz:=gI.push (l:=⟨ζ ⟨g6,0,δ⟩,c6,fF S xs ys (jX (eY (mW I)) ⟨vx,vy,vd⟩ j)⟩) Tq VR oM (xN.step hal) (by obtain⟨U,h1,h2⟩:=Zn;exact⟨U,tN h1 hal,h2⟩) (Jw.below hal Jw.lt) (Tr.below hal) hb7 Eu rB
        have hA7:w7.cell? ⟨w.heap.size,0,δ⟩=ζ (aB (ζ ⟨G,0,δ⟩)):=(Eu.cell_far ⟨w.heap.size,0,δ⟩ (aD _ _ u1) (fun e=>by have h:W1.heap.size<=w.heap.size:=(mA (aR Tr.1 hal) _ e.symm).1;have:=Hs1.o;omega)).trans u1
        have jc:bE w7 (w.heap.size+1+1+1) #[ov] 28:=(Eu.block _ (Jw.below hal Jw.lt).lt (fun e=>by have:=(mA (aR Tr.1 hal) _ e.symm).1;omega)).trans (Jw.below hal Jw.lt)
        have hKz:=xM (xM (Cb HKf.o hal) Eu (fun r e=>by obtain⟨-,cs,fz,h⟩:=mA (aR Tr.1 hal) r e;exact⟨cs,_,fz,h⟩)) (Ac w7 ⟨w.heap.size+1+1+1,0,δ⟩ (Θ (ζ ⟨g7,0,δ⟩) (aZ.length+1) c7)) (fun r e=>by cases e;exact⟨_,_,_,jc⟩)
        have HLz:=zq hLz
        have HKz:=zq hKz
        have y0:=jc.ce 0
        have y1:=jc.fz 0
        have ly:=jc.lt
        refine hK.o _ _ hA7 (fun iW=>?_)
        clear hK K hLz hKz hb7 rB Eu ai6
        refine pu ?_
        refine eM (rs:=[6]) kF sP ?_
        refine cP rfl (fun K hK=>?_) dH
        go_simp
        show K _ _
        refine hK.o _ _ (VD (by intro e;injection e with e1 e2;omega) hA7) (fun iW=>?_)
        clear hK K
        refine pu ?_
        refine wR kF ?_ _
        refine jH.normal ?_
        have HSm:aQ (eK (fun k=>k=BWv\/k=G) W (w7.setCell ⟨w.heap.size+1+1+1,0,δ⟩ (Θ (ζ ⟨g7,0,δ⟩) (aZ.length+1) c7))):=fun k h=>by
         have hkn:¬(k=w.heap.size+1\/k=w.heap.size+1+1+1):=by have:=aT2.o;have:=HGl.o.1;rcases h with h|h<;>omega
         rw[HLz.o.kept.block k (Tp k h) hkn,hkW.block k (Tp k h) hkn]
        have HLe:aQ (gI W1 (w.heap.size+1) (w.heap.size+1+1+1) (eT (mW I) st ⟨vx,vy,vd⟩).1 ((eT (mW I) st ⟨vx,vy,vd⟩).2.map (fF S xs ys)) (w7.setCell ⟨w.heap.size+1+1+1,0,δ⟩ (Θ (ζ ⟨g7,0,δ⟩) (aZ.length+1) c7))):=by
         rw[aT4.o]
         have:=HLz.o
         rw[lI]at this
         rw[dV]
         exact this
        gi_wp2
        exact⟨HKz.o,HSm.o,VU.o _ HLe.o⟩
       focus
        go_simp
        show K _ _
        have hal:=xU.o.alloc xU.o.size (π #[Θ (ζ ⟨g6,0,δ⟩) (fF S xs ys (jX (eY (mW I)) ⟨vx,vy,vd⟩ j)).length c6] 32)
        have u0:=aY hal o0
        have u1:=aY hal b0
        refine hK.o _ _ u1 (fun iW=>?_)
        clear hK K
        refine pu ?_
        refine eM (rs:=[0]) kF sP ?_
        refine cP rfl (fun K hK=>?_) dH
        go_simp
        show K _ _
        refine hK.o _ _ u1 (fun iW=>?_)
        clear hK K
        refine pu ?_
        refine eM (rs:=[5]) kF sP ?_
        refine cP rfl (fun K hK=>?_) dH
        refine Cc (by rfl) _ _ (by rfl) W1.heap.size ov aZ.length _ (by rfl) (aR Tr.1 hal) w1.heap.size (ζ ⟨g6,0,δ⟩) _ c6 (by rfl) (bE.new w1 _ _) oM (aA xN.size hal.size) ?_
        intro g7 c7 w7 rB Eu ai6
        have hb7:=aR HO6.o (nA w1 (π #[Θ (ζ ⟨g6,0,δ⟩) (fF S xs ys (jX (eY (mW I)) ⟨vx,vy,vd⟩ j)).length c6] 32))
        have hLz:=gI.push (l:=⟨ζ ⟨g6,0,δ⟩,c6,fF S xs ys (jX (eY (mW I)) ⟨vx,vy,vd⟩ j)⟩) Tq VR oM (xN.step hal) (by obtain⟨U,h1,h2⟩:=Zn;exact⟨U,tN h1 hal,h2⟩) (Jw.below hal Jw.lt) (Tr.below hal) hb7 Eu rB
        have hA7:w7.cell? ⟨w.heap.size,0,δ⟩=ζ (aB (ζ ⟨G,0,δ⟩)):=(Eu.cell_far ⟨w.heap.size,0,δ⟩ (aD _ _ u1) (fun e=>by have h:W1.heap.size<=w.heap.size:=(mA (aR Tr.1 hal) _ e.symm).1;have:=Hs1.o;omega)).trans u1
        have jc:bE w7 (w.heap.size+1+1+1) #[ov] 28:=(Eu.block _ (Jw.below hal Jw.lt).lt (fun e=>by have:=(mA (aR Tr.1 hal) _ e.symm).1;omega)).trans (Jw.below hal Jw.lt)
        have hKz:=xM (xM (Cb HKf.o hal) Eu (fun r e=>by obtain⟨-,cs,fz,h⟩:=mA (aR Tr.1 hal) r e;exact⟨cs,_,fz,h⟩)) (Ac w7 ⟨w.heap.size+1+1+1,0,δ⟩ (Θ (ζ ⟨g7,0,δ⟩) (aZ.length+1) c7)) (fun r e=>by cases e;exact⟨_,_,_,jc⟩)
        have HLz:=zq hLz
        have HKz:=zq hKz
        have y0:=jc.ce 0
        have y1:=jc.fz 0
        have ly:=jc.lt
        refine hK.o _ _ hA7 (fun iW=>?_)
        clear hK K hLz hKz hb7 rB Eu ai6
        refine pu ?_
        refine eM (rs:=[6]) kF sP ?_
        refine cP rfl (fun K hK=>?_) dH
        go_simp
        show K _ _
        refine hK.o _ _ (VD (by intro e;injection e with e1 e2;omega) hA7) (fun iW=>?_)
        clear hK K
        refine pu ?_
        refine wR kF ?_ _
        refine jH.normal ?_
        have HSm:aQ (eK (fun k=>k=BWv\/k=G) W (w7.setCell ⟨w.heap.size+1+1+1,0,δ⟩ (Θ (ζ ⟨g7,0,δ⟩) (aZ.length+1) c7))):=fun k h=>by
         have hkn:¬(k=w.heap.size+1\/k=w.heap.size+1+1+1):=by have:=aT2.o;have:=HGl.o.1;rcases h with h|h<;>omega
         rw[HLz.o.kept.block k (Tp k h) hkn,hkW.block k (Tp k h) hkn]
        have HLe:aQ (gI W1 (w.heap.size+1) (w.heap.size+1+1+1) (eT (mW I) st ⟨vx,vy,vd⟩).1 ((eT (mW I) st ⟨vx,vy,vd⟩).2.map (fF S xs ys)) (w7.setCell ⟨w.heap.size+1+1+1,0,δ⟩ (Θ (ζ ⟨g7,0,δ⟩) (aZ.length+1) c7))):=by
         rw[aT4.o]
         have:=HLz.o
         rw[lI]at this
         rw[dV]
         exact this
        gi_wp2
        exact⟨HKz.o,HSm.o,VU.o _ HLe.o⟩
  .have HI2:aQ (gI W1 (w.heap.size+1) (w.heap.size+1+1+1) (eT (mW I) st ⟨vx,vy,vd⟩).1 ((eT (mW I) st ⟨vx,vy,vd⟩).2.map (fF S xs ys)) W):=by
    have e:eT (mW I) st ⟨vx,vy,vd⟩=st:=by
     unfold eT
     rw[ip (.inl (bd7.o.1 rfl))]
    rw[e]
    exact HI.o
   gi_wp2_with fail
   refine⟨trivial,?_⟩
   gi_wp2
   exact⟨KeepsFrom.refl _ _,eK.refl _ _,VU.o _ HI2.o⟩
end
end
section
open Go Go.Lib
def nX(xs:List (List UInt8)):Prop:=xs.Pairwise fun s t=>bZ s<bZ t
def aH(ds:List (List UInt8)):List (List UInt8):=lL (ds.mergeSort leQ).toArray ds.length
theorem VX(l:List (List UInt8))(hs:l.Pairwise fun s t=>bZ s<=bZ t)(hN:∀s∈l,Nm s):∀m,m<=l.length->nX (lL l.toArray m)/\∀z,z∈lL l.toArray m↔z∈l.take m:=by
 intro m;induction m with
 |zero=>intro _;exact⟨by simp[lL,nX],by simp[lL]⟩
 |succ m ih=>
  intro hm;obtain⟨h1,h2⟩:=ih oM;have hlt:m<l.length:=oM;have e0:l.toArray[m]! =l[m]:=by simp[hlt]
  have et:l.take (m+1)=l.take m++[l[m]]:=bM hlt;rw[compactUpTo_succ,et,e0];by_cases hz:m=0
  .subst hz;rw[keeps_lt_one _ 0 dD,ip rfl];simp[lL,nX]
  .have e1:l.toArray[m-1]! =l[m-1]:=by simp[show m-1<l.length by omega]
   have mG:l[m-1]∈l.take m:=List.mem_take_iff_getElem.2 ⟨m-1,oM,rfl⟩;by_cases he:l[m]=l[m-1]
   .rw[keeps_neg oM (by rw[e0,e1];exact he),iN dD,kQ];refine⟨h1,fun z=>?_⟩;rw[h2 z,iV,dE];constructor
    .exact .inl
    .rintro(h|h)
     .exact h
     .rw[h,he];exact mG
   .rw[keeps_pos (by rw[e0,e1];exact he),ip rfl];refine⟨?_,fun z=>by rw[iV,iV,h2 z]⟩;unfold nX;rw[List.pairwise_append];refine⟨h1,List.pairwise_singleton ..,fun s h3 t h4=>?_⟩;rw[dE]at h4;rw[h4];obtain⟨i,hi,rfl⟩:=List.mem_take_iff_getElem.1 ((h2 s).1 h3);rw[Cz]at hs;have k1:bZ l[m-1]<=bZ l[m]:=hs (m-1) m oM hlt oM;have k2:bZ l[m-1]≠bZ l[m]:=fun e=>he ((hN _ (fJ _)).inj (hN _ (fJ _)) e.symm);have k3:bZ l[i]<=bZ l[m-1]:=by
     by_cases hi2:i=m-1
     .subst hi2;grind
     .exact hs i (m-1) oM oM oM
    grind
theorem ts(a b c):leQ a b=ι->leQ b c=ι->leQ a c=ι:=by
 unfold leQ;rw[decide_eq_true_eq,decide_eq_true_eq,decide_eq_true_eq];intro h1 h2;grind
theorem tu(a b):(leQ a b||leQ b a)=ι:=by
 unfold leQ;rw[jZ,decide_eq_true_eq,decide_eq_true_eq];grind
theorem gR{ds:List (List UInt8)}(hN:∀s∈ds,Nm s):nX (aH ds)/\(∀z,z∈aH ds↔z∈ds):=by
 have h:=VX (ds.mergeSort leQ) ((List.pairwise_mergeSort ts tu ds).imp fun h=>by unfold leQ at h;exact of_decide_eq_true h) (fun s hs=>hN s (List.mem_mergeSort.1 hs)) ds.length (by rw[xG];exact θ _);refine⟨h.1,fun z=>?_⟩;unfold aH;rw[h.2 z,eA (by rw[xG];exact θ _),List.mem_mergeSort]
theorem C4(ds):(aH ds).length<=ds.length:=by
 unfold aH lL;rw[υ];refine aA (xF ..) ?_;rw[jQ];exact θ _
def oK(xs:List (List UInt8))(t:List UInt8):Nat:=xs.idxOf t
section
variable{xs:List (List UInt8)}{s t:List UInt8}
theorem vV(h:t∈xs):oK xs t<xs.length:=List.idxOf_lt_length_of_mem h
theorem pB(h:t∈xs):xs.getD (oK xs t) []=t:=by
 rw[Ω,aS (vV h),bK];exact List.getElem_idxOf (vV h)
theorem GZ(ha:nX xs)(hj:j<xs.length)(Le:i<j):bZ (xs.getD i [])<bZ (xs.getD j []):=by
 unfold nX at ha;rw[Cz]at ha;have:=ha i j oM hj Le;simpa[Ω,hj,show i<xs.length by omega]using this
theorem Fw(ha:nX xs)(hi:i<xs.length):oK xs (xs.getD i [])=i:=by
 have hm:xs.getD i []∈xs:=by
  rw[Ω,aS hi,bK];exact fJ _
 have h1:=vV hm;have h2:=pB hm;rcases Nat.lt_trichotomy (oK xs (xs.getD i [])) i with h|h|h
 .have:=GZ ha hi h;rw[h2]at this;grind
 .exact h
 .have:=GZ ha h1 h;rw[h2]at this;grind
theorem uZ(ha:nX xs)(hs:s∈xs)(ht:t∈xs):oK xs s<oK xs t↔bZ s<bZ t:=by
 constructor
 .intro h;have:=GZ ha (vV ht) h;rwa[pB hs,pB ht]at this
 .intro h;rcases fO (oK xs s) (oK xs t)with h1|h1
  .exact h1
  .exfalso;rcases fO (oK xs t) (oK xs s)with h2|h2
   .have:=GZ ha (vV hs) h2;rw[pB hs,pB ht]at this;grind
   .have e:oK xs s=oK xs t:=oM;have k1:=pB hs;rw[e,pB ht]at k1;rw[k1]at h;grind
theorem ai7(ha:nX xs)(hN:∀s∈xs,Nm s)(ht:t∈xs):(∀i,i<oK xs t->(fQ (xs.getD i []) t).1<0)/\(∀i,oK xs t<=i->i<xs.length->0<=(fQ (xs.getD i []) t).1)/\(fQ (xs.getD (oK xs t) []) t).1=0:=by
 have gm:∀i,i<xs.length->Nm (xs.getD i []):=fun i hi=>hN _ (by rw[Ω,aS hi,bK];exact fJ _);have hl:=vV ht;refine⟨fun i hi=>?_,fun i h1 h2=>?_,?_⟩
 .rw[(gm i oM).lt (hN _ ht)];have:=GZ ha hl hi;rwa[pB ht]at this
 .rw[<-Int.not_lt,(gm i h2).lt (hN _ ht)];rcases fO (oK xs t) i with h|h
  .have:=GZ ha h2 h;rw[pB ht]at this;grind
  .obtain rfl:i=oK xs t:=oM;rw[pB ht];grind
 .rw[pB ht,(hN _ ht).cmp (hN _ ht)];show mT _ _=0;unfold mT;rw[iN (by grind),iN (by grind)]
end
def eP(fs:List Fr)(at':List (List UInt8))(xs ys:List (List UInt8))(p:Pt):Sg:=
 if(fs.getD p.side.toNat Γ).up=ι then⟨p.side,ι,oK xs (at'.getD p.side.toNat []),oK ys p.fr,oK ys p.en⟩
 else⟨p.side,ν,oK ys (at'.getD p.side.toNat []),oK xs p.fr,oK xs p.en⟩
structure pV(fs:List Fr)(at':List (List UInt8))(xs ys:List (List UInt8))(p:Pt):Prop where
 side:∃s:Nat,p.side=s/\s<fs.length
 x:(bA fs at' p).x∈xs
 y:(bA fs at' p).y∈ys
 en:p.en∈if(fs.getD p.side.toNat Γ).up=ι then ys else xs
 dir:(fs.getD p.side.toNat Γ).dir=1\/(fs.getD p.side.toNat Γ).dir= -1
 adv:0<=uA fs p
def Ev(f:Fr):Bool:=if f.up=ι then decide (0<f.dir)else !decide (0<f.dir)
theorem NP(f):qJ f=(Er f.up (Ev f):Nat):=by
 unfold qJ Er Ev;by_cases hd:0<f.dir<;>cases f.up<;>simp[hd]
theorem NQ{f:Fr}(h:f.dir=1\/f.dir= -1):GP f=if Ev f=ι then -1 else 1:=by
 unfold GP Ev;cases f.up<;>rcases h with e|e<;>rw[e]<;>decide
def ZE(s:Sg)(back:Bool):Nat:=if back=ι then(s.a-s.b).toNat else(s.b-s.a).toNat
theorem aT5{back:Bool}(h:if back=ι then s.b<=s.a else s.a<=s.b):s=wK s.side s.up s.line s.a back (ZE s back)/\s.b=iY s.a back (ZE s back):=by
 obtain⟨sd,up,l,a,b⟩:=s;have e:b=iY a back (ZE ⟨sd,up,l,a,b⟩ back):=by
  cases back<;>simp only[iY,ZE,aK,if_true,if_false]at h|-<;>omega
 refine⟨?_,e⟩;unfold wK;show Sg.mk sd up l a b=Sg.mk sd up l a (iY a back (ZE ⟨sd,up,l,a,b⟩ back));rw[<-e]
theorem Ew{xs:List (List UInt8)}{p:Pt}(hx:nX xs)(hy:nX ys)(Ts:∀s∈xs,Nm s)(VY:∀s∈ys,Nm s)(h:pV fs at' xs ys p):
 if Ev (fs.getD p.side.toNat Γ)=ι then(eP fs at' xs ys p).b<=(eP fs at' xs ys p).a else(eP fs at' xs ys p).a<=(eP fs at' xs ys p).b:=by
 obtain⟨-,h1,h2,h3,h4,h5⟩:=h;unfold uA at h5;rw[NQ h4]at h5;unfold bA at h1 h2;unfold eP;generalize fs.getD p.side.toNat Γ=f at *;have key:∀{zs:List (List UInt8)},nX zs->(∀s∈zs,Nm s)->p.en∈zs->p.fr∈zs->if Ev f=ι then(oK zs p.en:Int)<=oK zs p.fr else(oK zs p.fr:Int)<=oK zs p.en:=by
  intro zs ha hN he hf;by_cases hb:Ev f=ι
  .rw[ip hb]at h5|-;have:¬oK zs p.fr<oK zs p.en:=by
    rw[uZ ha hf he];intro hlt;have h6:(fQ p.en p.fr).1=1:=by
     rw[(hN _ he).cmp (hN _ hf)];show mT _ _=1;unfold mT;rw[iN (by grind),ip (by grind)]
    rw[h6]at h5;omega
   omega
  .rw[iN hb]at h5|-;have:¬oK zs p.en<oK zs p.fr:=by
    rw[uZ ha he hf];intro hlt;have:=((hN _ he).lt (hN _ hf)).2 hlt;omega
   omega
 by_cases hu:f.up=ι
 .simp only[ip hu]at h1 h2 h3|-;exact key hy VY h3 h2
 .simp only[iN hu]at h1 h2 h3|-;exact key hx Ts h3 h1
end
section
open Go Go.RowKit
section
variable{P:cQ}{cF:Array eZ}{Q:sG->iS->η->Prop}{md:gD}
def Av(md:gD)(cF:Array eZ)(L:Array Bool):Prop:=
 ∀j o,cF[j]? =ζ o->L.getD j ν=ι->∀e∈o.after,pH md e=ι->L.getD e.on ν=ι
theorem Av.set(h:Av md cF L)(hj:j∈cG md cF L):Av md cF (L.setIfInBounds j ι):=by
 intro k o hk hL e he hb;obtain⟨-,oj,Pa,hall⟩:=mem_ready.1 hj;by_cases hjk:j=k
 .subst hjk;rw[Pa]at hk;cases hk;exact D5 (hall e he hb)
 .rw[qQ ν hjk]at hL;exact D5 (h k o hk hL e he hb)
theorem Av.none(n):Av md cF (gA n ν):=by
 intro j o _ h;exfalso;by_cases hj:j<n<;>simp[hj]at h
theorem NR(h:L.getD i ι=ν):L.getD i ν=ν:=by
 by_cases hlt:i<L.size
 .simp[hlt]at h|-;exact h
 .simp[Du (Nat.le_of_not_lt hlt)]at h
def aN0(md:gD)(cF:Array eZ)(j k:Nat):Bool:=match cF[j]? with
 |some o=>o.after.any (fun e=>pH md e&&e.on==k)
 |none=>ν
theorem Av.up(h:Av md cF L)(hw:aN0 md cF j k=ι)(hk:L.getD k ν=ν):L.getD j ν=ν:=by
 unfold aN0 at hw;cases ho:cF[j]? with
 |none=>rw[ho]at hw;cases hw
 |some o=>
  rw[ho]at hw;simp only[Array.any_eq_true']at hw;obtain⟨e,he,hb⟩:=hw;rw[aI,beq_iff_eq]at hb;cases hj:L.getD j ν with
  |false=>rfl
  |true=>
   have:=h j o ho hj e he hb.1;rw[hb.2,hk]at this;cases this
def pC(P:cQ)(md:gD)(cF:Array eZ)(Q:sG->iS->η->Prop)(st:Array Bool->Bool)(S:η->Prop):Nat->Array Bool->iS->η->Prop
 |0,L,a,w=>cG md cF L=[]/\Q .normal a w
 |fuel+1,L,a,w=>(cG md cF L=[]->Q .normal a w)/\
  ∀i∈cG md cF L,wpOp P cF Q i (fun a' w'=>(st (L.setIfInBounds i ι)=ν->S w')/\pC P md cF Q st S fuel (L.setIfInBounds i ι) a' w') a w
variable{st:Array Bool->Bool}{S:η->Prop}
theorem NT:∀(fuel:Nat)(L:Array Bool)(a:iS)(w:η),pC P md cF Q st S fuel L a w->wpAny P md cF Q fuel L a w
 |0,_,_,_,h=>h
 |fuel+1,_,_,_,h=>⟨h.1,fun i hi=>wpOp_mono (fun a' w' h'=>NT fuel _ a' w' h'.2) (h.2 i hi)⟩
theorem Tt{v:χ}(hi:cF[i]? =ζ oi)(ZF:∀(j:Nat)(o:eZ)cs b,cF[j]? =ζ o->o.op≠.select cs b)(hQ:∀c a w,Q (.panic c) (a.put oi.dst v) w->Q (.panic c) a w){S':η->Prop}(yX:∀L w,Av md cF L->L.getD i ν=ν->(st L=ν->S w)->S' w)(Tu:∀L,st (L.setIfInBounds i ι)=st L):
 ∀(fuel:Nat)(L:Array Bool)(a:iS)(w:η),Av md cF L->
  (∀j oj,cF[j]? =ζ oj->j≠i->L.getD j ι=ν->(∀e∈oj.after,pH md e=ι->e.on≠i)->oi.apart cF oj=ι)->
  i∈cG md cF L->YieldsIf P cF S' oi v a->(st L=ν->S w)->
  pC P md cF Q st S fuel (L.setIfInBounds i ι) (a.put oi.dst v) w->pC P md cF Q st S (fuel+1) L a w:=by
 intro fuel;induction fuel with
 |zero=>
  intro L a w hL0 _ hr hy hS H;refine⟨fun h=>(by rw[h]at hr;cases hr),fun j hj=>?_⟩;by_cases hji:j=i
  .subst hji;exact hy.wpOp hi (yX L w hL0 (NR (mem_ready.1 hr).1) hS) ⟨fun h=>hS (by rw[<-Tu];exact h),H⟩
  .have:=oY hj hji;rw[H.1]at this;cases this
 |succ fuel ih=>
  intro L a w hL Cd hr hy hS H;refine⟨fun h=>(by rw[h]at hr;cases hr),fun j hj=>?_⟩;by_cases hji:j=i
  .subst hji;exact hy.wpOp hi (yX L w hL (NR (mem_ready.1 hr).1) hS) ⟨fun h=>hS (by rw[<-Tu];exact h),H⟩
  .have h1:=H.2 j (oY hj hji);obtain⟨G1,oj,Pa,hall⟩:=mem_ready.1 hj;have bp1:=(mem_ready.1 hr).1;have aN1:L.getD i ν=ν:=NR bp1;have VV:∀e∈oj.after,pH md e=ι->e.on≠i:=fun e he hb heq=>by
    have:=hall e he hb;rw[heq,aN1]at this;cases this
   have h2:=wpOp_putIf Pa (Cd j oj Pa hji G1 VV) (fun cs b=>ZF i oi cs b hi) (fun cs b=>ZF j oj cs b Pa) hQ hy h1;have hL':=hL.set hj;have bt2:(L.setIfInBounds j ι).getD i ν=ν:=by rw[qQ ν hji];exact aN1
   have aT6:∀k ok,cF[k]? =ζ ok->k≠i->(L.setIfInBounds j ι).getD k ι=ν->
    (∀e∈ok.after,pH md e=ι->e.on≠i)->oi.apart cF ok=ι:=fun k ok hk hki hun Q8=>by
    refine Cd k ok hk hki ?_ Q8;by_cases hjk:j=k
    .subst hjk;exact G1
    .rw[qQ ι hjk]at hun;exact hun
   refine wpOp_mono (fun a' w' h3=>?_) h2;have hc:(L.setIfInBounds i ι).setIfInBounds j ι=(L.setIfInBounds j ι).setIfInBounds i ι:=Array.setIfInBounds_comm _ _ (Ne.symm hji);have hS':st (L.setIfInBounds j ι)=ν->S w':=fun h=>h3.2.1 (by rw[hc,Tu];exact h);refine⟨hS',ih _ a' w' hL' aT6 (oY hr (Ne.symm hji)) h3.1 hS' ?_⟩;rw[<-hc];exact h3.2.2
theorem AN{v:χ}(hi:cF[i]? =ζ oi)(hs:lE cF=ι)(hf:nH md cF L i=ι)(hr:(cG md cF L).contains i=ι)(hQ:∀c a w,Q (.panic c) (a.put oi.dst v) w->Q (.panic c) a w){S':η->Prop}(yX:∀L w,Av md cF L->L.getD i ν=ν->(st L=ν->S w)->S' w)(Tu:∀L,st (L.setIfInBounds i ι)=st L)(hL:Av md cF L)(hy:YieldsIf P cF S' oi v a)(hS:st L=ν->S w)(h:Av md cF (L.setIfInBounds i ι)->pC P md cF Q st S fuel (L.setIfInBounds i ι) (a.put oi.dst v) w):pC P md cF Q st S (fuel+1) L a w:=
 Tt hi (Region.noSelect_spec hs) hQ yX Tu fuel L a w hL (Region.free_spec hi hf) (by simpa using hr) hy hS (h (hL.set (by simpa using hr)))
theorem tT(i){oi:Oper}{v:Value}{a:Act}{w:World}(hi:cF[i]? =some oi)(hL:Av md cF L)(h:Av md cF (L.setIfInBounds i true)->pC P md cF Q st S fuel (L.setIfInBounds i true) (a.put oi.dst v) w)(hS:st L=false->S w)(hs:Region.noSelect cF=true:=by kernel_rfl)(hf:Region.free md cF L i=true:=by kernel_rfl)(hr:(Region.ready md cF L).contains i=true:=by kernel_rfl)(hQ:∀c a w,Q (.panic c) (a.put oi.dst v) w->Q (.panic c) a w:=by exact fun _ _ _ h=>h)(Tu:∀L,st (L.setIfInBounds i true)=st L:=by exact fun _=>getD_set_ne false dD)(hw:Region.wanted oi (yielded cF a.tmps)=true:=by kernel_rfl)(hy:∀w,(execOp a.eval oi).run P w=.ok (.value v) w:=by(intro w;go_simp;(first |done|with_reducible rfl))):pC P md cF Q st S (fuel+1) L a w:=
 AN hi hs hf hr hQ (S':=fun _=>True) (fun _ _ _ _ _=>trivial) Tu hL (.inl ⟨hw,fun w _=>hy w⟩) hS h
theorem tU(i){oi:Oper}{v:Value}{a:Act}{w:World}(hi:cF[i]? =some oi)(hL:Av md cF L)(yX:∀L w,Av md cF L->L.getD i false=false->(st L=false->S w)->S w)(h:Av md cF (L.setIfInBounds i true)->pC P md cF Q st S fuel (L.setIfInBounds i true) (a.put oi.dst v) w)(hS:st L=false->S w)(hs:Region.noSelect cF=true:=by kernel_rfl)(hf:Region.free md cF L i=true:=by kernel_rfl)(hr:(Region.ready md cF L).contains i=true:=by kernel_rfl)(hQ:∀c a w,Q (.panic c) (a.put oi.dst v) w->Q (.panic c) a w:=by exact fun _ _ _ h=>h)(Tu:∀L,st (L.setIfInBounds i true)=st L:=by exact fun _=>getD_set_ne false dD)(hw:Region.wanted oi (yielded cF a.tmps)=true:=by kernel_rfl)(hy:∀w,S w->(execOp a.eval oi).run P w=.ok (.value v) w:=by(intro w hSw;(try dsimp only at hSw);go_simp;(first |done|with_reducible rfl))):pC P md cF Q st S (fuel+1) L a w:=
 AN hi hs hf hr hQ yX Tu hL (.inl ⟨hw,hy⟩) hS h
theorem ZG(hr:cG md cF L=rs)(hne:rs≠[])(h:∀i∈rs,wpOp P cF Q i (fun a' w'=>(st (L.setIfInBounds i ι)=ν->S w')/\pC P md cF Q st S fuel (L.setIfInBounds i ι) a' w') a w):pC P md cF Q st S (fuel+1) L a w:=
 ⟨fun h0=>absurd (hr▸h0) hne,hr▸h⟩
theorem VZ(hr:cG md cF L=[])(h:Q .normal a w):∀fuel,pC P md cF Q st S fuel L a w
 |0=>⟨hr,h⟩
 |_+1=>⟨fun _=>h,by rw[hr];simp⟩
def uC(P:cQ)(md:gD)(cF:Array eZ)(Q:sG->iS->η->Prop)(st:Array Bool->Bool)(S:η->Prop)(fuel:Nat)(L:Array Bool)(a:iS)(w:η)(rs:List Nat):Prop:=
 ∀i∈rs,Av md cF (L.setIfInBounds i ι)->wpOp P cF Q i (fun a' w'=>(st (L.setIfInBounds i ι)=ν->S w')/\pC P md cF Q st S fuel (L.setIfInBounds i ι) a' w') a w
theorem uC.nil:uC P md cF Q st S fuel L a w []:=fun _ h=>by cases h
theorem uC.cons{o:eZ}(ho:cF[i]? =ζ o)(h:Av md cF (L.setIfInBounds i ι)->∀K':iS->η->Prop,aQ (∀a w,(st (L.setIfInBounds i ι)=ν->S w)->pC P md cF Q st S fuel (L.setIfInBounds i ι) a w->K' a w)->if dU o (rP cF a.tmps)=ι then OQ P o a w K' Q else K' (a.put o.dst ψ) w)(hs:uC P md cF Q st S fuel L a w rs):uC P md cF Q st S fuel L a w (i::rs):=fun j hj hL=>by
 rcases List.mem_cons.1 hj with rfl|hj
 .unfold wpOp
  simp only[ho]
  have:=h hL (fun a' w'=>(st (L.setIfInBounds j ι)=ν->S w')/\pC P md cF Q st S fuel (L.setIfInBounds j ι) a' w') (fun a w h1 h2=>⟨h1,h2⟩)
  split
  .rename_i hw;rw[ip hw]at this;exact .inl this
  .rename_i hw;rw[iN hw]at this;exact this
 .exact hs j hj hL
theorem jD(hr:cG md cF L=rs)(hne:rs≠[])(hL:Av md cF L)(h:uC P md cF Q st S fuel L a w rs):pC P md cF Q st S (fuel+1) L a w:=ZG hr hne fun i hi=>h i hi (hL.set (by rw[hr];exact hi))
theorem V0(hm:P.follows .mixedOrders=ι)(h:pC P .any cF Q st S cF.size (gA cF.size ν) a {w with drawn:=w.drawn+1}):(pS id cF ι).wp P Q a w:=
 wp_region_any hm (NT _ _ _ _ h)
theorem Ko(hm:P.follows .mixedOrders=ι)(hS:S w.drew)(h:Av .any cF (gA cF.size ν)->S w.drew->pC P .any cF Q st S cF.size (gA cF.size ν) a w.drew):(pS id cF ι).wp P Q a w:=
 V0 hm (h (Av.none _) hS)
end
end
section
open Go Go.RowKit Go.Lib
theorem iL{b n:Nat}{v:χ}(hb:bE W b cs T)(h:W.ownsRow cH e size v n xs)(hne:T≠e):ζ b≠v.ownBlock:=by
 rcases h.2 with⟨h,_⟩|⟨g,c,pZ,h,_,k,_⟩
 .rw[h];simp[iQ]
 .rw[h];intro e;have e:b=g:=by simpa[iQ]using e
  subst e;have Ju:W.heap[b]? =ζ (π cs T (0,0)):=hb;rw[Ju]at k;cases k;exact hne rfl
theorem kT{b:Nat}(h:bE W b cs T)(hg:W.grownBy W' row)(hne:ζ b≠row):bE W' b cs T:=(hg.block b h.lt hne).trans h
theorem Kq(W:η)(a:bW)(u:χ):W.grownBy (W.setCell a u) (ζ a.block):=
 ⟨rfl,rfl,rfl,sP,fun k _ hk=>dG W a k u (fun e=>hk (by rw[e]))⟩
theorem Ad{b:Nat}(h:bE W b cs T)(k:bE W c ds U)(hne:T≠U):b≠c:=by
 intro e;subst e;have h':W.heap[b]? =ζ (π cs T (0,0)):=h;have k':W.heap[b]? =ζ (π ds U (0,0)):=k;rw[h']at k';cases k';exact hne rfl
theorem kU{n:Nat}{v:χ}(h:W.ownsRow cH e size v n xs):∃a c,v=Θ a n c:=by
 rcases h.2 with⟨h,h0⟩|⟨g,c,pZ,h,_⟩
 .exact⟨δ,0,by rw[h,h0]⟩
 .exact⟨_,_,h⟩
theorem Ce{o:eZ}{K:iS->η->Prop}{Q:sG->iS->η->Prop}{E:Prop}(Io:o.guard=δ)(s x)(ho:o.op=.call {callee:=.builtin .append,args:=#[s,x],argTypes:=#[68,68]})(B v n xs)(hs:a.eval s=v)(cT:w.ownsRow B 29 1 v n xs)(nb u)(hx:a.eval x=Θ (ζ ⟨nb,0,δ⟩) 1 1)(hnb:bE w nb #[Δ u] 29)(OZ:n+1<=100000)(kH:B<=w.heap.size)(h:∀g cap w',w'.ownsRow B 29 1 (Θ (ζ ⟨g,0,δ⟩) (n+1) cap) (n+1) (xs++[Δ u])->w.grownBy w' v.ownBlock->(v.ownBlock=ζ g\/g=w.heap.size)->K (a.put o.dst (Θ (ζ ⟨g,0,δ⟩) (n+1) cap)) w'):
 if dU o (rP cF a.tmps)=ι then OQ γ o a w K Q else E:=by
 obtain⟨i0,hi,Ak,yP,uT⟩:=jJ Eg;exact step_append_lies w Io s x 68 ho B 29 i0 (Δ ⟨#[]⟩) 1 16 jL hi Ak yP uT rfl dD v n xs hs cT ⟨nb,0,δ⟩ 1 1 [Δ u] hx rfl (dr hnb) (by simp[iP]) dD (by unfold yE;omega) oM kH _ rfl
  fun g cap w' h1 h2 h3 _=>h g cap w' h1 h2 h3
end
end Go.Proofs.YtncclggcfgnhpaaGreatDoor
