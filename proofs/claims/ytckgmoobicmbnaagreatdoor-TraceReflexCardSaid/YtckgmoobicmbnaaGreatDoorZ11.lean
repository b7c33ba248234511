import Derived.OwnWalkIn
import Derived.Deep.MidRow
import Derived.KernelRfl
import Derived.Deep.QuietTactic
import Derived.StillTail
import Derived.Maps.AppendAt
import Derived.Sort.CutIn
import Derived.Test.YtckgmoobicmbnaaGreatDoorZ0
import Derived.Test.YtckgmoobicmbnaaGreatDoorZ1
import Derived.Test.YtckgmoobicmbnaaGreatDoorZ10
namespace Go.Proofs.YtckgmoobicmbnaaGreatDoor
set_option maxRecDepth 100000
set_option maxHeartbeats 8000000
set_option linter.all false
open Go.Proofs.Tryz
open _root_.Array renaming replicate_succ->bR,replicate_zero->bS,replicate->fY,setIfInBounds_comm->mT,toArray_toList->D5,getElem?_setIfInBounds_ne->Jn,getD_eq_getD_getElem?->MS,getElem?_eq_getElem->NP,getElem?_eq_none->RH,getElem_mem->ja
open _root_.Bool renaming and_eq_true->bK,or_eq_false_iff->dO,or_eq_true->fJ,not_eq_true'->iH,true_and->kN,false_and->mH,false_or->oP
open _root_.Go renaming World->aF,undef->aP,Value->aS,Calls->aW,bodyPost_ret->cI,Addr->cT,Program->dP,wpAnyIn_done->eM,TypeId->eC,run_takeDeferred->fH,getD_set_ne->eZ,results->gR,Oper->gL,results_tmp->iB,Act->kZ,heap_setCell_other->nY,ownFrom_below->oA,OwnFrom->rK,Operand->qV,ready_mono->qY,execOp->vT,wpAnyIn->vO,yielded->wC,getD_replicate_false->xY,Exit->yK,Fence->Kh,HeadInv->Ew,getD_both->Jo,wpIn_mono->Pa,getD_set_true->RK,wpListIn_plain->Vt,execOp_put->Vu,run_loadAt_mid->Vv,LeavesInM->iy
open Go.Act renaming put->dK,put_comm->JL
open Go.AllReadyIn renaming nil->aT
open Go.Code renaming region->oF
open Go.Ending renaming returned->aQ
open Go.Fence renaming wide->dG
open Go.IntKind renaming i64->aE
open Go.IntWalk renaming i64_in->aX
open Go.KeepsOthers renaming setCell->cG
open Go.Lib renaming contains->BO
open Go.Obj renaming cells->aJ
open Go.Oper renaming semAt_some->dW,semAt_plain->lL,wpIn->rL,about->H9,quietAt->Ce,wp->ir
open Go.OwnFrom renaming and->cU
open Go.Proofs.Tryz renaming prog->aC,results118->MU,results123->MV
open Go.Region renaming ready->cV,wanted->eT,Mode->gU,binds->pR,noSelect->rE,free->rW,free_spec->Jl,noSelect_spec->U7
open Go.Result renaming andThen_ok->oH
open Go.RowKit renaming intOf->aK,Hid->bH
open Go.RowKit.Below renaming refl->aH
open Go.Sem renaming run_pure->vP,run_bind->wD
open Go.Value renaming slice->aB,int->aD,bool->aN,pointer->bA,agg->cN,oneCell'->nO
open Go.World renaming block_lt_of_cell?->bG
open _root_.List renaming getElem?_cons_zero->aI,getElem?_toArray->aL,setIfInBounds_toArray->aM,getD_eq_getElem?_getD->aO,set_cons_zero->aV,set_cons_succ->bC,length_cons->bF,getElem?_cons_succ->bM,append_toArray->bU,size_toArray->bW,length_nil->bY,cons_append->bZ,push_toArray->cD,nil_append->cL,getElem?_eq_getElem->eO,range->vN,flatMap_cons->ml
open _root_.List.Pairwise renaming nil->jc
open _root_.Nat renaming le_refl->aG,le_trans->bE,lt_of_lt_of_le->bL,zero_le->bN,reduceAdd->cW,reduceSub->cX,zero_add->dZ,mod_eq_of_lt->fE,zero_mul->oC,le_of_eq->Aa,le_succ->Pi
open _root_.Trans renaming trans->cB
section
open Go Go.RowKit
def TS(c:Array aS):Nat→List aS→Array aS
 |_,[]=>c
 |o,v::r=>TS (c.setIfInBounds o v) (o+1) r
theorem TT:∀(vs:List aS)(c:Array aS)(o j:Nat),o+vs.length≤c.size→(TS c o vs)[j]? =if o≤j∧j<o+vs.length then vs[j-o]? else c[j]?
 |[],c,o,j,_=>by rw[TS,iN (fun h=>by simp only[bY]at h;omega)]
 |v::r,c,o,j,h=>by
  simp only[bF]at h
  rw[TS,TT r _ (o+1) j (by rw[Array.size_setIfInBounds];omega)]
  by_cases h1:o+1≤j∧j<o+1+r.length
  ·rw[ip h1,ip (by simp only[bF];omega),show j-o=(j-(o+1))+1 by omega,bM]
  ·rw[iN h1]
   by_cases h2:j=o
   ·subst h2
    rw[ip (by simp only[bF];omega),Nat.sub_self,aI,Array.getElem?_setIfInBounds_self_of_lt (by omega)]
   ·rw[iN (by simp only[bF];omega),Jn (by omega)]
theorem GK(c:Array aS)(vs:List aS)(h:c.size=vs.length):TS c 0 vs=vs.toArray:=by
 apply Array.ext_getElem?;intro j;rw[TT vs c 0 j (by omega)];by_cases h1:j<vs.length
 ·rw[ip (by omega)];simp
 ·rw[iN (by omega),RH (by omega),RH (by simp;omega)]
theorem xP(w:aF)(T:eC):∀(vs:List aS)(c:Array aS)(o:Nat),(w.alloc (aJ c T)).setCells w.heap.size o vs=w.alloc (aJ (TS c o vs) T)
 |[],_,_=>rfl
 |v::r,c,o=>by rw[World.setCells,World.setCell_alloc_new,xP w T r,TS]
theorem uN{F:Kh}{m:Nat}{P:dP}{id:Nat}{T:eC}{d s:Tmp}{o1 o2:gL}{a:kZ}{W:aF}{Q:yK→kZ→aF→Prop}(z cs:Array aS)(hs:a.tmps.getD s aP=cN cs)
 (h:Q .normal (a.put (some d) (bA (some ⟨W.heap.size,0,none⟩))) (W.alloc (aJ cs T)))
 (e1:o1.op=.alloc T:=by rfl)(g1:o1.guard=none:=by rfl)(d1:o1.dst=some d:=by rfl)(e2:o2.op=.store T (.tmp d) (.tmp s):=by rfl)(g2:o2.guard=none:=by rfl)(d2:o2.dst=none:=by rfl)
 (jC:d≠s:=by decide)(hd:d<a.tmps.size:=by simp)(hi:(P.info? T).map (·.size)=some cs.size:=by kernel_rfl)(hzs:z.size=cs.size:=by rfl)(h1:cs.all (·.oneCell')=true:=by simp[nO])
 (hr:∀(ev:qV→aS)(w:aF),(vT ev o1).run P w=.ok (.value (bA (some ⟨w.heap.size,0,none⟩))) (w.alloc (aJ z T)):=by(intro ev w;go_simp)):
 (oF id #[o1,o2] false).wpIn F m P Q a W:=by
 refine wpIn_region_lit (l:=[o1,o2]) (Vt g1 fun K hK=>?_);refine⟨fun f hf=>?_,?_⟩
 ·unfold H9 at hf;rw[e1]at hf;cases hf
 ·rw[lL F _ _ (fun c=>by rw[e1];exact fun h=>by cases h),hr];show K (a.put o1.dst _) _;rw[d1];refine hK _ _ (Vt g2 fun K' hK'=>?_);refine⟨fun f hf=>?_,?_⟩
  ·unfold H9 at hf;rw[e2]at hf;cases hf
  ·have q:=bT.new W z T;have e:=run_storeAt_mid (P:=P) (W.alloc (aJ z T)) W.heap.size 0 T cs (fun j hj=>⟨by rw[dZ,q.cell];simp[hzs,hj],by rw[dZ];exact q.fz j⟩) hi h1;rw[xP,GK z _ (by rw[hzs];simp)]at e;have x1:(a.put (some d) (bA (some ⟨W.heap.size,0,none⟩))).eval (.tmp d)=bA (some ⟨W.heap.size,0,none⟩):=by
    simp[Act.eval,dK,hd]
   have x2:(a.put (some d) (bA (some ⟨W.heap.size,0,none⟩))).eval (.tmp s)=cN cs:=by
    have:(a.tmps.setIfInBounds d (bA (some ⟨W.heap.size,0,none⟩))).getD s aP=a.tmps.getD s aP:=by
     simp[MS,Jn jC]
    simp only[Act.eval,dK];rw[this,hs]
   rw[lL F _ _ (fun c=>by rw[e2];exact fun h=>by cases h)];unfold vT;simp only[e2,x1,x2,wD,e,oH,vP];show K' (dK _ o2.dst aP) _;rw[d2];exact hK' _ _ (by rw[D5];exact h)
inductive Wy3 where
 |quiet|store|made
 |alloc(z:Array aS)(T:eC)
abbrev Gm:=Nat→Option (Array aS×eC)
variable{P:dP}{cR:Array gL}{md:gU}{C:aF→Prop}{n:Nat}{A:Nat→Wy3}{b0:Nat}{G:Gm}{Q:yK→kZ→aF→Prop}{m:Nat}
theorem qAtI{o:gL}{a:kZ}{D:aF→Prop}{w:aF}{v:aS}(h:Oper.quietUpon P D w v ((vT a.eval o).run P w)):o.quietAt P a D w v:=h
theorem Qo{o:gL}{a:kZ}{C C':aF→Prop}{w:aF}{v:aS}(h:∀w2,C w2→C' w2)(k:o.quietAt P a C w v):o.quietAt P a C' w v:=by
 unfold Ce Oper.quietUpon at *;split at k
 ·exact k
 ·exact k
 ·exact⟨k.1,k.2.mono fun e w2⟨h1,h2⟩=>⟨h1,h _ h2⟩⟩
 ·exact k
def YR(P:dP)(cR:Array gL)(C:aF→Prop)(o:gL)(v:aS)(a:kZ):Prop:=
 (eT o (wC cR a.tmps)=true∧∀w,C w→o.quietAt P a (fun w2=>Below w.heap.size w w2) w v)∨(eT o (wC cR a.tmps)=false∧v=aP)
theorem YR.same{o:gL}{v:aS}{a a':kZ}(hy:YR P cR C o v a)(he:vT a'.eval o=vT a.eval o)(hw:eT o (wC cR a'.tmps)=eT o (wC cR a.tmps)):YR P cR C o v a':=by
 unfold YR Ce at *;rw[he,hw];exact hy
def AR(P:dP)(o:gL)(z:Array aS)(T:eC):Prop:=(∀y,eT o y=true)∧∀a w,(vT a o).run P w=.ok (.value (bA (some ⟨w.heap.size,0,none⟩))) (w.alloc (aJ z T))
def SR(P:dP)(o:gL)(a:kZ)(g:Nat)(cs:Array aS):Prop:=(∀y,eT o y=true)∧o.dst=none∧∀w z T,bT w g z T→z.size=cs.size→(vT a.eval o).run P w=.ok (.value aP) (w.setCells g 0 cs.toList)∨(vT a.eval o).run P w=.ok .skip (w.setCells g 0 cs.toList)
def MR(P:dP)(o:gL)(a:kZ)(z:Array aS)(T:eC)(vf:Nat→aS):Prop:=(∀y,eT o y=true)∧∀w,(vT a.eval o).run P w=.ok (.value (vf w.heap.size)) (w.alloc (aJ z T))
def Ck(G:Gm)(g:Nat)(v:Array aS×eC):Gm:=fun k=>if k=g then some v else G k
theorem vq{G:Gm}{g h:Nat}(u v:Array aS×eC)(jC:g≠h):Ck (Ck G g u) h v=Ck (Ck G h v) g u:=by
 funext k;unfold Ck;by_cases e:k=h<;>by_cases e2:k=g<;>simp[e,e2]<;>omega
def Gk(G:Gm)(w:aF):Prop:=∀k cs T,G k=some (cs,T)→bT w k cs T
theorem Gk.below{G:Gm}{w w2:aF}(h:Gk G w)(hb:Below w.heap.size w w2):Gk G w2:=fun k cs T e=>(h k cs T e).below hb (h k cs T e).lt
theorem xQ(w:aF)(g:Nat):∀(vs:List aS)(o:Nat)(w:aF)(k:Nat),k≠g→(w.setCells g o vs).heap[k]? =w.heap[k]?
 |[],_,_,_,_=>rfl
 |v::r,o,w,k,h=>by rw[World.setCells,xQ w g r (o+1) _ k h];exact nY w ⟨g,o,none⟩ k v h
theorem zU(g:Nat)(T:eC):∀(vs:List aS)(o:Nat)(w:aF)(z:Array aS),bT w g z T→bT (w.setCells g o vs) g (TS z o vs) T
 |[],_,_,_,h=>h
 |v::r,o,w,z,h=>zU g T r (o+1) _ _ (h.set o v)
theorem CZ{B g:Nat}(hg:B≤g):∀(vs:List aS)(o:Nat)(w:aF),Below B w (w.setCells g o vs)
 |[],_,_=>aH _ _
 |v::r,o,w=>((aH B w).setCell (p:=⟨g,o,none⟩) hg v).trans (CZ hg r (o+1) _)
theorem Gk.store{G:Gm}{w:aF}(h:Gk G w){g:Nat}{z:Array aS}{T:eC}(hz:G g=some (z,T))(cs:Array aS)(hs:z.size=cs.size):Gk (Ck G g (cs,T)) (w.setCells g 0 cs.toList):=fun k c S e=>by
 unfold Ck at e
 by_cases hk:k=g
 ·subst hk
  rw[ip rfl]at e
  injection e with e;injection e with e1 e2;subst e1 e2
  have:=zU k T cs.toList 0 w z (h k z T hz)
  rwa[GK z _ (by simpa using hs),D5]at this
 ·rw[iN hk]at e
  exact(xQ w g cs.toList 0 w k hk).trans (h k c S e)
def jz(m:Nat)(P:dP)(md:gU)(cR:Array gL)(n:Nat)(A:Nat→Wy3)(Q:yK→kZ→aF→Prop)(C:aF→Prop)(b0:Nat):Nat→Gm→Array Bool→kZ→Prop
 |0,G,L,a=>cV md cR L=[]∧∀w,C w→Gk G w→Q .normal a w
 |f+1,G,L,a=>(cV md cR L=[]→∀w,C w→Gk G w→Q .normal a w)∧∀i∈cV md cR L,∃o,cR[i]? =some o∧
  if n≤i then∀w,C w→Gk G w→wpOpIn dG m P cR Q i (vO dG m P md cR Q f (L.setIfInBounds i true)) a w
  else match A i with
   |.alloc z T=>AR P o z T∧∀g,b0≤g→G g=none→jz m P md cR n A Q C b0 f (Ck G g (z,T)) (L.setIfInBounds i true) (a.put o.dst (bA (some ⟨g,0,none⟩)))
   |.store=>∃g cs z T,G g=some (z,T)∧z.size=cs.size∧b0≤g∧SR P o a g cs∧jz m P md cR n A Q C b0 f (Ck G g (cs,T)) (L.setIfInBounds i true) a
   |.quiet=>∃v,YR P cR C o v a∧jz m P md cR n A Q C b0 f G (L.setIfInBounds i true) (a.put o.dst v)
   |.made=>∃z T vf,MR P o a z T vf∧∀g,b0≤g→G g=none→jz m P md cR n A Q C b0 f (Ck G g (z,T)) (L.setIfInBounds i true) (a.put o.dst (vf g))
theorem AE{b0:Nat}(hQ:¬LetsOut Q)(hs:∀w w2,C w→Below b0 w w2→C w2)(hb:∀w,C w→b0≤w.heap.size):∀(f:Nat)(G:Gm)(L:Array Bool)(a:kZ),jz m P md cR n A Q C b0 f G L a→∀w,C w→Gk G w→vO dG m P md cR Q f L a w
 |0,_,_,_,h,w,hw,hg=>⟨h.1,h.2 w hw hg⟩
 |f+1,G,L,a,h,w,hw,hg=>by
  refine⟨fun h0=>h.1 h0 w hw hg,fun i hi=>?_⟩
  obtain⟨o,ho,k⟩:=h.2 i hi
  split at k
  ·exact k w hw hg
  ·split at k
   ·rename_i z T _
    obtain⟨⟨k1,k2⟩,k3⟩:=k
    have hgn:G w.heap.size=none:=by
     cases e:G w.heap.size with
     |none=>rfl
     |some v=>exact absurd (hg _ v.1 v.2 e).lt (Nat.lt_irrefl _)
    have hr:=AE hQ hs hb f _ _ _ (k3 w.heap.size (hb w hw) hgn) (w.alloc (aJ z T)) (hs _ _ hw ((aH _ _).alloc (hb w hw) _)) (fun k cs S e=>by
     unfold Ck at e;by_cases hk:k=w.heap.size
     ·rw[ip hk]at e;injection e with e;injection e with e1 e2;subst e1 e2 hk;exact bT.new w z T
     ·rw[iN hk]at e;exact(hg k cs S e).alloc _)
    refine F8 hQ ?_;unfold wpOp;rw[ho];simp only;rw[ip (k1 _)];left;unfold ir;rw[k2];exact hr
   ·obtain⟨g,cs,z,T,e1,e2,e3,⟨k1,k0,k2⟩,k3⟩:=k;have hr:=AE hQ hs hb f _ _ _ k3 (w.setCells g 0 cs.toList) (hs _ _ hw (CZ e3 _ _ _)) (hg.store e1 cs e2);refine F8 hQ ?_;unfold wpOp;rw[ho];simp only;rw[ip (k1 _)];left;unfold ir;rcases k2 w z T (hg g z T e1) e2 with k2|k2
    ·rw[k2];show vO _ _ _ _ _ _ _ _ (a.put o.dst _) _;rw[k0];exact hr
    ·rw[k2];show vO _ _ _ _ _ _ _ _ (a.put o.dst _) _;rw[k0];exact hr
   ·obtain⟨v,hy,hK⟩:=k;have hq:qOp P cR (fun w2=>Below w.heap.size w w2) i (jz m P md cR n A Q C b0 f G (L.setIfInBounds i true)) a:=by
     refine YieldsIn.qOp (v:=v) ho ?_ hK;rcases hy with⟨h1,h2⟩|h1
     ·exact .inl ⟨h1,fun w1 hw1=>Qo (fun w2 hw2=>hw1.trans (hw2.mono hw1.size)) (h2 w1 (hs _ _ hw (hw1.mono (hb w hw))))⟩
     ·exact .inr h1
    exact F8 hQ<|wpOp_of_qOp (C:=fun w2=>Below w.heap.size w w2) (aH _ _) (fun a' w' Mf hk=>AE hQ hs hb f G _ _ hk w' (hs _ _ hw (Mf.mono (hb w hw))) (hg.below Mf)) hq
   ·obtain⟨z,T,vf,⟨k1,k2⟩,k3⟩:=k;have hgn:G w.heap.size=none:=by
     cases e:G w.heap.size with
     |none=>rfl
     |some v=>exact absurd (hg _ v.1 v.2 e).lt (Nat.lt_irrefl _)
    have hr:=AE hQ hs hb f _ _ _ (k3 w.heap.size (hb w hw) hgn) (w.alloc (aJ z T)) (hs _ _ hw ((aH _ _).alloc (hb w hw) _)) (fun k cs S e=>by
     unfold Ck at e;by_cases hk:k=w.heap.size
     ·rw[ip hk]at e;injection e with e;injection e with e1 e2;subst e1 e2 hk;exact bT.new w z T
     ·rw[iN hk]at e;exact(hg k cs S e).alloc _)
    refine F8 hQ ?_;unfold wpOp;rw[ho];simp only;rw[ip (k1 _)];left;unfold ir;rw[k2];exact hr
def cls(md:gU)(cR:Array gL):Nat→List Nat→List Nat
 |0,S=>S
 |f+1,S=>cls md cR f (S++(vN cR.size).filter fun i=> !S.contains i&&S.any fun j=>Region.waitsFor md cR j i)
def OJ(md:gU)(cR:Array gL)(n:Nat):Bool:=(vN cR.size).all fun t=>decide (t<n)||(vN n).all fun i=>(cls md cR 12 [t]).contains i
theorem Mg{L:Array Bool}(inv:Ew md cR n L){t:Nat}(ht:t∈cV md cR L):∀(f:Nat)(S:List Nat),(∀j∈S,j=t∨L.getD j false=true)→∀j∈cls md cR f S,j=t∨L.getD j false=true
 |0,_,h=>h
 |f+1,S,h=>Mg inv ht f _ fun j hj=>by
  rcases List.mem_append.1 hj with hj|hj
  ·exact h j hj
  ·obtain⟨-,h1⟩:=List.mem_filter.1 hj
   rw[bK]at h1
   obtain⟨k,hk,h2⟩:=List.any_eq_true.1 h1.2
   obtain⟨o,ho,e,he,hb,rfl⟩:=Region.waitsFor_spec h2
   refine .inr ?_
   rcases h k hk with rfl|hl
   ·obtain⟨_,ot,hot,hall⟩:=mem_ready.1 ht
    rw[hot]at ho;injection ho with ho;subst ho
    exact hall e he hb
   ·exact inv.closed k o ho hl e he hb
theorem sink_no{L:Array Bool}(hs:OJ md cR n=true)(inv:Ew md cR n L){i t:Nat}(hi:i<n)(hu:L.getD i true=false)(ht:t∈cV md cR L):t<n:=by
 obtain⟨_,ot,hot,hall⟩:=mem_ready.1 ht;have hlt:=(Array.getElem?_eq_some_iff.1 hot).1;have h1:=List.all_eq_true.1 hs t (List.mem_range.2 hlt);rw[fJ,decide_eq_true_eq]at h1;rcases h1 with h1|h1
 ·exact h1
 ·have h2:i∈cls md cR 12 [t]:=by simpa using List.all_eq_true.1 h1 i (List.mem_range.2 hi)
  rcases Mg inv ht 12 [t] (fun j hj=>.inl (List.mem_singleton.1 hj)) i h2 with rfl|h3
  ·exact hi
  ·rw[Jo hu]at h3;cases h3
def Fre(md:gU)(cR:Array gL)(L:Array Bool)(i:Nat)(oi:gL):Prop:=∀j oj,cR[j]? =some oj→j≠i→L.getD j true=false→(∀e∈oj.after,pR md e=true→e.on≠i)→oi.apart cR oj=true
theorem Fre.set{L:Array Bool}{i j:Nat}{oi:gL}(h:Fre md cR L i oi)(hj:L.getD j true=false):Fre md cR (L.setIfInBounds j true) i oi:=fun k ok hk hki hun nw=>by
 refine h k ok hk hki ?_ nw
 by_cases hjk:j=k
 ·subst hjk;exact hj
 ·rw[eZ true hjk]at hun;exact hun
theorem I2{L:Array Bool}{i j:Nat}(hi:i∈cV md cR L)(hj:j∈cV md cR L):∃oj,cR[j]? =some oj∧L.getD j true=false∧∀e∈oj.after,pR md e=true→e.on≠i:=by
 obtain⟨hun,-⟩:=mem_ready.1 hi;obtain⟨E7,oj,MX,hall⟩:=mem_ready.1 hj;refine⟨oj,MX,E7,fun e he hb VK=>?_⟩;have h1:=hall e he hb;rw[VK,Jo hun]at h1;cases h1
theorem OK{i:Nat}{oi:gL}{v:aS}(hi:cR[i]? =some oi)(Ww:∀(j:Nat)(o:gL)cs b,cR[j]? =some o→o.op≠.select cs b)(hs:OJ md cR n=true)(hin:i<n)(hA:A i=.quiet):
 ∀(f:Nat)(G:Gm)(L:Array Bool)(a:kZ),Ew md cR n L→Fre md cR L i oi→i∈cV md cR L→YR P cR C oi v a→
  jz m P md cR n A Q C b0 f G (L.setIfInBounds i true) (a.put oi.dst v)→jz m P md cR n A Q C b0 (f+1) G L a:=by
 intro f;induction f with
 |zero=>
  intro G L a inv Az hr hy H;refine⟨fun h=>(by rw[h]at hr;cases hr),fun j hj=>?_⟩;by_cases hji:j=i
  ·subst hji;exact⟨oi,hi,by rw[iN (by omega),hA];exact⟨v,hy,H⟩⟩
  ·have:=qY hj hji;rw[H.1]at this;cases this
 |succ f ih=>
  intro G L a inv Az hr hy H;refine⟨fun h=>(by rw[h]at hr;cases hr),fun j hj=>?_⟩;by_cases hji:j=i
  ·subst hji;exact⟨oi,hi,by rw[iN (by omega),hA];exact⟨v,hy,H⟩⟩
  ·have hjn:=sink_no hs inv hin (mem_ready.1 hr).1 hj;obtain⟨oj,MX,E7,td⟩:=I2 hr hj;obtain⟨h1,h2,h3⟩:=Oper.apart_spec (Az j oj MX hji E7 td);obtain⟨o',ZX,k⟩:=H.2 j (qY hj hji);rw[MX]at ZX;injection ZX with ZX;subst ZX;refine⟨oj,MX,?_⟩;rw[iN (by omega)]at k⊢;have keep:∀u,YR P cR C oi v (a.put oj.dst u):=fun u=>hy.same (Vu oi (fun cs b=>Ww i oi cs b hi) a oj.dst u h3) (wanted_put oi a oj.dst u h3);split at k
   ·rename_i z T hz;refine⟨k.1,fun g hb hg=>?_⟩;refine ih _ _ _ (inv.set hj hjn) (Az.set E7) (qY hr (Ne.symm hji)) (keep _) ?_;have:=k.2 g hb hg;rwa[mT _ _ hji,←JL a v _ h2]
   ·obtain⟨g,cs,z,T,e1,e2,e3,⟨k1,k0,k2⟩,k3⟩:=k;refine⟨g,cs,z,T,e1,e2,e3,⟨k1,k0,fun w z T h4 h5=>?_⟩,?_⟩
    ·have:=k2 w z T h4 h5;rwa[Vu oj (fun cs b=>Ww j oj cs b MX) a oi.dst v h1]at this
    ·have kp:=keep aP;rw[k0]at kp;refine ih _ _ _ (inv.set hj hjn) (Az.set E7) (qY hr (Ne.symm hji)) kp ?_;rwa[mT _ _ hji]
   ·obtain⟨u,hu,hK⟩:=k;refine⟨u,hu.same (Vu oj (fun cs b=>Ww j oj cs b MX) a oi.dst v h1).symm (wanted_put oj a oi.dst v h1).symm,?_⟩;refine ih _ _ _ (inv.set hj hjn) (Az.set E7) (qY hr (Ne.symm hji)) (keep _) ?_;rwa[mT _ _ hji,←JL a v _ h2]
   ·obtain⟨z,T,vf,⟨k1,k2⟩,k3⟩:=k;refine⟨z,T,vf,⟨k1,fun w=>?_⟩,fun g hb hg=>?_⟩
    ·have:=k2 w;rwa[Vu oj (fun cs b=>Ww j oj cs b MX) a oi.dst v h1]at this
    ·refine ih _ _ _ (inv.set hj hjn) (Az.set E7) (qY hr (Ne.symm hji)) (keep _) ?_;have:=k3 g hb hg;rwa[mT _ _ hji,←JL a v _ h2]
theorem dl{i:Nat}{oi:gL}{z:Array aS}{T:eC}(hi:cR[i]? =some oi)(hin:i<n)(hA:A i=.alloc z T)(hR:AR P oi z T)(al:List Nat)(hal:∀j∈al,∃y S,A j=.alloc y S∧j<n):
 ∀(f:Nat)(G:Gm)(L:Array Bool)(a:kZ),(∃B,∀k,B≤k→G k=none)→Ew md cR n L→Fre md cR L i oi→(∀L':Array Bool,Ew md cR n L'→(∀j,L.getD j false=true→L'.getD j false=true)→L'.getD i true=false→∀j∈cV md cR L',j∈al)→i∈cV md cR L→
  (∀g,b0≤g→G g=none→jz m P md cR n A Q C b0 f (Ck G g (z,T)) (L.setIfInBounds i true) (a.put oi.dst (bA (some ⟨g,0,none⟩))))→jz m P md cR n A Q C b0 (f+1) G L a:=by
 intro f;induction f with
 |zero=>
  intro G L a hB inv Az hall hr H;refine⟨fun h=>(by rw[h]at hr;cases hr),fun j hj=>?_⟩;by_cases hji:j=i
  ·subst hji;exact⟨oi,hi,by rw[iN (by omega),hA];exact⟨hR,H⟩⟩
  ·obtain⟨oj,MX,-⟩:=I2 hr hj;refine⟨oj,MX,?_⟩;exfalso;have:=qY hj hji;obtain⟨B,hB⟩:=hB;rw[(H (max B b0) (Nat.le_max_right _ _) (hB _ (Nat.le_max_left _ _))).1]at this;cases this
 |succ f ih=>
  intro G L a hB inv Az hall hr H;refine⟨fun h=>(by rw[h]at hr;cases hr),fun j hj=>?_⟩;by_cases hji:j=i
  ·subst hji;exact⟨oi,hi,by rw[iN (by omega),hA];exact⟨hR,H⟩⟩
  ·obtain⟨y,S,hAj,hjn⟩:=hal j (hall L inv (fun _ h=>h) (mem_ready.1 hr).1 j hj);obtain⟨oj,MX,E7,td⟩:=I2 hr hj;obtain⟨h1,h2,h3⟩:=Oper.apart_spec (Az j oj MX hji E7 td);refine⟨oj,MX,?_⟩;rw[iN (by omega),hAj];have TU:∀g,b0≤g→G g=none→AR P oj y S∧∀g',b0≤g'→Ck G g (z,T) g'=none→jz m P md cR n A Q C b0 f (Ck (Ck G g (z,T)) g' (y,S)) ((L.setIfInBounds i true).setIfInBounds j true) ((a.put oi.dst (bA (some ⟨g,0,none⟩))).put oj.dst (bA (some ⟨g',0,none⟩))):=fun g hb hg=>by
    obtain⟨o',ZX,k⟩:=(H g hb hg).2 j (qY hj hji);rw[MX]at ZX;injection ZX with ZX;subst ZX;rw[iN (by omega),hAj]at k;exact k
   obtain⟨B,hB⟩:=hB;refine⟨(TU (max B b0) (Nat.le_max_right _ _) (hB _ (Nat.le_max_left _ _))).1,fun g' Ch hg'=>?_⟩;refine ih _ _ _ ⟨max B (g'+1),fun k hk=>?_⟩ (inv.set hj hjn) (Az.set E7) (fun L' inv' vr hu=>hall L' inv' (fun k hk=>vr k (RK hk)) hu) (qY hr (Ne.symm hji)) fun g hb hg=>?_
   ·unfold Ck;rw[iN (by omega)];exact hB k (by omega)
   ·have jC:g≠g':=fun e=>by subst e;unfold Ck at hg;rw[ip rfl]at hg;cases hg
    have hgG:G g=none:=by unfold Ck at hg;rwa[iN jC]at hg
    have hgu:Ck G g (z,T) g'=none:=by unfold Ck;rw[iN (Ne.symm jC)];exact hg'
    have:=(TU g hb hgG).2 g' Ch hgu;rw[mT _ _ hji,←JL a _ _ h2,vq _ _ (Ne.symm jC)];exact this
def WF(m:Nat)(P:dP)(md:gU)(cR:Array gL)(n:Nat)(A:Nat→Wy3)(Q:yK→kZ→aF→Prop)(C:aF→Prop)(b0 f:Nat)(G:Gm)(L:Array Bool)(a:kZ):Prop:=
 OJ md cR n=true→rE cR=true→(∃B,∀k,B≤k→G k=none)→Ew md cR n L→jz m P md cR n A Q C b0 f G L a
variable{f:Nat}{L:Array Bool}{a:kZ}
theorem qS(i:Nat){oi:gL}{v:aS}(hi:cR[i]? =some oi)(h:WF m P md cR n A Q C b0 f G (L.setIfInBounds i true) (a.put oi.dst v))(hw:eT oi (wC cR a.tmps)=true:=by kernel_rfl)
 (hy:∀w,C w→oi.quietAt P a (fun w2=>Below w.heap.size w w2) w v:=by(intro w Bd;have hSx:=Bd.1;clear Bd;(try dsimp only at hSx);apply qAtI;go_simp;first |done|exact⟨rfl,rfl⟩|rfl))
 (hin:i<n:=by decide)(hA:A i=.quiet:=by rfl)(hf:rW md cR L i=true:=by kernel_rfl)(hr:(cV md cR L).contains i=true:=by kernel_rfl):WF m P md cR n A Q C b0 (f+1) G L a:=fun hs hn hB inv=>by
 have Zm:i∈cV md cR L:=by simpa using hr
 exact OK hi (U7 hn) hs hin hA f G L a inv (Jl hi hf) Zm (.inl ⟨hw,hy⟩) (h hs hn hB (inv.set Zm hin))
theorem qC(i:Nat){oi:gL}{v:aS}{g:FuncId}{ar:Array aS}(H:∀w,C w→aW P g ar w (Rt (v) w))(hi:cR[i]? =some oi)(h:WF m P md cR n A Q C b0 f G (L.setIfInBounds i true) (a.put oi.dst v))(hw:eT oi (wC cR a.tmps)=true:=by kernel_rfl)
 (he:∀w,(vT a.eval oi).run P w=.ok (.enter g ar) w:=by(intro w;go_simp;first |done|rfl))
 (hin:i<n:=by decide)(hA:A i=.quiet:=by rfl)(hf:rW md cR L i=true:=by kernel_rfl)(hr:(cV md cR L).contains i=true:=by kernel_rfl):WF m P md cR n A Q C b0 (f+1) G L a:=
 qS i hi h hw (fun w hw=>by unfold Ce;rw[he w];exact⟨rfl,H w hw⟩) hin hA hf hr
theorem bT.range{w:aF}{b:Nat}{arr:Array aS}{T:eC}(h:bT w b arr T)(o n:Nat){cs:List aS}(e:(arr.toList.drop o).take n=cs):w.rangeAt b o cs:=fun j v hv=>by
 subst e
 rw[h.cell]
 rw[List.getElem?_take]at hv
 split at hv
 ·rw[List.getElem?_drop]at hv
  simpa using hv
 ·cases hv
theorem qR(i:Nat){oi:gL}(b o:Nat)(cs:Array aS)(hS:∀w,C w→w.rangeAt b o cs.toList)(hi:cR[i]? =some oi)(h:WF m P md cR n A Q C b0 f G (L.setIfInBounds i true) (a.put oi.dst (cN cs))){ty:eC}{x:qV}{d:TypeDesc}(ho:oi.op=.load ty x:=by rfl)
 (hx:a.eval x=bA (some ⟨b,o,none⟩):=by rfl)(hu:P.underlying ty=some d:=by rfl)(hd:d.isRow=true:=by rfl)(hz:(P.info? ty).map (·.size)=some cs.toList.length:=by kernel_rfl)(hw:eT oi (wC cR a.tmps)=true:=by kernel_rfl)
 (hin:i<n:=by decide)(hA:A i=.quiet:=by rfl)(hf:rW md cR L i=true:=by kernel_rfl)(hr:(cV md cR L).contains i=true:=by kernel_rfl):WF m P md cR n A Q C b0 (f+1) G L a:=
 qS i hi h hw (fun w hw=>by
  unfold Ce vT
  have e:=Vv (P:=P) w b o ty cs.toList d (hS w hw) hu hd hz
  simp only[ho,hx,Instr.loadAt,Instr.sureAddr,wD,vP,oH]at e⊢
  rw[e]
  exact⟨rfl,by simp⟩) hin hA hf hr
theorem qL(i:Nat){oi:gL}(b o:Nat)(cs:Array aS){arr:Array aS}{T:eC}(hS:∀w,C w→bT w b arr T)(hi:cR[i]? =some oi)(h:WF m P md cR n A Q C b0 f G (L.setIfInBounds i true) (a.put oi.dst (cN cs))){ty:eC}{x:qV}{d:TypeDesc}(ho:oi.op=.load ty x:=by rfl)
 (hx:a.eval x=bA (some ⟨b,o,none⟩):=by rfl)(hu:P.underlying ty=some d:=by rfl)(hd:d.isRow=true:=by rfl)(hz:(P.info? ty).map (·.size)=some cs.toList.length:=by kernel_rfl)(Fy:(arr.toList.drop o).take cs.size=cs.toList:=by rfl)(hw:eT oi (wC cR a.tmps)=true:=by kernel_rfl)
 (hin:i<n:=by decide)(hA:A i=.quiet:=by rfl)(hf:rW md cR L i=true:=by kernel_rfl)(hr:(cV md cR L).contains i=true:=by kernel_rfl):WF m P md cR n A Q C b0 (f+1) G L a:=
 qR i b o cs (fun w hw=>(hS w hw).range o cs.size Fy) hi h ho hx hu hd hz hw hin hA hf hr
theorem qNn(i:Nat){oi:gL}(hi:cR[i]? =some oi)(h:WF m P md cR n A Q C b0 f G (L.setIfInBounds i true) (a.put oi.dst aP))(hw:eT oi (wC cR a.tmps)=false:=by kernel_rfl)
 (hin:i<n:=by decide)(hA:A i=.quiet:=by rfl)(hf:rW md cR L i=true:=by kernel_rfl)(hr:(cV md cR L).contains i=true:=by kernel_rfl):WF m P md cR n A Q C b0 (f+1) G L a:=fun hs hn hB inv=>by
 have Zm:i∈cV md cR L:=by simpa using hr
 exact OK hi (U7 hn) hs hin hA f G L a inv (Jl hi hf) Zm (.inr ⟨hw,rfl⟩) (h hs hn hB (inv.set Zm hin))
def upB(md:gU)(cR:Array gL)(L:Array Bool)(i:Nat)(al:List Nat):Bool:=(vN cR.size).all fun j=>L.getD j true||al.contains j||(cls md cR 12 [j]).contains i
theorem vt{al:List Nat}{i:Nat}(inv0:Ew md cR n L)(h:upB md cR L i al=true)(hni:i∈al)(L':Array Bool)(inv:Ew md cR n L')(vr:∀j,L.getD j false=true→L'.getD j false=true)(hu:L'.getD i true=false)(j:Nat)(hj:j∈cV md cR L'):j∈al:=by
 obtain⟨E7,oj,MX,hall⟩:=mem_ready.1 hj;have hlt:=(Array.getElem?_eq_some_iff.1 MX).1;have h1:=List.all_eq_true.1 h j (List.mem_range.2 hlt);rw[fJ,fJ]at h1;rcases h1 with(h1|h1)|h1
 ·exfalso;by_cases hs:j<L.size
  ·have:L.getD j false=true:=by simp[hs]at h1⊢;exact h1
   have:=vr j this;rw[Jo E7]at this;cases this
  ·rw[inv0.size]at hs;exact hs hlt
 ·simpa using h1
 ·rcases Mg inv hj 12 [j] (fun k hk=>.inl (List.mem_singleton.1 hk)) i (by simpa using h1)with rfl|h3
  ·exact hni
  ·rw[Jo hu]at h3;cases h3
theorem qA(i:Nat){oi:gL}(al:List Nat)(z:Array aS)(T:eC)(hi:cR[i]? =some oi)(h:∀g,b0≤g→G g=none→WF m P md cR n A Q C b0 f (Ck G g (z,T)) (L.setIfInBounds i true) (a.put oi.dst (bA (some ⟨g,0,none⟩))))
 (hR:AR P oi z T:=by exact⟨fun _=>rfl,fun a w=>by go_simp⟩)(hal:∀j∈al,∃y S,A j=.alloc y S∧j<n:=by simp)(hup:upB md cR L i al=true:=by kernel_rfl)(hni:i∈al:=by simp)
 (hin:i<n:=by decide)(hA:A i=.alloc z T:=by rfl)(hf:rW md cR L i=true:=by kernel_rfl)(hr:(cV md cR L).contains i=true:=by kernel_rfl):WF m P md cR n A Q C b0 (f+1) G L a:=fun hs hn hB inv=>by
 have Zm:i∈cV md cR L:=by simpa using hr
 refine dl hi hin hA hR al hal f G L a hB inv (Jl hi hf) (fun L' inv' vr hu=>vt inv hup hni L' inv' vr hu) Zm fun g hb hg=>h g hb hg hs hn ?_ (inv.set Zm hin)
 obtain⟨B,hB⟩:=hB
 exact⟨max B (g+1),fun k hk=>by unfold Ck;rw[iN (by omega)];exact hB k (by omega)⟩
theorem TV{o:gL}{g:Nat}{cs:Array aS}{T:eC}{x y:qV}(e:o.op=.store T x y:=by rfl)(gd:o.guard=none:=by rfl)(d:o.dst=none:=by rfl)(hx:a.eval x=bA (some ⟨g,0,none⟩):=by rfl)(hy:a.eval y=cN cs:=by rfl)(hi:(P.info? T).map (·.size)=some cs.size:=by kernel_rfl)(h1:cs.all (·.oneCell')=true:=by simp[nO]):SR P o a g cs:=
 ⟨fun _=>by unfold eT;rw[gd],d,fun w z S hz hs=>by
  have e2:=run_storeAt_mid (P:=P) w g 0 T cs (fun j hj=>⟨by rw[dZ,hz.cell];simp[hs,hj],by rw[dZ];exact hz.fz j⟩) hi h1
  unfold vT
  simp only[e,hx,hy,wD,e2,oH,vP]
  simp⟩
theorem qW(i:Nat){oi:gL}(g:Nat)(cs z:Array aS)(T:eC)(hi:cR[i]? =some oi)(hg:G g=some (z,T))(hb:b0≤g)(h:WF m P md cR n A Q C b0 f (Ck G g (cs,T)) (L.setIfInBounds i true) a)(hR:SR P oi a g cs)(hz:z.size=cs.size:=by rfl)
 (hin:i<n:=by decide)(hA:A i=.store:=by rfl)(hr:cV md cR L=[i]:=by kernel_rfl):WF m P md cR n A Q C b0 (f+1) G L a:=fun hs hn hB inv=>by
 refine⟨fun h0=>(by rw[h0]at hr;cases hr),fun j hj=>?_⟩
 have hji:j=i:=by rw[hr]at hj;exact List.mem_singleton.1 hj
 subst hji
 refine⟨oi,hi,?_⟩
 rw[iN (by omega),hA]
 refine⟨g,cs,z,T,hg,hz,hb,hR,h hs hn ?_ (inv.set hj hin)⟩
 obtain⟨B,hB⟩:=hB
 exact⟨max B (g+1),fun k hk=>by unfold Ck;rw[iN (by omega)];exact hB k (by omega)⟩
theorem qM(i:Nat){oi:gL}(z:Array aS)(T:eC)(vf:Nat→aS)(hi:cR[i]? =some oi)(h:∀g,b0≤g→G g=none→WF m P md cR n A Q C b0 f (Ck G g (z,T)) (L.setIfInBounds i true) (a.put oi.dst (vf g)))(hR:MR P oi a z T vf)
 (hin:i<n:=by decide)(hA:A i=.made:=by rfl)(hr:cV md cR L=[i]:=by kernel_rfl):WF m P md cR n A Q C b0 (f+1) G L a:=fun hs hn hB inv=>by
 refine⟨fun h0=>(by rw[h0]at hr;cases hr),fun j hj=>?_⟩
 have hji:j=i:=by rw[hr]at hj;exact List.mem_singleton.1 hj
 subst hji
 refine⟨oi,hi,?_⟩
 rw[iN (by omega),hA]
 refine⟨z,T,vf,hR,fun g hb hg=>h g hb hg hs hn ?_ (inv.set hj hin)⟩
 obtain⟨B,hB⟩:=hB
 exact⟨max B (g+1),fun k hk=>by unfold Ck;rw[iN (by omega)];exact hB k (by omega)⟩
theorem qT(h:∀w,C w→Gk G w→vO dG m P md cR Q (f+1) L a w)(hn:((cV md cR L).all fun i=>decide (n≤i))=true:=by kernel_rfl):WF m P md cR n A Q C b0 (f+1) G L a:=fun _ _ _ _=>by
 refine⟨fun h0 w hw hg=>(h w hw hg).1 h0,fun i hi=>?_⟩
 have hni:=of_decide_eq_true (List.all_eq_true.1 hn i hi)
 obtain⟨-,oi,hoi,-⟩:=mem_ready.1 hi
 exact⟨oi,hoi,by rw[ip hni];exact fun w hw hg=>(h w hw hg).2 i hi⟩
theorem qE(h:∀w,C w→Gk G w→Q .normal a w)(hn:(cV md cR L).isEmpty=true:=by kernel_rfl):WF m P md cR n A (mR Q) C b0 f G L a:=fun _ _ _ _=>by
 have hn:=List.isEmpty_iff.1 hn
 cases f with
 |zero=>exact⟨hn,h⟩
 |succ f=>exact⟨fun _=>h,fun i hi=>by rw[hn]at hi;cases hi⟩
theorem head0(md:gU)(cR:Array gL)(n:Nat):Ew md cR n (fY cR.size false):=
 ⟨by simp,fun j oj _ hl=>(by rw[xY]at hl;cases hl),fun t _ ht=>getD_in (by simpa using ht) (xY _ _)⟩
def Cl(S:aF→Prop)(w:aF):aF→Prop:=fun w2=>S w2∧Below w.heap.size w w2
theorem Cl.b{S:aF→Prop}{w w2:aF}(h:Cl S w.drew w2):Below w.heap.size w w2:=(aH w.heap.size w).drew.trans h.2
theorem OL{w:aF}{a:kZ}(hQ:¬LetsOut Q)(n:Nat)(hk:OJ md cR n=true)(hn:rE cR=true)(A:Nat→Wy3)(S:aF→Prop)(hS:S w)(st:∀w1 w2,S w1→Below w.heap.size w1 w2→S w2)
 (h:WF m P md cR n A Q (Cl S w) w.heap.size cR.size (fun _=>none) (fY cR.size false) a):vO dG m P md cR Q cR.size (fY cR.size false) a w:=
 AE hQ (fun w1 w2 h1 h2=>⟨st _ _ h1.1 h2,h1.2.trans h2⟩) (fun w1 h1=>h1.2.size) cR.size _ _ _ (h hk hn ⟨0,fun _ _=>rfl⟩ (head0 md cR n)) w ⟨hS,aH _ _⟩ (fun _ _ _ e=>by cases e)
section
variable{id:Nat}{w:aF}{a:kZ}(n:Nat)(A:Nat→Wy3)(S:aF→Prop)(hS:S w.drew)(h:WF m P .any cR n A (mR Q) (Cl S w.drew) w.heap.size cR.size (fun _=>none) (fY cR.size false) a)
 (st:∀w1 w2,S w1→Below w.heap.size w1 w2→S w2)(hm:P.follows .mixedOrders=true:=by kernel_rfl)(hk:OJ .any cR n=true:=by kernel_rfl)(hn:rE cR=true:=by kernel_rfl)
include hS h st hm hk hn
theorem Ep:(oF id cR true).wpIn dG m P Q a w:=
 Pa (wpIn_region_any hm (OL mR.no n hk hn A S hS st h)) mR.imp
theorem AF{l:Nat}(hd:Bo cR=true:=by kernel_rfl):(oF id cR true).wpIn (Fence.wide.inRound l) m P Q a w:=
 Pa (pK hm hd (OL mR.no n hk hn A S hS st h)) mR.imp
theorem TW:(oF id cR true).wp P Q a w:=(wpIn_wide (n:=m)).1 (Ep n A S hS h st hm hk hn)
end
theorem xR{id:Nat}{w:aF}{a:kZ}(n:Nat)(A:Nat→Wy3)(S:aF→Prop)(hS:S w.drew)(h:WF 9 P .any cR n A (mR Q) (Cl S w.drew) w.heap.size cR.size (fun _=>none) (fY cR.size false) a)
 (st:∀w1 w2,S w1→Below w.heap.size w1 w2→S w2)(hm:P.follows .mixedOrders=true:=by kernel_rfl)(hk:OJ .any cR n=true:=by kernel_rfl)(hn:rE cR=true:=by kernel_rfl):(oF id cR true).wp P Q a w:=TW n A S hS h st hm hk hn
section
variable{P:dP}{cR:Array gL}{md:gU}{Q:yK→kZ→aF→Prop}{m:Nat}{F:Kh}
def BX(md:gU)(cR:Array gL)(i:Nat):List Nat:=match cR[i]? with
 |some o=>(o.after.toList.filter (pR md)).map (·.on)
 |none=>[]
def vu(md:gU)(cR:Array gL):Bool:=(vN cR.size).all fun i=>(BX md cR i).all fun k=>decide (k<i)
theorem C3{L:Array Bool}{i:Nat}{o:gL}(ho:cR[i]? =some o):(∀e∈o.after,pR md e=true→L.getD e.on false=true)↔∀k∈BX md cR i,L.getD k false=true:=by
 unfold BX;rw[ho];simp only[List.mem_map,List.mem_filter,Array.mem_toList_iff];constructor
 ·rintro h k⟨e,⟨h1,h2⟩,rfl⟩;exact h e h1 h2
 ·intro h e h1 h2;exact h _ ⟨e,⟨h1,h2⟩,rfl⟩
theorem vw{L:Array Bool}(hs:L.size=cR.size)(hb:vu md cR=true)(h:cV md cR L=[]):∀j,j<cR.size→L.getD j false=true:=by
 intro j;induction j using Nat.strongRecOn with
 |_ j ih=>
  intro hj;cases e:L.getD j false with
  |true=>rfl
  |false=>
   have:j∈cV md cR L:=by
    refine mem_ready.2 ⟨getD_in (by omega) e,cR[j],NP hj,(C3 (NP hj)).2 fun k hk=>?_⟩;have:=List.all_eq_true.1 (List.all_eq_true.1 hb j (List.mem_range.2 hj)) k hk;have hlt:=of_decide_eq_true this;exact ih k hlt (by omega)
   rw[h]at this;cases this
theorem vz{L:Array Bool}{i:Nat}(hi:i<L.size):(fun j=>(L.setIfInBounds i true).getD j false)=fun j=>if j=i then true else L.getD j false:=by
 funext j;by_cases e:j=i
 ·subst e;simp[hi]
 ·rw[iN e,eZ false (Ne.symm e)]
theorem OM(I:(Nat→Bool)→kZ→aF→Prop)(hb:vu md cR=true)
 (stp:∀d a w i o,cR[i]? =some o→I d a w→d i=false→(∀k∈BX md cR i,d k=true)→(∀j,d j=true→∀k∈BX md cR j,d k=true)→∀K:kZ→aF→Prop,(∀a' w',I (fun j=>if j=i then true else d j) a' w'→K a' w')→
  if eT o (wC cR a.tmps)=true then rL F m P o a w K Q else(∀f,o.about P w a.eval=some f→F.fn f)∧K (a.put o.dst aP) w)
 (fin:∀d a w,I d a w→(∀j,j<cR.size→d j=true)→Q .normal a w):
 ∀(f:Nat)(L:Array Bool)(a:kZ)(w:aF),L.size=cR.size→(∀j,L.getD j false=true→∀k∈BX md cR j,L.getD k false=true)→L.countP (fun b=> !b)≤f→I (fun j=>L.getD j false) a w→vO F m P md cR Q f L a w
 |0,L,a,w,hs,_,hc,hI=>by
  have h0:∀j,j<cR.size→L.getD j false=true:=fun j hj=>by
   have:=Array.countP_eq_zero.1 (Nat.le_zero.1 hc) L[j] (ja _)
   simpa[hs,hj]using this
  refine⟨List.eq_nil_iff_forall_not_mem.2 fun i hi=>?_,fin _ a w hI h0⟩
  obtain⟨h1,o,h2,-⟩:=mem_ready.1 hi
  have:=h0 i (Array.getElem?_eq_some_iff.1 h2).1
  rw[Jo h1]at this
  cases this
 |f+1,L,a,w,hs,hcl,hc,hI=>by
  refine⟨fun h=>fin _ a w hI (vw hs hb h),fun i hi=>?_⟩
  obtain⟨h1,o,h2,h3⟩:=mem_ready.1 hi
  have hlt:i<L.size:=by rw[hs];exact(Array.getElem?_eq_some_iff.1 h2).1
  have hk:=stp _ a w i o h2 hI (Jo h1) ((C3 h2).1 h3) hcl (vO F m P md cR Q f (L.setIfInBounds i true)) (fun a' w' h=>by
   rw[←vz hlt]at h
   refine OM I hb stp fin f _ a' w' (by simpa using hs) (fun j hj k hk=>?_) ?_ h
   ·by_cases e:i=j
    ·subst e;exact RK ((C3 h2).1 h3 k hk)
    ·rw[eZ false e]at hj
     exact RK (hcl j hj k hk)
   have hb1:L[i]=false:=by simpa[hlt]using h1
   have hset:L.setIfInBounds i true=L.set i true hlt:=by simp[Array.setIfInBounds,hlt]
   have h1:0<L.countP (fun b=> !b):=Array.countP_pos_iff.2 ⟨L[i],ja _,by simp[hb1]⟩
   rw[hset,Array.countP_set]
   simp[hb1]
   omega)
  unfold wpOpIn
  rw[h2]
  exact hk
theorem AG{id:Nat}{w:aF}{a:kZ}{l:Nat}(I:(Nat→Bool)→kZ→aF→Prop)(hI:I (fun _=>false) a w.drew)
 (stp:∀d a w i o,cR[i]? =some o→I d a w→d i=false→(∀k∈BX .any cR i,d k=true)→(∀j,d j=true→∀k∈BX .any cR j,d k=true)→∀K:kZ→aF→Prop,(∀a' w',I (fun j=>if j=i then true else d j) a' w'→K a' w')→
  if eT o (wC cR a.tmps)=true then rL dG m P o a w K (mR Q)else(∀f,o.about P w a.eval=some f→Fence.wide.fn f)∧K (a.put o.dst aP) w)
 (fin:∀d a w,I d a w→(∀j,j<cR.size→d j=true)→Q .normal a w)
 (hm:P.follows .mixedOrders=true:=by kernel_rfl)(hd:Bo cR=true:=by kernel_rfl)(hb:vu .any cR=true:=by kernel_rfl):(oF id cR true).wpIn (Fence.wide.inRound l) m P Q a w:=
 Pa (pK hm hd (OM I hb stp (fun d a w h k=>mR.normal (fin d a w h k)) _ _ a _ (by simp) (fun j hj=>by rw[xY]at hj;cases hj) (bE Array.countP_le_size (by simp)) (by
  have:(fun j=>(fY cR.size false).getD j false)=fun _=>false:=by funext j;exact xY _ _
  rw[this];exact hI))) mR.imp
end
theorem I3{F:Kh}{nF:Nat}{P:dP}{w:aF}{o:gL}{a:kZ}{K:kZ→aF→Prop}{Q:yK→kZ→aF→Prop}(s x:qV)(t:eC)
 (ho:o.op=.call {callee:=.builtin .append,args:= #[s,x],argTypes:= #[t,t]})
 (base:Nat)(e:eC)(i:TypeInfo)(z:aS)(size bytes:Nat)(ht:P.underlying t=some (TypeDesc.slice e))(hi:P.info? e=some i)(hz:i.zero=some z)
 (my:i.size=size)(hby:i.bytes=bytes)(hzs:z.cells.size=size)(DM:0<size)
 (v:aS)(n:Nat)(xs:List aS)(hs:a.eval s=v)(hown:w.ownsRow base e size v n xs)
 (ad:cT)(m c:Nat)(DK:List aS)(hx:a.eval x=aB (some ad) m c)(hl:DK.length=m*size)(hnews:∀j u,DK[j]? =some u→w.cell? (ad.add j)=some u)(h1:∀u∈DK,u.oneCell'=true)
 (M8:n+m≤maxLen)(VD:(n+m)*bytes≤140737488355328)(kJ:base≤w.heap.size)
 (h:∀v' w',w'.ownsRow base e size v' (n+m) (xs++DK)→w.grownBy w' v.ownBlock→K (a.put o.dst v') w'):rL F nF P o a w K Q:=by
 obtain⟨v',w',hr,h2,h3,h4,h5⟩:=run_append_own_at (P:=P) w base t o.type e i z size bytes ht hi hz my hby hzs DM v n xs hown ad m c DK hl hnews h1 M8 VD kJ;unfold rL;refine⟨by simp[H9,ho,resolve,Target.leads,vP],?_⟩;rw[lL F _ _ (by rw[ho];intro c hc';cases hc')];simp[vT,ho,resolve,invoke,builtin,hs,hx,hr,Result.andThen];exact h v' w' h2 h3
theorem C4{F:Kh}{nF:Nat}{P:dP}{w w':aF}{o:gL}{a:kZ}{K:kZ→aF→Prop}{Q:yK→kZ→aF→Prop}{v:aS}(he:(vT a.eval o).run P w=.ok (.value v) w')(h:K (a.put o.dst v) w')
 (ak:∀f,o.about P w a.eval=some f→F.fn f:=by(intro f hf;cases hf))(oe:∀c,o.op≠.defer c:=by(intro c h;cases h)):rL F nF P o a w K Q:=by
 unfold rL;refine⟨ak,?_⟩;rw[lL F _ _ oe,he];exact h
theorem Kv{F:Kh}{nF:Nat}{P:dP}{w w':aF}{o:gL}{a:kZ}{K:kZ→aF→Prop}{Q:yK→kZ→aF→Prop}(he:(vT a.eval o).run P w=.ok .skip w')(h:K (a.put o.dst aP) w')
 (ak:∀f,o.about P w a.eval=some f→F.fn f:=by(intro f hf;cases hf))(oe:∀c,o.op≠.defer c:=by(intro c h;cases h)):rL F nF P o a w K Q:=by
 unfold rL;refine⟨ak,?_⟩;rw[lL F _ _ oe,he];exact h
theorem Qp{F:Kh}{nF:Nat}{P:dP}{w:aF}{op:gL}{a:kZ}{K:kZ→aF→Prop}{Q:yK→kZ→aF→Prop}(ty:eC)(b o:Nat)(cs:Array aS){x:qV}{d:TypeDesc}(hc:w.rangeAt b o cs.toList)
 (h:K (a.put op.dst (cN cs)) w)(ho:op.op=.load ty x:=by rfl)(hx:a.eval x=bA (some ⟨b,o,none⟩):=by rfl)(hu:P.underlying ty=some d:=by rfl)(hd:d.isRow=true:=by rfl)(hz:(P.info? ty).map (·.size)=some cs.toList.length:=by kernel_rfl):rL F nF P op a w K Q:=by
 refine⟨fun f hf=>?_,?_⟩
 ·unfold H9 at hf;rw[ho]at hf;cases hf
 ·have e:=Vv (P:=P) w b o ty cs.toList d hc hu hd hz;rw[lL F _ _ (fun c=>by rw[ho];exact fun h=>by cases h)];unfold vT;simp only[ho,hx,wD,e,oH,vP];show K (a.put op.dst _) w;simpa using h
end
section
open Go Go.RowKit Go.Lib
abbrev zX(p s q:Sd):Array aS:= #[aD aE p.x,aD aE p.y,aD aE p.rise,aD aE p.run,aN p.gable,aD aE p.plate,aD aE p.over,aD aE s.x,aD aE s.y,aD aE s.rise,aD aE s.run,aN s.gable,aD aE s.plate,aD aE s.over,aD aE q.x,aD aE q.y,aD aE q.rise,aD aE q.run,aN q.gable,aD aE q.plate,aD aE q.over]
abbrev kg(x y:Int):aS:=cN #[aD aE x,aD aE y]
theorem mA(s:Sd)(w:aF):aW aC 129 #[s.v] w (Rt (kg s.x s.y) w):=by
 obtain⟨x,y,rise,run,gable,plate,over⟩:=s;unfold Sd.v Sd.cells;simp only[];have eW:=zq (((aH _ w).alloc (aG _) (aJ #[aD aE x,aD aE y,aD aE rise,aD aE run,aN gable,aD aE plate,aD aE over] 74)).alloc (by simp) (aJ #[aD aE x,aD aE y] 186));go_enter func129,ntmps129;go_wp2;exact cI (v:=kg x y) (by simp[gR,Tryz.results129,go_sem]) rfl ⟨rfl,eW.out⟩
theorem k14{W W':aF}(hb:Below W.heap.size W W'){B:Nat}{v0 v1 v2 v3 v4 v5 v6 v7 v8 v9 v10 v11 v12 v13:aS}(h:W.cell? ⟨B,7,none⟩=some v0∧W.cell? ⟨B,8,none⟩=some v1∧W.cell? ⟨B,9,none⟩=some v2∧W.cell? ⟨B,10,none⟩=some v3∧W.cell? ⟨B,11,none⟩=some v4∧W.cell? ⟨B,12,none⟩=some v5∧W.cell? ⟨B,13,none⟩=some v6∧W.cell? ⟨B,14,none⟩=some v7∧W.cell? ⟨B,15,none⟩=some v8∧W.cell? ⟨B,16,none⟩=some v9∧W.cell? ⟨B,17,none⟩=some v10∧W.cell? ⟨B,18,none⟩=some v11∧W.cell? ⟨B,19,none⟩=some v12∧W.cell? ⟨B,20,none⟩=some v13):
 W'.cell? ⟨B,7,none⟩=some v0∧W'.cell? ⟨B,8,none⟩=some v1∧W'.cell? ⟨B,9,none⟩=some v2∧W'.cell? ⟨B,10,none⟩=some v3∧W'.cell? ⟨B,11,none⟩=some v4∧W'.cell? ⟨B,12,none⟩=some v5∧W'.cell? ⟨B,13,none⟩=some v6∧W'.cell? ⟨B,14,none⟩=some v7∧W'.cell? ⟨B,15,none⟩=some v8∧W'.cell? ⟨B,16,none⟩=some v9∧W'.cell? ⟨B,17,none⟩=some v10∧W'.cell? ⟨B,18,none⟩=some v11∧W'.cell? ⟨B,19,none⟩=some v12∧W'.cell? ⟨B,20,none⟩=some v13:=⟨cF hb h.1,cF hb h.2.1,cF hb h.2.2.1,cF hb h.2.2.2.1,cF hb h.2.2.2.2.1,cF hb h.2.2.2.2.2.1,cF hb h.2.2.2.2.2.2.1,cF hb h.2.2.2.2.2.2.2.1,cF hb h.2.2.2.2.2.2.2.2.1,cF hb h.2.2.2.2.2.2.2.2.2.1,cF hb h.2.2.2.2.2.2.2.2.2.2.1,cF hb h.2.2.2.2.2.2.2.2.2.2.2.1,cF hb h.2.2.2.2.2.2.2.2.2.2.2.2.1,cF hb h.2.2.2.2.2.2.2.2.2.2.2.2.2⟩
theorem Mm{w W:aF}{c1 c2:Array aS}{T1 T2:eC}(h:(w.alloc (aJ c1 T1)).alloc (aJ c2 T2)=W):bT W w.heap.size c1 T1∧bT W (w.heap.size+1) c2 T2∧Below w.heap.size w W:=by
 subst h;have:=bT.new (w.alloc (aJ c1 T1)) c2 T2;rw[World.size_alloc]at this;exact⟨(bT.new w _ _).alloc _,this,((aH _ _).alloc (aG _) _).alloc (by simp) _⟩
def Sm(n:Int):Prop:= -131072≤n∧n≤131072
theorem wn(a b c d:Int)(w:aF)(h1:Sm a)(h2:Sm b)(h3:Sm c)(h4:Sm d):aW aC 130 #[kg a b,kg c d] w (Rt (kg (c-a) (d-b)) w):=by
 unfold Sm at *;obtain⟨h1,h1'⟩:=h1;obtain⟨h2,h2'⟩:=h2;obtain⟨h3,h3'⟩:=h3;obtain⟨h4,h4'⟩:=h4;have eW:=zq ((((aH _ w).alloc (aG _) (aJ #[aD aE a,aD aE b] 186)).alloc (by simp) (aJ #[aD aE c,aD aE d] 186)).alloc (by simp;omega) (aJ #[aD aE (c-a),aD aE (d-b)] 186));go_enter func130,ntmps130;go_wp2;exact cI (v:=kg (c-a) (d-b)) (by simp[gR,Tryz.results130,go_sem]) rfl ⟨rfl,eW.out⟩
theorem wq{a b:Int}(h1:Sm a)(h2:Sm b): -17179869184≤a*b∧a*b≤17179869184:=by
 unfold Sm at *;have TU:∀x y:Int,0≤x→x≤131072→0≤y→y≤131072→0≤x*y∧x*y≤17179869184:=fun x y k1 k2 k3 k4=>⟨Int.mul_nonneg k1 k3,by have:=Int.mul_le_mul k2 k4 k3 (by decide:(0:Int)≤131072);omega⟩;rcases Int.le_total 0 a with ha|ha<;>rcases Int.le_total 0 b with hb|hb
 ·have:=TU a b ha h1.2 hb h2.2;omega
 ·have:=TU a (-b) ha h1.2 (by omega) (by omega);rw[Int.mul_neg]at this;omega
 ·have:=TU (-a) b (by omega) (by omega) hb h2.2;rw[Int.neg_mul]at this;omega
 ·have:=TU (-a) (-b) (by omega) (by omega) (by omega) (by omega);rw[Int.neg_mul_neg]at this;omega
theorem T7(a b c d:Int)(w:aF)(h1:Sm a)(h2:Sm b)(h3:Sm c)(h4:Sm d):aW aC 131 #[kg a b,kg c d] w (Rt (aD aE (a*d-b*c)) w):=by
 obtain⟨m1,m1'⟩:=wq h1 h4;obtain⟨m2,m2'⟩:=wq h2 h3;clear h1 h2 h3 h4;have eW:=zq (((aH _ w).alloc (aG _) (aJ #[aD aE a,aD aE b] 186)).alloc (by simp) (aJ #[aD aE c,aD aE d] 186));go_enter func131,ntmps131;go_wp2;go_ret;exact⟨rfl,eW.out⟩
theorem Xd(p s q:Sd)(w:aF)(h1:Sm s.x)(h2:Sm s.y)(h3:Sm q.x)(h4:Sm q.y):aW aC 132 #[cN (zX p s q)] w (Rt (kg (q.x-s.x) (q.y-s.y)) w):=by
 have WV:=zq (fun W=>mA s W);have HCq:=zq (fun W=>mA q W);have HTo:=zq (fun W=>wn s.x s.y q.x q.y W h1 h2 h3 h4);obtain⟨p0,p1,p2,p3,p4,p5,p6⟩:=p;obtain⟨s0,s1,s2,s3,s4,s5,s6⟩:=s;obtain⟨q0,q1,q2,q3,q4,q5,q6⟩:=q;unfold zX;unfold Sd.v Sd.cells at WV HCq;simp only[]at WV HCq HTo⊢;clear h1 h2 h3 h4;go_enter func132,ntmps132;go_wp2;obtain⟨W,hW⟩:=nm ((w.alloc (aJ #[aD aE p0,aD aE p1,aD aE p2,aD aE p3,aN p4,aD aE p5,aD aE p6,aD aE s0,aD aE s1,aD aE s2,aD aE s3,aN s4,aD aE s5,aD aE s6,aD aE q0,aD aE q1,aD aE q2,aD aE q3,aN q4,aD aE q5,aD aE q6] 99)).alloc (aJ #[aD aE 0,aD aE 0] 186));obtain⟨hb,hs,hB⟩:=Mm hW;rw[hW];clear hW;have HB:=zq hB;have HS:=zq hs;have c0:=hb.cell 7;have c1:=hb.cell 8;have c2:=hb.cell 9;have c3:=hb.cell 10;have c4:=hb.cell 11;have c5:=hb.cell 12;have c6:=hb.cell 13;have d0:=hb.cell 14;have d1:=hb.cell 15;have d2:=hb.cell 16;have d3:=hb.cell 17;have d4:=hb.cell 18;have d5:=hb.cell 19;have d6:=hb.cell 20;simp only[aL,aI,bM]at c0 c1 c2 c3 c4 c5 c6 d0 d1 d2 d3 d4 d5 d6;have lt:=hb.lt;clear hb hs hB;generalize hBe:w.heap.size=B at *;have HBe:=zq hBe;clear hBe;go_region_held3 (fun w'=>w'.cell? ⟨B,7,none⟩=some (aD aE s0)∧w'.cell? ⟨B,8,none⟩=some (aD aE s1)∧w'.cell? ⟨B,9,none⟩=some (aD aE s2)∧w'.cell? ⟨B,10,none⟩=some (aD aE s3)∧w'.cell? ⟨B,11,none⟩=some (aN s4)∧w'.cell? ⟨B,12,none⟩=some (aD aE s5)∧w'.cell? ⟨B,13,none⟩=some (aD aE s6)∧
  w'.cell? ⟨B,14,none⟩=some (aD aE q0)∧w'.cell? ⟨B,15,none⟩=some (aD aE q1)∧w'.cell? ⟨B,16,none⟩=some (aD aE q2)∧w'.cell? ⟨B,17,none⟩=some (aD aE q3)∧w'.cell? ⟨B,18,none⟩=some (aN q4)∧w'.cell? ⟨B,19,none⟩=some (aD aE q5)∧w'.cell? ⟨B,20,none⟩=some (aD aE q6)) (first |assumption|go_keep)
  (first
   |(go_at_call 129;(with_reducible refine(WV.out _).mono ?_);rintro e W1 ⟨rfl,hb1⟩;have Yh:=k14 hb1 (B:=B) (by first |assumption|(refine⟨?_,?_,?_,?_,?_,?_,?_,?_,?_,?_,?_,?_,?_,?_⟩<;>(simp only[*];done)));have HS:=zq (show bT W1 _ _ _ from(hb1.block _ HS.out.lt).trans HS.out))
   |(go_at_call 129;(with_reducible refine(HCq.out _).mono ?_);rintro e W2 ⟨rfl,hb2⟩;have hk2:=k14 hb2 (B:=B) (by first |assumption|(refine⟨?_,?_,?_,?_,?_,?_,?_,?_,?_,?_,?_,?_,?_,?_⟩<;>(simp only[*];done)));have HS:=zq (show bT W2 _ _ _ from(hb2.block _ HS.out.lt).trans HS.out))
   |(go_at_call 130;(with_reducible refine(HTo.out _).mono ?_);rintro e W3 ⟨rfl,hb3⟩;have hk3:=k14 hb3 (B:=B) (by first |assumption|(refine⟨?_,?_,?_,?_,?_,?_,?_,?_,?_,?_,?_,?_,?_,?_⟩<;>(simp only[*];done)));have HS:=zq (show bT W3 _ _ _ from(hb3.block _ HS.out.lt).trans HS.out);have z0:=HS.out.fz 0;have z1:=HS.out.fz 1;have e0:=HS.out.cell 0;have e1:=HS.out.cell 1;simp only[aL,aI,bM]at e0 e1)
   |fail)
 go_wp2;have hBe:=HBe.out;subst hBe;have hq:=(HS.out.set 0 (aD aE (q0-s0))).set 1 (aD aE (q1-s1));have hc:=aU (aU (aU (aH _ W).drew hb1) hb2) hb3;have gJ:=((HB.out.trans (hc.mono HB.out.size)).setCell (p:=⟨w.heap.size+1,0,none⟩) (Pi _) (aD aE (q0-s0))).setCell (p:=⟨w.heap.size+1,1,none⟩) (Pi _) (aD aE (q1-s1));generalize(W3.setCell ⟨w.heap.size+1,0,none⟩ (aD aE (q0-s0))).setCell ⟨w.heap.size+1,1,none⟩ (aD aE (q1-s1))=V at *;have f0:=hq.cell 0;have f1:=hq.cell 1;simp only[aM,aV,bC,aL,aI,bM]at f0 f1;exact cI (v:=kg (q0-s0) (q1-s1)) (by simp[gR,Tryz.results132,go_sem,f0,f1]) rfl ⟨rfl,gJ⟩
def DS(p s q:Sd):Bool:=decide (0<(s.x-p.x)*(q.y-s.y)-(s.y-p.y)*(q.x-s.x))
def C1(s:Sd):Prop:=0≤s.x∧s.x≤65536∧0≤s.y∧s.y≤65536
theorem C1.x{s:Sd}(h:C1 s):Sm s.x:=by unfold C1 at h;unfold Sm;omega
theorem C1.y{s:Sd}(h:C1 s):Sm s.y:=by unfold C1 at h;unfold Sm;omega
theorem C1.dx{s t:Sd}(h:C1 s)(k:C1 t):Sm (s.x-t.x):=by unfold C1 at h k;unfold Sm;omega
theorem C1.dy{s t:Sd}(h:C1 s)(k:C1 t):Sm (s.y-t.y):=by unfold C1 at h k;unfold Sm;omega
theorem YQ(p s q:Sd)(w:aF)(hp:C1 p)(hs:C1 s)(hq:C1 q):aW aC 54 #[cN (zX p s q)] w (Rt (aN (DS p s q)) w):=by
 have HCp:=zq (fun W=>mA p W);have WV:=zq (fun W=>mA s W);have HTo:=zq (fun W=>wn p.x p.y s.x s.y W hp.x hp.y hs.x hs.y);have HW:=zq (fun W=>Xd p s q W hs.x hs.y hq.x hq.y);have HX:=zq (fun W=>T7 (s.x-p.x) (s.y-p.y) (q.x-s.x) (q.y-s.y) W (hs.dx hp) (hs.dy hp) (hq.dx hs) (hq.dy hs));have E:bH (DS p s q=decide (0<(s.x-p.x)*(q.y-s.y)-(s.y-p.y)*(q.x-s.x))):=rfl;clear hp hs hq;generalize DS p s q=R at *;obtain⟨p0,p1,p2,p3,p4,p5,p6⟩:=p;obtain⟨s0,s1,s2,s3,s4,s5,s6⟩:=s;obtain⟨q0,q1,q2,q3,q4,q5,q6⟩:=q;unfold zX at HW⊢;unfold Sd.v Sd.cells at HCp WV;simp only[]at HCp WV HTo HW HX E⊢;generalize(s0-p0)*(q1-s1)-(s1-p1)*(q0-s0)=X at *;go_enter func54,ntmps54;go_wp2;have hb:=bT.new w #[aD aE p0,aD aE p1,aD aE p2,aD aE p3,aN p4,aD aE p5,aD aE p6,aD aE s0,aD aE s1,aD aE s2,aD aE s3,aN s4,aD aE s5,aD aE s6,aD aE q0,aD aE q1,aD aE q2,aD aE q3,aN q4,aD aE q5,aD aE q6] 99;obtain⟨W,hW⟩:=nm (w.alloc (aJ #[aD aE p0,aD aE p1,aD aE p2,aD aE p3,aN p4,aD aE p5,aD aE p6,aD aE s0,aD aE s1,aD aE s2,aD aE s3,aN s4,aD aE s5,aD aE s6,aD aE q0,aD aE q1,aD aE q2,aD aE q3,aN q4,aD aE q5,aD aE q6] 99));have hB:=(aH _ w).alloc (aG _) (aJ #[aD aE p0,aD aE p1,aD aE p2,aD aE p3,aN p4,aD aE p5,aD aE p6,aD aE s0,aD aE s1,aD aE s2,aD aE s3,aN s4,aD aE s5,aD aE s6,aD aE q0,aD aE q1,aD aE q2,aD aE q3,aN q4,aD aE q5,aD aE q6] 99);rw[hW]at hb hB⊢;clear hW;have HB:=zq hB;clear hB;have lW:=hb.lt;refine xR 12 (fun _=>.quiet) (fun w'=>bT w' w.heap.size #[aD aE p0,aD aE p1,aD aE p2,aD aE p3,aN p4,aD aE p5,aD aE p6,aD aE s0,aD aE s1,aD aE s2,aD aE s3,aN s4,aD aE s5,aD aE s6,aD aE q0,aD aE q1,aD aE q2,aD aE q3,aN q4,aD aE q5,aD aE q6] 99) hb ?_ (st:=fun w1 w2 h hb=>h.below hb lW);clear hb;refine qS 0 rfl (pu ?_);refine qL 1 w.heap.size 0 #[aD aE p0,aD aE p1,aD aE p2,aD aE p3,aN p4,aD aE p5,aD aE p6] (fun _ h=>h.1) rfl (pu ?_);refine qC 2 (fun W _=>HCp.out W) rfl (pu ?_);refine qS 3 rfl (pu ?_);refine qL 4 w.heap.size 7 #[aD aE s0,aD aE s1,aD aE s2,aD aE s3,aN s4,aD aE s5,aD aE s6] (fun _ h=>h.1) rfl (pu ?_);refine qC 5 (fun W _=>WV.out W) rfl (pu ?_);refine qC 6 (fun W _=>HTo.out W) rfl (pu ?_);refine qL 7 w.heap.size 0 #[aD aE p0,aD aE p1,aD aE p2,aD aE p3,aN p4,aD aE p5,aD aE p6,aD aE s0,aD aE s1,aD aE s2,aD aE s3,aN s4,aD aE s5,aD aE s6,aD aE q0,aD aE q1,aD aE q2,aD aE q3,aN q4,aD aE q5,aD aE q6] (fun _ h=>h.1) rfl (pu ?_);refine qC 8 (fun W _=>HW.out W) rfl (pu ?_);refine qC 9 (fun W _=>HX.out W) rfl (pu ?_);refine qS 10 rfl (pu ?_);refine qS 11 rfl (pu ?_);refine qE fun W1 vQ _=>?_;have eW:=zq (aU HB.out vQ.b);clear vQ HB;go_wp2;go_ret;exact⟨by rw[E.out]<;>rfl,eW.out⟩
end
section
open Go Go.RowKit Go.Shelf Go.Lib
section
attribute[local go_sem] dW
theorem lE.range{w:aF}{b o:Nat}{l:List Sd}(h:lE w (some ⟨b,o,none⟩) l){i:Nat}(hi:i<l.length){s:Sd}(hs:l.getD i default=s):w.rangeAt b (o+i*7) s.cells.toList:=by
 obtain⟨b',o',e,c⟩:=h i hi;injection e with e;injection e with e1 e2;subst e1 e2;intro j v hv;rw[hs]at c;have hj:j<7:=(List.getElem?_eq_some_iff.1 hv).1;rw[c j hj];rw[MS,←Array.getElem?_toList,hv];rfl
theorem ON{B:Nat}{w1 w2:aF}{p:cT}{v:aS}(hb:Below B w1 w2)(hlt:p.block<B)(h:w1.cell? p=some v):w2.cell? p=some v:=(hb.cell hlt).trans h
theorem lE.belowB{B:Nat}{w1 w2:aF}{a:Option cT}{l:List Sd}(h:lE w1 a l)(hb:Below B w1 w2)(hlt:∀p,0<l.length→a=some p→p.block<B):lE w2 a l:=fun i hi=>by
 obtain⟨b,off,e,c⟩:=h i hi
 have:=hlt ⟨b,off,none⟩ (by omega) e
 exact⟨b,off,e,fun j hj=>ON hb this (c j hj)⟩
abbrev dt(l:List Sd)(k:Nat):Array aS:=zX (l.getD (pre l.length k) default) (l.getD k default) (jG l k)
abbrev encA(l:List Sd)(k:Nat):Array aS:= #[aD aE k,cN (dt l k)]
theorem du (m:Nat) (Bs:Nat) (a:Option cT) (n cap:Nat) (l:List Sd) (hl:l.length=n) (hn:n≤1000) (w:aF) (hB:w.cell? ⟨Bs,0,none⟩=some (aB a n cap)) (hr:lE w a l) :
 Sk dG m aC 203 #[bA (some ⟨Bs,0,none⟩)] (encA l) (cY (lN Bs a n)) n w:=by
 intro ly J Jx W hW na hY h0;have hB:=cF hW hB;have hr:=hr.below hW;have HL:=zq hl;have HR:=zq hr;have HY:=zq hY;have HJ:=zq na;clear hl hr hW hY na;refine callsIn_of_wp func203 rfl trivial ?_ rfl;simp only [ntmps203,bW,bF,bY,cW,cX,bR,bS,cD,bU,cL,bZ];gi_wp2;gi_loopw [9] (fun i wr=> ∃ k:Nat,k≤n∧i=aD aE k∧J k wr∧cY (lN Bs a n) W wr) (fun i _=> n - (aK i).toNat);case atStart=> exact⟨0,bN _,rfl,h0,cY.refl _ _⟩
 case round=>
  obtain⟨k,hk,rfl,hJ,hS⟩:=hrel;rename aF=> wr;by_cases hlt:k < n
  ·have hbx:=(hS.cell (p:=⟨Bs,0,none⟩) (.inl rfl)).trans hB;have hrr:lE wr a l:=fun i hi=> by
    obtain⟨b,o,e,c⟩:=HR.out i hi;subst e;exact⟨b,o,rfl,fun j hj=> (hS.cell (p:=⟨b,o + i * 7 + j,none⟩) (.inr ⟨by omega,_,rfl,rfl⟩)).trans (c j hj)⟩
   obtain⟨b,o,ak, -⟩:=hrr.at (i:=k) (by rw [HL.out];exact hlt) rfl;subst ak;have HYk:=zq (HY.out k · hlt);have hpk:=zV hlt;have htm:=Mh hlt;have Rv:=Kw k n;have Vz:(k + 1) % n < n:=Nat.mod_lt _ (by omega);have R1:=zq (fun (V:aF) (h:lE V (some ⟨b,o,none⟩) l)=> h.range (i:=pre n k) (by rw [HL.out];exact hpk) rfl);have R2:=zq (fun (V:aF) (h:lE V (some ⟨b,o,none⟩) l)=> h.range (i:=k) (by rw [HL.out];exact hlt) rfl);have R3:=zq (fun (V:aF) (h:lE V (some ⟨b,o,none⟩) l)=> h.range (i:=(k + 1) % n) (s:=jG l k) (by rw [HL.out];exact Vz) (by unfold jG;rw [HL.out]));unfold encA dt at HYk;rw [HL.out] at HYk;generalize l.getD (pre n k) default=p at *;generalize l.getD k default=s at *;generalize jG l k=q at *;generalize pre n k=m1 at *;generalize (k + 1) % n=m2 at *;have w1:IntKind.i64.wrap ((k:Int) + n)=(k:Int) + n:=aX _ (by omega);have w2:IntKind.i64.wrap ((k:Int) + n - 1)=(k:Int) + n - 1:=aX _ (by omega);have w3:IntKind.i64.wrap ((k:Int) + 1)=(k:Int) + 1:=aX _ (by omega);have v1:(m1:Int) < n:=by omega
   have v2:(0:Int)≤(m1:Int):=by omega
   have v3:(m2:Int) < n:=by omega
   have v4:(0:Int)≤(m2:Int):=by omega
   have v5:¬ n=0:=by omega
   have v6:(k:Int) < n:=by omega
   have Ca:=zq hrr;have HLt:bH (∀ k,lN Bs (some ⟨b,o,none⟩) n k→k < wr.heap.size):=by
    rintro k (rfl | ⟨h0,p,e,rfl⟩)
    ·exact bG wr _ hbx
    ·injection e with e;subst e;obtain⟨b',o',e,c⟩:=hrr 0 (by rw [HL.out];exact h0);injection e with e;injection e with e1 e2;subst e1 e2;exact bG wr _ (c 0 (by decide))
   clear hrr;gi_wp2;refine Ep 23 (fun _=> .quiet) (fun w' => w'.cell? ⟨Bs,0,none⟩=some (aB (some ⟨b,o,none⟩) n cap)∧lE w' (some ⟨b,o,none⟩) l) ⟨hbx,Ca.out⟩ ?_ (st:=fun w1 w2 h hb=> ⟨ON hb (HLt.out Bs (.inl rfl)) h.1,h.2.belowB hb fun p h0 e=> HLt.out _ (.inr ⟨by rw [← HL.out];exact h0,p,e,rfl⟩)⟩);refine qS 0 rfl (pu ?_);refine qS 1 rfl (pu ?_);refine qS 2 rfl (pu ?_);refine qS 3 rfl (pu ?_);refine qS 4 rfl (pu ?_);refine qS 5 rfl (pu ?_);refine qS 6 rfl (pu ?_);refine qS 7 rfl (pu ?_);refine qS 8 rfl (pu ?_);refine qS 9 rfl (pu ?_);refine qR 10 b (o + m1 * 7) #[aD aE p.x,aD aE p.y,aD aE p.rise,aD aE p.run,aN p.gable,aD aE p.plate,aD aE p.over] (fun V h=> R1.out V h.1.2) rfl (pu ?_);refine qS 11 rfl (pu ?_);refine qS 12 rfl (pu ?_);refine qS 13 rfl (pu ?_);refine qR 14 b (o + k * 7) #[aD aE s.x,aD aE s.y,aD aE s.rise,aD aE s.run,aN s.gable,aD aE s.plate,aD aE s.over] (fun V h=> R2.out V h.1.2) rfl (pu ?_);refine qS 15 rfl (pu ?_);refine qS 16 rfl (pu ?_);refine qS 17 rfl (pu ?_);refine qS 18 rfl (pu ?_);refine qS 19 rfl (pu ?_);refine qS 20 rfl (pu ?_);refine qR 21 b (o + m2 * 7) #[aD aE q.x,aD aE q.y,aD aE q.rise,aD aE q.run,aN q.gable,aD aE q.plate,aD aE q.over] (fun V h=> R3.out V h.1.2) rfl (pu ?_);refine qS 22 rfl (pu ?_);refine qT fun V hV _=> ?_;obtain⟨fn,tmps,assign,body,hy,hR⟩:=HYk.out V (HJ.out _ _ _ hJ hV.b);refine eI 23 [] rfl (fun K hK=> ?_) aT;rw [ip (by kernel_rfl)];have HVb:=zq (cY.below (ks:=lN Bs (some ⟨b,o,none⟩) n) hV.b HLt.out);go_simp;refine⟨fun h=> by simp [dG] at h,hR.mono ?_⟩;clear hy hR;rintro e W3 (⟨rfl,Ve,hk3⟩ | ⟨rfl,VH⟩)
   ·show K _ _;refine hK _ _ (pu ?_);refine tI 24 rfl (pu ?_);refine eM (by kernel_rfl) ?_ _;refine mR.normal ?_;gi_wp2;go_roundw;case rel=> exact⟨k + 1,by omega,by go_num,Ve,(hS.trans HVb.out).trans hk3⟩
    case measure=> simp only [aK];omega
   ·show K _ _;refine hK _ _ (pu ?_);refine tI 24 rfl (pu ?_);refine eM (by kernel_rfl) ?_ _;refine mR.normal ?_;gi_wp2;refine cI (results_none rfl _ _ _) rfl ?_;exact⟨⟨_,rfl⟩, .inr ⟨k + 1,by omega,VH⟩⟩
  ·obtain rfl:n=k:=by omega
   gi_wp2;go_end0;exact⟨⟨_,rfl⟩, .inl hJ⟩
end
section
attribute[local go_sem] dW
theorem AH(a:Option cT)(n cap:Nat)(w:aF):aW aC 128 #[aB a n cap] w fun e w'=>e=aQ (.func (.func 203) #[] #[bA (some ⟨w.heap.size,0,none⟩)])∧w'=w.alloc (aJ #[aB a n cap] 52):=by
 go_enter func128,ntmps128;go_wp2;go_ret;exact⟨rfl,rfl⟩
theorem pC{B:Nat}{W:aF}{l:Nat}{o o':Obj}(hB:B≤l)(hl:W.heap[l]? =some o):Below B W (W.putObj l o'):=
 (aH B W).grown (grownBy_putObj' W l o') (bE hB (Nat.le_of_lt (Array.getElem?_eq_some_iff.1 hl).1)) (fun k e=>by cases e;exact hB)
abbrev T8:Array aS:= #[aD aE 0,aD aE 0,aD aE 0,aD aE 0,aN false,aD aE 0,aD aE 0,aD aE 0,aD aE 0,aD aE 0,aD aE 0,aN false,aD aE 0,aD aE 0,aD aE 0,aD aE 0,aD aE 0,aD aE 0,aN false,aD aE 0,aD aE 0]
theorem AI{g:qV}{p1 p2:Tmp}{assign body:Code}{Q:yK→kZ→aF→Prop}{a:kZ}{w:aF}(Bs:Nat)(ra:Option cT)(n cap:Nat)(l:List Sd)
 (hg:a.eval g=.func (.func 203) #[] #[bA (some ⟨Bs,0,none⟩)])(hl:l.length=n)(hn:n≤1000)(hB:w.cell? ⟨Bs,0,none⟩=some (aB ra n cap))(hr:lE w ra l)
 (I:Nat→aF→Prop)(Ix:Code→Nat→aF→Prop)(hI:rK w.heap.size I)(Cf:∀c,rK w.heap.size (Ix c))(h0:I 0 w)(A:Nat→Nat→Array aS→kZ)
 (jM:∀(ly k:Nat)(p s t:Sd)(W:aF)(K:kZ→aF→Prop),k<n→K (A k W.heap.size (zX p s t)) (W.alloc (aJ (zX p s t) 99))→
  assign.wpIn (Fence.wide.inRound ly) 7 aC (Exit.then K (fun _ _ _=>False)) {tmps:=(a.tmps.setIfInBounds p1 (aD aE k)).setIfInBounds p2 (cN (zX p s t)),defers:=[]} W)
 (qH:∀(ly k q:Nat)(p s t:Sd)(W:aF),k<n→l.getD (pre n k) default=p→l.getD k default=s→jG l k=t→bT W q (zX p s t) 99→w.heap.size≤q→(∀j,lN Bs ra n j→j<W.heap.size)→I k W→body.wpIn (Fence.wide.inRound ly) 7 aC (pJ w.heap.size (cY (lN Bs ra n)) I Ix (k+1) W) (A k q (zX p s t)) W)
 (oS:∀(D:Nat)(W:aF),w.heap.size≤D→I n W→W.heap[D]? =some (.deferred (some []))→Q .normal {a with defers:={target:=.collected D,args:= #[]}::a.defers} W)
 (qI:∀(D:Nat)(c:Code)(k:Nat)(W:aF),w.heap.size≤D→k≤n→Ix c k W→W.heap[D]? =some (.deferred (some []))→c.wp aC Q {a with defers:={target:=.collected D,args:= #[]}::a.defers} W):
 (Code.rangeFunc g #[p1,p2] assign body).wp aC Q a w:=by
 have hlt:∀k,lN Bs ra n k→k<w.heap.size:=by
  rintro k (rfl|⟨h0,p,e,rfl⟩)
  ·exact bG w _ hB
  ·obtain⟨b,o,e2,c⟩:=hr 0 (by rw[hl];exact h0)
   rw[e]at e2
   injection e2 with e2;subst e2
   exact bG w _ (c 0 (by decide))
 refine KW (gf:=203) hg (enters_of func203 (by kernel_rfl) rfl) (du 8 Bs ra n cap l hl hn w hB hr) cY.trans (cY.putObj hlt) (fun _=>rfl) (fun k W=>I k W∧w.heap.size≤W.heap.size) Ix
  (cU hI (fun s A B lM h hg _=>bE h hg.size)) Cf ⟨h0,aG _⟩
  (fun a' k W=>(∃q,(a'=A k q (dt l k)∧w.heap.size≤q)∧bT W q (dt l k) 99)∧I k W∧w.heap.size≤W.heap.size)
  (fun a'=>cU (Own.from (fun s A B lM hs hg hr=>by obtain⟨q,e,h⟩:=hs;exact⟨q,e,h.own hg hr⟩) _) (cU hI (fun s A B lM h hg _=>bE h hg.size))) ?_ ?_ (fun D W hD hi=>oS D W hD hi.1) qI
 ·intro ly k W K hk hi hK
  have hb:Below W.heap.size W (W.alloc (aJ (dt l k) 99)):=(aH _ _).alloc (aG _) _
  have e:(#[p1,p2].zip (encA l k)).foldl (fun t(p,v)=>t.setIfInBounds p v) a.tmps=(a.tmps.setIfInBounds p1 (aD aE k)).setIfInBounds p2 (cN (dt l k)):=by simp
  rw[e]
  exact jM ly k _ _ _ W K hk (hK _ _ ((iC hb).from _) (cY.below hb fun k h=>bL (hlt k h) hi.2) ⟨⟨_,⟨rfl,hi.2⟩,bT.new _ _ _⟩,hI k _ _ none hi.1 (sK hb) (fun r e=>by cases e),bE hi.2 hb.size⟩)
 ·rintro ly k a' W hk⟨⟨q,⟨rfl,hq⟩,hb⟩,hi,hs⟩
  refine Pa (qH ly k q _ _ _ W hk (by rw[hl]) rfl rfl hb hq (fun j hj=>bL (hlt j hj) hs) hi) ?_
  intro e a3 V h
  cases e with
  |normal=>exact⟨h.1,h.2.1,h.2.2,bE hs h.1.size⟩
  |ret=>exact h
  |exit id=>exact h
  |goto t=>exact h
  |panic ch=>exact h
  |outgrown=>exact h
theorem Xe(l:List Sd)(k:Nat):sA l (k+1)=sA l k+((l.getD k default).x*(jG l k).y-(l.getD k default).y*(jG l k).x):=by
 rw[sA,Int.mul_comm (jG l k).x];omega
theorem pl_area(a:Option cT)(n cap:Nat)(l:List Sd)(w:aF)(hl:l.length=n)(hn:n≤1000)(hC:FE l)(r:lE w a l):
 aW aC 196 #[aB a n cap] w (Rt (aD aE (sA l n)) w):=by
 have fA:=(aH _ w).alloc (aG _) (aJ #[aD aE 0] 3)
 have rG:=bT.new w #[aD aE 0] 3
 obtain⟨W0,eQ⟩:=nm (w.alloc (aJ #[aD aE 0] 3))
 rw[eQ]at fA rG
 have gY:=zq fA
 have tD:=zq rG
 have HR:=zq (r.below fA)
 have HL:=zq hl
 have HC:=zq hC
 have HW:=zq eQ
 have T9:bH (∀p,0<n→a=some p→p.block<w.heap.size):=fun p h0 e=>by
  obtain⟨b,o,e2,c⟩:=r 0 (by rw[hl];exact h0)
  rw[e]at e2;injection e2 with e2;subst e2
  exact bG w _ (c 0 (by decide))
 have Ua:=zq rG.lt
 clear fA rG r hl hC eQ
 refine dE func196 rfl ?_
 simp only[ntmps196,bW,bF,bY,cW,cX,bR,bS,cD,bU,cL,bZ]
 go_upto_region 2 with(fail)
 rw[HW.out]
 clear HW
 go_wp2_with fail
 refine(AH a n cap W0).mono ?_
 rintro e W1⟨rfl,vQ⟩
 have hb1:Below W0.heap.size W0 W1:=by rw[vQ];exact(aH _ _).alloc (aG _) _
 have hq1:bT W1 W0.heap.size #[aB a n cap] 52:=by rw[vQ];exact bT.new _ _ _
 have eW:=zq (aU gY.out hb1)
 have BC:=zq hq1
 have bm:=zq (tD.out.below hb1 tD.out.lt)
 have CP:=zq (HR.out.below hb1)
 clear hb1 hq1 vQ gY tD HR
 have HBs:bH (w.heap.size<W0.heap.size):=Ua
 clear Ua
 generalize W0.heap.size=Bs at *
 go_wp2_with fail
 obtain⟨SB,kh⟩:=nm w.heap.size
 rw[kh]at bm⊢
 have hSW:SB<W1.heap.size:=bm.out.lt
 have J6:∀j,lN Bs a n j→j≠SB:=by
  rintro j (rfl|⟨h0,p,e,rfl⟩)h
  ·have:=HBs.out;omega
  ·have:=T9.out p h0 e;omega
 have HSB:=zq kh
 clear kh
 refine AI Bs a n cap l rfl HL.out hn (BC.out.cell 0) CP.out (fun k W=>bT W SB #[aD aE (sA l k)] 3∧Below w.heap.size w W) (fun _ _ _=>False)
  (cU (Own.from (fun s A B lM hs hg hr=>hs.own hg hr) _) (oA (aG _) eW.out.size)) (fun c _ _ _ _ hs _ _=>hs) ⟨bm.out,eW.out⟩
  (fun k q ar=>{tmps:= #[aB a n cap,aP,aD aE 0,bA (some ⟨SB,0,none⟩),aP,bA (some ⟨q,0,none⟩),aB a n cap,.func (.func 203) #[] #[bA (some ⟨Bs,0,none⟩)],aD aE k,cN ar,aP,aP,aP,aP,aP,aP,aP,aP,aP,aP],defers:=[]})
  (fun ly k p s t W K hk hK=>?_) (fun ly k q p s t W hk hp hs ht hq Yy J7 hI=>?_) (fun D W hD hI hK=>?_) (fun D c k W _ _ h _=>absurd h (fun h=>h))
 ·refine uN T8 (zX p s t) rfl ?_
  show K _ _
  simpa only[dK,aM,aV,bC]using hK
 ·obtain⟨h1,h2⟩:=hI
  have s0:=h1.cell 0
  simp only[aL,aI]at s0
  have H1:=zq h1
  have Hrw:=zq J7
  have Hne:=zq J6
  have H2:=zq h2
  have HK:=zq hk
  have E1:=zq (Xe l k)
  have hb:=Kx HC.out k
  have hb2:=Kx HC.out (k+1)
  have Ub:C1 s:=by rw[←hs];exact HC.out k
  have Xf:C1 t:=by rw[←ht];exact HC.out _
  rw[hs,ht]at E1
  have hX:=zq (fun W=>T7 s.x s.y t.x t.y W Ub.x Ub.y Xf.x Xf.y)
  have Fy:=zq (fun W=>mA s W)
  have Fg:=zq (fun W=>mA t W)
  obtain⟨T2,jl⟩:=nm (sA l (k+1))
  rw[jl]at E1 hb2
  have Vh:=zq jl
  generalize sA l k=T at *
  clear h1 h2 hp J7 J6 hs ht Ub Xf jl
  obtain⟨X,hX1⟩:=nm (s.x*t.y-s.y*t.x)
  rw[hX1]at E1 hX
  have e1:IntKind.i64.wrap (T+X)=T+X:=aX _ (by rw[E1.out]at hb2;omega)
  have HQ:=zq hq
  clear hX1 hq
  gi_wp2
  refine AF 9 (fun _=>.quiet) (fun w'=>w'.cell? ⟨SB,0,none⟩=some (aD aE T)∧bT w' q (zX p s t) 99) ⟨s0,HQ.out⟩ ?_ (st:=fun w1 w2 h hb=>⟨ON hb H1.out.lt h.1,h.2.below hb HQ.out.lt⟩)
  refine qS 0 rfl (pu ?_)
  refine qS 1 rfl (pu ?_)
  refine qL 2 q 7 #[aD aE s.x,aD aE s.y,aD aE s.rise,aD aE s.run,aN s.gable,aD aE s.plate,aD aE s.over] (fun V h=>h.1.2) rfl (pu ?_)
  refine qC 3 (fun W _=>Fy.out W) rfl (pu ?_)
  refine qS 4 rfl (pu ?_)
  refine qL 5 q 14 #[aD aE t.x,aD aE t.y,aD aE t.rise,aD aE t.run,aN t.gable,aD aE t.plate,aD aE t.over] (fun V h=>h.1.2) rfl (pu ?_)
  refine qC 6 (fun W _=>Fg.out W) rfl (pu ?_)
  refine qC 7 (fun W _=>hX.out W) rfl (pu ?_)
  refine qS 8 rfl (pu ?_)
  refine qT fun V hV _=>?_
  have Ae:=hV.b
  have q1:=H1.out.below Ae H1.out.lt
  have d0:=q1.cell 0
  have z0:=q1.fz 0
  simp only[aL,aI]at d0
  have Hq1:=zq q1
  have kj:=zq Ae
  have lV:=q1.lt
  clear s0 hV q1 Ae e1
  refine eI 9 [] rfl (fun K hK=>?_) aT
  rw[ip (by kernel_rfl)]
  go_simp
  refine hK _ _ (pu ?_)
  refine eM (by kernel_rfl) ?_ _
  refine mR.normal ?_
  have q2:=Hq1.out.set 0 (aD aE (T+X))
  simp only[aM,aV]at q2
  rw[←E1.out]at q2⊢
  have HF:=zq (show KeepsFrom W1.heap.size W (V.setCell ⟨SB,0,none⟩ (aD aE T2))from((iC kj.out).trans (cG _ _ _)).from _)
  have HG:=zq ((cY.below (ks:=lN Bs a n) kj.out Hrw.out).trans (cY.setCell (a:=⟨SB,0,none⟩) Hne.out (aD aE T2)))
  gi_wp2
  exact⟨HF.out,HG.out,by rw[Vh.out];exact q2,(aU H2.out kj.out).setCell (p:=⟨SB,0,none⟩) (Aa HSB.out) _⟩
 ·obtain⟨h1,h2⟩:=hI
  have s0:=h1.cell 0
  simp only[aL,aI]at s0
  have H2:=zq h2
  have HK:=zq hK
  have HD:=zq (bE eW.out.size hD)
  clear h1 h2 hK hD
  go_wp2
  refine⟨by simp,.inl ⟨_,_,rfl,fH HK.out,?_⟩⟩
  exact⟨_,iB Tryz.results196 _ _ _,rfl,H2.out.trans (pC HD.out HK.out)⟩
end
section
attribute[local go_sem] dW
theorem ldI{F:Kh}{n:Nat}{P:dP}{cR:Array gL}{rest:List gL}{op:gL}{a:kZ}{w:aF}{Q:yK→kZ→aF→Prop}(ty:eC)(b o:Nat)(cs:Array aS){x:qV}{d:TypeDesc}(hc:w.rangeAt b o cs.toList)
 (h:wpListIn F n P cR Q rest (a.put op.dst (cN cs)) w)(ho:op.op=.load ty x:=by rfl)(hg:op.guard=none:=by rfl)(hx:a.eval x=bA (some ⟨b,o,none⟩):=by rfl)(hu:P.underlying ty=some d:=by rfl)(hd:d.isRow=true:=by rfl)(hz:(P.info? ty).map (·.size)=some cs.toList.length:=by kernel_rfl):wpListIn F n P cR Q (op::rest) a w:=
 Vt hg fun K hK=>by
  refine⟨fun f hf=>?_,?_⟩
  ·unfold H9 at hf
   rw[ho]at hf
   cases hf
  ·have e:=Vv (P:=P) w b o ty cs.toList d hc hu hd hz
   rw[lL F _ _ (fun c=>by rw[ho];exact fun h=>by cases h)]
   unfold vT
   simp only[ho,hx,wD,e,oH,vP]
   show K (a.put op.dst _) w
   exact hK _ _ (by simpa using h)
def crsP(s t:Sd)(x y:Int):Bool:=((t.x-s.x)==0)&&(decide (x<s.x)&&(decide (y<s.y) !=decide (y<t.y)))
theorem wt(u v:Int)(W:aF):Sem.run aC (Instr.field 186 (cN #[aD aE u,aD aE v]) 0) W=.ok (aD aE u) W:=by first |rfl|kernel_rfl
theorem crsP_eq(l:List Sd)(x y:Int)(k:Nat):AJ l x y k=crsP (l.getD k default) (jG l k) x y:=by
 unfold AJ crsP DQ DR;generalize l.getD k default=s;generalize jG l k=t;by_cases h:s.x=t.x
 ·have h1:(s.x==t.x)=true:=by simp[h]
  have h2:(t.x-s.x==0)=true:=by rw[beq_iff_eq];omega
  rw[h1,h2,h];congr 2;by_cases h3:y<s.y<;>by_cases h4:y<t.y<;>simp[h3,h4]<;>split <;>omega
 ·have h1:(s.x==t.x)=false:=by simp[h]
  have h2:(t.x-s.x==0)=false:=by rw[beq_eq_false_iff_ne];omega
  rw[h1,h2];rfl
theorem dv(a:Option cT)(n cap:Nat)(l:List Sd)(x y:Int)(w:aF)(hl:l.length=n)(hn:n≤1000)(hC:FE l)(r:lE w a l):
 aW aC 197 #[aB a n cap,kg x y] w (Rt (aN (NE l x y)) w):=by
 obtain⟨W0,eQ⟩:=nm ((w.alloc (aJ #[aD aE x,aD aE y] 186)).alloc (aJ #[aN false] 4))
 obtain⟨jo,rG,fA⟩:=Mm eQ
 have gY:=zq fA
 have HP0:=zq jo
 have tD:=zq rG
 have HR:=zq (r.below fA)
 have HL:=zq hl
 have HC:=zq hC
 have HW:=zq eQ
 have HE:bH (NE l x y=Cb (AJ l x y) n):=by show _=_;rw[←hl];rfl
 have T9:bH (∀p,0<n→a=some p→p.block<w.heap.size):=fun p h0 e=>by
  obtain⟨b,o,e2,c⟩:=r 0 (by rw[hl];exact h0)
  rw[e]at e2;injection e2 with e2;subst e2
  exact bG w _ (c 0 (by decide))
 have Ua:bH (w.heap.size+1<W0.heap.size):=rG.lt
 clear fA jo rG r hl hC eQ
 refine dE func197 rfl ?_
 simp only[ntmps197,bW,bF,bY,cW,cX,bR,bS,cD,bU,cL,bZ]
 go_upto_region 2 with(fail)
 rw[HW.out]
 clear HW
 go_wp2_with fail
 refine(AH a n cap W0).mono ?_
 rintro e W1⟨rfl,vQ⟩
 have hb1:Below W0.heap.size W0 W1:=by rw[vQ];exact(aH _ _).alloc (aG _) _
 have hq1:bT W1 W0.heap.size #[aB a n cap] 52:=by rw[vQ];exact bT.new _ _ _
 have eW:=zq (aU gY.out hb1)
 have BC:=zq hq1
 have bm:=zq (tD.out.below hb1 tD.out.lt)
 have HPs:=zq (HP0.out.below hb1 HP0.out.lt)
 have CP:=zq (HR.out.below hb1)
 clear hb1 hq1 vQ gY tD HP0 HR
 have HBs:bH (w.heap.size+1<W0.heap.size):=Ua
 clear Ua
 generalize W0.heap.size=Bs at *
 go_wp2_with fail
 obtain⟨SB,kh⟩:=nm (w.heap.size+1)
 obtain⟨PB,hPB⟩:=nm w.heap.size
 rw[hPB]at HPs
 rw[kh]at bm⊢
 rw[hPB]at kh⊢
 have J6:∀j,lN Bs a n j→j≠SB:=by
  rintro j (rfl|⟨h0,p,e,rfl⟩)h
  ·have:=HBs.out;omega
  ·have:=T9.out p h0 e;omega
 have HSB:=zq kh
 have HPB:=zq hPB
 clear kh hPB
 have E0:bH (∀k,Cb (AJ l x y) (k+1)=if crsP (l.getD k default) (jG l k) x y=true then !Cb (AJ l x y) k else Cb (AJ l x y) k):=fun k=>by rw[Cb,crsP_eq]
 refine AI Bs a n cap l rfl HL.out hn (BC.out.cell 0) CP.out (fun k W=>bT W SB #[aN (Cb (AJ l x y) k)] 4∧Below w.heap.size w W∧bT W PB #[aD aE x,aD aE y] 186) (fun _ _ _=>False)
  (cU (Own.from (fun s A B lM hs hg hr=>hs.own hg hr) _) (cU (oA (aG _) eW.out.size) (Own.from (fun s A B lM hs hg hr=>hs.own hg hr) _))) (fun c _ _ _ _ hs _ _=>hs) ⟨bm.out,eW.out,HPs.out⟩
  (fun k q ar=>{tmps:= #[aB a n cap,kg x y,aP,bA (some ⟨PB,0,none⟩),aN false,bA (some ⟨SB,0,none⟩),aP,bA (some ⟨q,0,none⟩),aP,aB a n cap,.func (.func 203) #[] #[bA (some ⟨Bs,0,none⟩)],aD aE k,cN ar,aP,aP,aP,aP,aP,aP,aP,aP,aP,aP,aP,aP,aP,aP,aP,aP,aP,aP,aP,aP,aP,aP,aP,aP,aP,aP,aP,aP,aP,aP,aP],defers:=[]})
  (fun ly k p s t W K hk hK=>?_) (fun ly k q p s t W hk hp hs ht hq Yy J7 hI=>?_) (fun D W hD hI hK=>?_) (fun D c k W _ _ h _=>absurd h (fun h=>h))
 ·refine uN T8 (zX p s t) rfl ?_
  show K _ _
  simpa only[dK,aM,aV,bC]using hK
 ·obtain⟨h1,h2,h3⟩:=hI
  have H1:=zq h1
  have H2:=zq h2
  have H3:=zq h3
  have Hrw:=zq J7
  have Hne:=zq J6
  have E1:=zq (E0.out k)
  have Ub:C1 s:=by rw[←hs];exact HC.out k
  have Xf:C1 t:=by rw[←ht];exact HC.out _
  rw[hs,ht]at E1
  have Fy:=zq (fun W=>mA s W)
  have hwy:=zq (fun W=>Xd p s t W Ub.x Ub.y Xf.x Xf.y)
  obtain⟨B2,gJ⟩:=nm (Cb (AJ l x y) (k+1))
  rw[gJ]at E1
  have fR:=zq gJ
  have Sx:=Ub.x
  have Tx:=Xf.x
  generalize Cb (AJ l x y) k=B1 at *
  have HQ:=zq hq
  clear h1 h2 h3 hp J7 J6 hs ht Ub Xf gJ hq HC E0 Sx Tx
  gi_wp2_with (refine ldI 74 q 7 #[aD aE s.x,aD aE s.y,aD aE s.rise,aD aE s.run,aN s.gable,aD aE s.plate,aD aE s.over] (HQ.out.range 7 7 rfl) ?_)
  refine⟨trivial,(Calls.round (Fy.out _) _ _).mono ?_⟩
  rintro e V1⟨rfl,hb1⟩
  have kj:=zq hb1
  have jw:=bT.new V1 #[aD aE s.x,aD aE s.y] 186
  obtain⟨V2,hVe⟩:=nm (V1.alloc (aJ #[aD aE s.x,aD aE s.y] 186))
  rw[hVe]at jw
  have hb2:Below V1.heap.size V1 V2:=by rw[←hVe];exact(aH _ _).alloc (aG _) _
  have Ry:=zq jw
  have YN:=zq (aU kj.out hb2)
  have Hve:=zq hVe
  have DO:=zq (HQ.out.below YN.out HQ.out.lt)
  clear hb1 jw hb2 hVe kj HQ
  gi_upto_region 5 with(fail)
  rw[Hve.out]
  clear Hve
  generalize V1.heap.size=VB at *
  gi_wp2_with (refine ldI 99 q 0 (zX p s t) (DO.out.range 0 21 rfl) ?_)
  refine⟨trivial,(Calls.round (hwy.out _) _ _).mono ?_⟩
  rintro e V3⟨rfl,hb3⟩
  have Hb3:=zq (aU YN.out hb3)
  have g:=Ry.out.below hb3 Ry.out.lt
  have g0:=g.cell 0
  have g1:=g.cell 1
  have h3:=H3.out.below Hb3.out H3.out.lt
  have p0:=h3.cell 0
  have p1:=h3.cell 1
  have h1:=H1.out.below Hb3.out H1.out.lt
  have s0:=h1.cell 0
  have z0:=h1.fz 0
  have wu:=DO.out.below hb3 DO.out.lt
  have t1:=wu.cell 15
  simp only[aL,aI,bM]at g0 g1 p0 p1 s0 t1
  have H1':=zq h1
  have H3':=zq h3
  have ls:=h1.lt
  clear hb3 g h3 h1 wu Ry DO YN H1 H3
  have HF:=zq ((iC Hb3.out).from W1.heap.size)
  have HG:=zq (cY.below (ks:=lN Bs a n) Hb3.out Hrw.out)
  have E9:=zq (aU H2.out Hb3.out)
  have hx:bH (((t.x-s.x)=0)=False∧B2=B1∨(t.x-s.x)=0∧(x<s.x)=False∧B2=B1∨(t.x-s.x)=0∧x<s.x∧(y<s.y)=False∧(y<t.y)=False∧B2=B1∨(t.x-s.x)=0∧x<s.x∧y<s.y∧y<t.y∧B2=B1∨
   (t.x-s.x)=0∧x<s.x∧y<s.y∧(y<t.y)=False∧B2= !B1∨(t.x-s.x)=0∧x<s.x∧(y<s.y)=False∧y<t.y∧B2= !B1):=by
   show _∨_
   rw[E1.out]
   unfold crsP
   by_cases c1:t.x-s.x=0<;>by_cases c2:x<s.x<;>by_cases c3:y<s.y<;>by_cases c4:y<t.y<;>simp[c1,c2,c3,c4]
  clear E1
  have Ig:=wt
  rcases hx.out with⟨c1,rfl⟩|⟨c1,c2,rfl⟩|⟨c1,c2,c3,c4,rfl⟩|⟨c1,c2,c3,c4,rfl⟩|⟨c1,c2,c3,c4,rfl⟩|⟨c1,c2,c3,c4,rfl⟩
  all_goals
   clear hx
   gi_wp2
   first
    |exact⟨HF.out,HG.out,by rw[fR.out];exact H1'.out,E9.out,H3'.out⟩
    |(exact⟨HF.out.trans ((cG _ _ _).from _),HG.out.trans (cY.setCell (a:=⟨SB,0,none⟩) Hne.out _),by rw[fR.out];exact H1'.out.set 0 _,E9.out.setCell (p:=⟨SB,0,none⟩) (by show w.heap.size≤SB;rw[←HSB.out,←HPB.out];exact Pi _) _,H3'.out.other _ (by show PB≠SB;rw[←HSB.out];exact Nat.ne_of_lt (Nat.lt_succ_self _))⟩)
    |(trace_state;fail)
 ·obtain⟨h1,h2,h3⟩:=hI
  have s0:=h1.cell 0
  simp only[aL,aI]at s0
  have H2:=zq h2
  have HK:=zq hK
  have HD:=zq (bE eW.out.size hD)
  have E:=zq HE.out
  clear h1 h2 h3 hK hD
  go_wp2
  refine⟨by simp,.inl ⟨_,_,rfl,fH HK.out,?_⟩⟩
  exact⟨_,iB Tryz.results197 _ _ _,by rw[E.out]<;>rfl,H2.out.trans (pC HD.out HK.out)⟩
end
section
attribute[local go_sem] dW
def badQ(p s t:Sd):Bool:=((t.x-s.x==0)==(t.y-s.y==0))||((s.x-p.x==0)==(t.x-s.x==0))
def C6(l:List Sd)(k:Nat):Bool:=badQ (l.getD (pre l.length k) default) (l.getD k default) (jG l k)
theorem vH(n:Int):uZ n=0↔n=0:=by
 unfold uZ;split
 ·omega
 ·split <;>omega
theorem nV{F:Kh}{n:Nat}{P:dP}{fn:Func}{R:Ending→aF→Prop}{a:kZ}{w:aF}{v:aS}(h:(gR fn a.tmps).run P w=.ok v w)(hd:a.defers=[])(hR:R (aQ v) w):bodyPostM F n P fn R .ret a w:=by
 show iy _ _ _ _ _ _ _ _ _;rw[hd];exact⟨v,h,hR⟩
theorem postD{F:Kh}{n:Nat}{P:dP}{fn:Func}{R:Ending→aF→Prop}{a:kZ}{w w2:aF}{v:aS}{D:Nat}(hd:a.defers=[{target:=.collected D,args:= #[]}])(hD:(Instr.takeDeferred D).run P w=.ok [] w2)(h:(gR fn a.tmps).run P w2=.ok v w2)(hR:R (aQ v) w2):bodyPostM F n P fn R .ret a w:=by
 show iy _ _ _ _ _ _ _ _ _;rw[hd];exact⟨by simp,.inl ⟨_,_,rfl,hD,_,h,hR⟩⟩
theorem C7(W:aF):(isAgg 4).run aC W=.ok false W:=by first |rfl|kernel_rfl
theorem rU{W:aF}{b:Nat}{x y:aS}{T:eC}(h:bT W b #[x,y] T):W.cell? ⟨b,0,none⟩=some x∧W.cell? ⟨b,1,none⟩=some y∧W.frozen? ⟨b,0,none⟩=false∧W.frozen? ⟨b,1,none⟩=false∧b<W.heap.size:=⟨h.cell 0,h.cell 1,h.fz 0,h.fz 1,h.lt⟩
theorem Xh(a:Option cT)(n cap:Nat)(l:List Sd)(w:aF)(hl:l.length=n)(hn:n≤1000)(hC:FE l)(r:lE w a l):
 aW aC 121 #[aB a n cap] w (Rt (aN (decide (4≤n)&& !anyN (C6 l) n)) w):=by
 obtain⟨W0,eQ⟩:=nm (w.alloc (aJ #[aN false] 4))
 have fA:=(aH _ w).alloc (aG _) (aJ #[aN false] 4)
 have rG:=bT.new w #[aN false] 4
 rw[eQ]at fA rG
 have gY:=zq fA
 have tD:=zq rG
 have HR:=zq (r.below fA)
 have HL:=zq hl
 have HC:=zq hC
 have HW:=zq eQ
 have T9:bH (∀p,0<n→a=some p→p.block<w.heap.size):=fun p h0 e=>by
  obtain⟨b,o,e2,c⟩:=r 0 (by rw[hl];exact h0)
  rw[e]at e2;injection e2 with e2;subst e2
  exact bG w _ (c 0 (by decide))
 have Ua:bH (w.heap.size<W0.heap.size):=rG.lt
 clear fA rG r hl hC eQ
 refine dE func121 rfl ?_
 simp only[ntmps121,bW,bF,bY,cW,cX,bR,bS,cD,bU,cL,bZ]
 go_upto_region 1 with(fail)
 rw[HW.out]
 clear HW
 have q0:=tD.out.cell 0
 have z0:=tD.out.fz 0
 have l0:=tD.out.lt
 simp only[aL,aI]at q0
 by_cases h4:n<4
 ·have q2:=tD.out.set 0 (aN false)
  have gJ:=gY.out.setCell (p:=⟨w.heap.size,0,none⟩) (aG _) (aN false)
  simp only[aM,aV]at q2
  have SN:=zq q2
  have fR:=zq gJ
  have E:bH ((decide (4≤n)&& !anyN (C6 l) n)=false):=by show _=_;rw[decide_eq_false (by omega)];rfl
  clear q2 gJ
  go_wp2
  exact nV (iD rfl _ _ w.heap.size (aN false) rfl (SN.out.cell 0) (C7 _)) rfl ⟨by rw[E.out],fR.out⟩
 go_wp2_with fail
 refine(AH a n cap W0).mono ?_
 rintro e W1⟨rfl,vQ⟩
 have hb1:Below W0.heap.size W0 W1:=by rw[vQ];exact(aH _ _).alloc (aG _) _
 have hq1:bT W1 W0.heap.size #[aB a n cap] 52:=by rw[vQ];exact bT.new _ _ _
 have eW:=zq (aU gY.out hb1)
 have BC:=zq hq1
 have bm:=zq (tD.out.below hb1 tD.out.lt)
 have CP:=zq (HR.out.below hb1)
 clear hb1 hq1 vQ gY tD HR q0 z0 l0
 have HBs:bH (w.heap.size<W0.heap.size):=Ua
 clear Ua
 generalize W0.heap.size=Bs at *
 go_wp2_with fail
 obtain⟨RB,hRB⟩:=nm w.heap.size
 rw[hRB]at bm⊢
 have J6:∀j,lN Bs a n j→j≠RB:=by
  rintro j (rfl|⟨h0,p,e,rfl⟩)h
  ·have:=HBs.out;omega
  ·have:=T9.out p h0 e;omega
 have S6:=zq hRB
 clear hRB
 have E0:bH (∀k,anyN (C6 l) (k+1)=(anyN (C6 l) k||badQ (l.getD (pre l.length k) default) (l.getD k default) (jG l k))):=fun k=>rfl
 rw[HL.out]at E0
 refine AI Bs a n cap l rfl HL.out hn (BC.out.cell 0) CP.out (fun k W=>bT W RB #[aN false] 4∧Below w.heap.size w W∧anyN (C6 l) k=false) (fun c _ W=>c=.ret∧bT W RB #[aN false] 4∧Below w.heap.size w W∧anyN (C6 l) n=true)
  (cU (Own.from (fun s A B lM hs hg hr=>hs.own hg hr) _) (cU (oA (aG _) eW.out.size) (fun _ _ _ _ h _ _=>h)))
  (fun c=>cU (fun _ _ _ _ h _ _=>h) (cU (Own.from (fun s A B lM hs hg hr=>hs.own hg hr) _) (cU (oA (aG _) eW.out.size) (fun _ _ _ _ h _ _=>h)))) ⟨bm.out,eW.out,rfl⟩
  (fun k q ar=>{tmps:= #[aB a n cap,aP,bA (some ⟨RB,0,none⟩),aP,bA (some ⟨q,0,none⟩),aP,aP,aB a n cap,aD aE n,aN (decide ((n:Int)<4)),aB a n cap,.func (.func 203) #[] #[bA (some ⟨Bs,0,none⟩)],aD aE k,cN ar,aP,aP,aP,aP,aP,aP,aP,aP,aP,aP,aP,aP,aP,aP,aP,aP,aP,aP,aP,aP,aP,aP,aP,aP,aP],defers:=[]})
  (fun ly k p s t W K hk hK=>?_) (fun ly k q p s t W hk hp hs ht hq Yy J7 hI=>?_) (fun D W hD hI hK=>?_) (fun D c k W hD hk hI hK=>?_)
 ·refine uN T8 (zX p s t) rfl ?_
  show K _ _
  simpa only[dK,aM,aV,bC]using hK
 ·obtain⟨h1,h2,h3⟩:=hI
  have H1:=zq h1
  have H2:=zq h2
  have H3:=zq h3
  have Hrw:=zq J7
  have Hne:=zq J6
  have HK:=zq hk
  have E1:=zq (E0.out k)
  have C1p:C1 p:=by rw[←hp];exact HC.out _
  have Ub:C1 s:=by rw[←hs];exact HC.out k
  have Xf:C1 t:=by rw[←ht];exact HC.out _
  rw[hp,hs,ht,h3,oP]at E1
  have hcp:=zq (fun W=>mA p W)
  have Fy:=zq (fun W=>mA s W)
  have hto:=zq (fun W=>wn p.x p.y s.x s.y W C1p.x C1p.y Ub.x Ub.y)
  have hwy:=zq (fun W=>Xd p s t W Ub.x Ub.y Xf.x Xf.y)
  have HQ:=zq hq
  have HRW:bH (RB≠W.heap.size∧RB<W.heap.size):=⟨Nat.ne_of_lt h1.lt,h1.lt⟩
  clear h1 h2 h3 hp J7 J6 hs ht C1p Ub Xf hq hk
  gi_wp2
  refine AF 12 (fun |9=>.alloc #[aD aE 0,aD aE 0] 186|10=>.alloc #[aD aE 0,aD aE 0] 186|11=>.store|_=>.quiet) (fun w'=>bT w' q (zX p s t) 99) HQ.out ?_ (st:=fun w1 w2 h hb=>h.below hb HQ.out.lt)
  refine qS 0 rfl (pu ?_)
  refine qL 1 q 0 #[aD aE p.x,aD aE p.y,aD aE p.rise,aD aE p.run,aN p.gable,aD aE p.plate,aD aE p.over] (fun V h=>h.1) rfl (pu ?_)
  refine qC 2 (fun W _=>hcp.out W) rfl (pu ?_)
  refine qS 3 rfl (pu ?_)
  refine qL 4 q 7 #[aD aE s.x,aD aE s.y,aD aE s.rise,aD aE s.run,aN s.gable,aD aE s.plate,aD aE s.over] (fun V h=>h.1) rfl (pu ?_)
  refine qC 5 (fun W _=>Fy.out W) rfl (pu ?_)
  refine qC 6 (fun W _=>hto.out W) rfl (pu ?_)
  refine qL 7 q 0 (zX p s t) (fun V h=>h.1) rfl (pu ?_)
  refine qC 8 (fun W _=>hwy.out W) rfl (pu ?_)
  refine qA 9 [9,10] #[aD aE 0,aD aE 0] 186 rfl (fun g5 uw hn5=>pu ?_) (hal:=fun j hj=>by simp at hj;rcases hj with rfl|rfl<;>exact⟨_,_,rfl,by decide⟩)
  refine qA 10 [10] #[aD aE 0,aD aE 0] 186 rfl (fun g6 hg6 hn6=>pu ?_) (hal:=fun j hj=>by simp at hj;rcases hj with rfl;exact⟨_,_,rfl,by decide⟩)
  have jC:g5≠g6:=fun e=>by subst e;unfold Ck at hn6;rw[ip rfl]at hn6;cases hn6
  refine qW 11 g5 #[aD aE (s.x-p.x),aD aE (s.y-p.y)] #[aD aE 0,aD aE 0] 186 rfl (by unfold Ck;rw[iN jC,ip rfl]) uw ?_ TV
  refine qT fun V hV hG=>?_
  have b5:bT V g5 #[aD aE (s.x-p.x),aD aE (s.y-p.y)] 186:=hG g5 _ _ (by unfold Ck;rw[ip rfl])
  have b6:bT V g6 #[aD aE 0,aD aE 0] 186:=hG g6 _ _ (by unfold Ck;rw[iN (Ne.symm jC),ip rfl])
  have Ae:=hV.b
  obtain⟨e0,e1,z0,z1,l6⟩:=rU b6
  have B6:=zq b6
  have B5:=zq b5
  have kj:=zq Ae
  have Hg6:=zq hg6
  have Hg5:=zq uw
  have dw:=zq jC
  clear b5 b6 Ae hV hG hg6 uw hn5 hn6 jC hcp Fy hto hwy
  refine eI 12 [] rfl (fun K hK=>?_) aT
  rw[ip (by kernel_rfl)]
  go_simp
  refine hK _ _ (pu ?_)
  refine eM (by kernel_rfl) ?_ _
  refine mR.normal ?_
  have q6:=(B6.out.set 0 (aD aE (t.x-s.x))).set 1 (aD aE (t.y-s.y))
  simp only[aM,aV,bC]at q6
  have q5:=(B5.out.other (a:=⟨g6,0,none⟩) (aD aE (t.x-s.x)) dw.out).other (a:=⟨g6,1,none⟩) (aD aE (t.y-s.y)) dw.out
  have hb2:=(kj.out.setCell (p:=⟨g6,0,none⟩) Hg6.out (aD aE (t.x-s.x))).setCell (p:=⟨g6,1,none⟩) Hg6.out (aD aE (t.y-s.y))
  clear hK e0 e1 z0 z1 l6 B6 B5 kj
  generalize(V.setCell ⟨g6,0,none⟩ (aD aE (t.x-s.x))).setCell ⟨g6,1,none⟩ (aD aE (t.y-s.y))=V2 at *
  obtain⟨u0,u1,-,-,l5⟩:=rU q5
  obtain⟨v0,v1,-,-,l6⟩:=rU q6
  have h1:=H1.out.below hb2 HRW.out.2
  have r0:=h1.cell 0
  have rz:=h1.fz 0
  simp only[aL,aI]at r0
  have YN:=zq hb2
  have H1':=zq h1
  have lr:=h1.lt
  clear q5 q6 hb2 h1 H1 HQ Hg5 Hg6 dw HRW
  have HF:=zq ((iC YN.out).from W1.heap.size)
  have HG:=zq (cY.below (ks:=lN Bs a n) YN.out Hrw.out)
  have E9:=zq (aU H2.out YN.out)
  have Oy:=zq (HF.out.trans ((cG V2 ⟨RB,0,none⟩ (aN false)).from _))
  have q7:=H1'.out.set 0 (aN false)
  simp only[aM,aV]at q7
  have HQ7:=zq q7
  have Ku:=zq (E9.out.setCell (p:=⟨RB,0,none⟩) (by show w.heap.size≤RB;exact Aa S6.out) (aN false))
  clear q7
  have hx:bH (∀b,anyN (C6 l) (k+1)=b→b=false∧anyN (C6 l) (k+1)=false∨b=true∧anyN (C6 l) n=true):=fun b hb=>by
   cases b
   ·exact .inl ⟨rfl,hb⟩
   ·obtain⟨j,h1,h2⟩:=eJ.1 hb
    exact .inr ⟨rfl,eJ.2 ⟨j,by have:=HK.out;omega,h2⟩⟩
  have hy:=zq (hx.out _ E1.out)
  clear hx E1
  unfold badQ at hy
  obtain⟨c1,h1⟩:=nm (t.x-s.x==0)
  obtain⟨c2,h2⟩:=nm (t.y-s.y==0)
  obtain⟨c3,h3⟩:=nm (s.x-p.x==0)
  rw[h1,h2,h3]at hy
  cases c1<;>cases c2<;>cases c3
  all_goals
   have hb:=hy.out
   simp at hb
   clear hy
   have Hb:=zq hb
   clear hb
   gi_wp2
   first
    |exact⟨HF.out,HG.out,H1'.out,E9.out,Hb.out⟩
    |exact⟨Oy.out,rfl,HQ7.out,Ku.out,Hb.out⟩
    |(trace_state;fail)
 ·obtain⟨h1,h2,h3⟩:=hI
  have r0:=h1.cell 0
  have rz:=h1.fz 0
  have lr:=h1.lt
  simp only[aL,aI]at r0
  have HK:=zq (((cG W ⟨RB,0,none⟩ (aN true)).same D _ hK rfl))
  have q7:=h1.set 0 (aN true)
  simp only[aM,aV]at q7
  have HQ7:=zq q7
  have Ku:=zq (h2.setCell (p:=⟨RB,0,none⟩) (by show w.heap.size≤RB;exact Aa S6.out) (aN true))
  have HD:=zq (bE eW.out.size hD)
  have E:bH ((decide (4≤n)&& !anyN (C6 l) n)=true):=by show _=_;rw[decide_eq_true (by omega),h3];rfl
  clear h1 h2 h3 hK hD q7
  go_wp2
  exact postD rfl (fH HK.out) (iD rfl _ _ RB (aN true) rfl ((HQ7.out.putObj _ HK.out rfl).cell 0) (C7 _)) ⟨by rw[E.out],Ku.out.trans (pC HD.out HK.out)⟩
 ·obtain⟨rfl,h1,h2,h3⟩:=hI
  have E:bH ((decide (4≤n)&& !anyN (C6 l) n)=false):=by show _=_;rw[h3,Bool.not_true,Bool.and_false]
  have HD:=zq (bE eW.out.size hD)
  go_wp2
  exact postD rfl (fH hK) (iD rfl _ _ RB (aN false) rfl ((h1.putObj _ hK rfl).cell 0) (C7 _)) ⟨by rw[E.out],h2.trans (pC HD.out hK)⟩
theorem pm_one(x y:Int):(uZ x*uZ x+uZ y*uZ y=1)↔((x==0)==(y==0))=false:=by
 have h1:=pO x;have h2:=pO y;have z1:=vH x;have z2:=vH y;have e1:(x==0)=decide (uZ x=0):=BH (by omega);have e2:(y==0)=decide (uZ y=0):=BH (by omega);rw[e1,e2];generalize uZ x=u at *;generalize uZ y=v at *;obtain rfl|rfl|rfl:u= -1∨u=0∨u=1:=by omega
 all_goals obtain rfl|rfl|rfl:v= -1∨v=0∨v=1:=by omega
 all_goals decide
theorem trn_one{a b c d:Int}(h1:((a==0)==(b==0))=false)(h2:((c==0)==(d==0))=false):uZ a*uZ d-uZ b*uZ c=0↔((a==0)==(c==0))=true:=by
 have k1:=pO a;have k2:=pO b;have k3:=pO c;have k4:=pO d;rw[BH (p:=uZ a=0) (by have:=vH a;omega),BH (p:=uZ b=0) (by have:=vH b;omega)]at h1;rw[BH (p:=uZ c=0) (by have:=vH c;omega),BH (p:=uZ d=0) (by have:=vH d;omega)]at h2;rw[BH (a:=a) (p:=uZ a=0) (by have:=vH a;omega),BH (a:=c) (p:=uZ c=0) (by have:=vH c;omega)];generalize uZ a=u at *;generalize uZ b=v at *;generalize uZ c=x at *;generalize uZ d=y at *;obtain rfl|rfl|rfl:u= -1∨u=0∨u=1:=by omega
 all_goals obtain rfl|rfl|rfl:v= -1∨v=0∨v=1:=by omega
 all_goals first |(exfalso;revert h1;decide)|skip
 all_goals obtain rfl|rfl|rfl:x= -1∨x=0∨x=1:=by omega
 all_goals obtain rfl|rfl|rfl:y= -1∨y=0∨y=1:=by omega
 all_goals first |(exfalso;revert h2;decide)|decide
theorem AK{l:List Sd}{k:Nat}(hk:k<l.length):jG l (pre l.length k)=l.getD k default:=by
 unfold jG pre;congr 1;rcases Nat.eq_zero_or_pos k with h|h
 ·subst h;rw[dZ,fE (by omega:l.length-1<l.length),show l.length-1+1=l.length by omega,Nat.mod_self]
 ·rw[show k+l.length-1=(k-1)+l.length by omega,Nat.add_mod_right,fE (by omega:k-1<l.length),show k-1+1=k by omega,fE hk]
theorem shp_eq(l:List Sd):uO l=(decide (4≤l.length)&& !anyN (C6 l) l.length):=by
 unfold uO;rw[Bool.and_comm];congr 2;have TU:(∀k,k<l.length→xS l k=false)↔(∀k,k<l.length→C6 l k=false):=by
  have a1:∀k,(FG l k*FG l k+dY l k*dY l k=1)↔(((jG l k).x-(l.getD k default).x==0)==((jG l k).y-(l.getD k default).y==0))=false:=fun k=>pm_one _ _;have a2:∀k,k<l.length→(((l.getD k default).x-(l.getD (pre l.length k) default).x==0)==((l.getD k default).y-(l.getD (pre l.length k) default).y==0))=false→(((jG l k).x-(l.getD k default).x==0)==((jG l k).y-(l.getD k default).y==0))=false→
   (Vn l k=0↔(((l.getD k default).x-(l.getD (pre l.length k) default).x==0)==((jG l k).x-(l.getD k default).x==0))=true):=fun k hk h1 h2=>by
   have:=trn_one h1 h2;unfold Vn FG dY;rw[AK hk];exact this
  constructor
  ·intro h k hk;have b1:=h k hk;have b2:=h _ (zV hk);unfold xS at b1 b2;simp only[dO,Bool.not_eq_false',decide_eq_true_eq,decide_eq_false_iff_not]at b1 b2;have c1:=(a1 k).1 b1.1;have c2:=(a1 _).1 b2.1;rw[AK hk]at c2;unfold C6 badQ;rw[c1,oP];cases e:(((l.getD k default).x-(l.getD (pre l.length k) default).x==0)==((jG l k).x-(l.getD k default).x==0))
   ·rfl
   ·exact absurd ((a2 k hk c2 c1).2 e) b1.2
  ·intro h k hk;have b1:=h k hk;have b2:=h _ (zV hk);unfold C6 badQ at b1 b2;rw[dO]at b1 b2;have c2:=b2.1;rw[AK hk]at c2;unfold xS;rw[decide_eq_true ((a1 k).2 b1.1),decide_eq_false (fun e=>by have:=(a2 k hk c2 b1.1).1 e;rw[b1.2]at this;cases this)];rfl
 rw[Bool.eq_iff_iff];have n1:= @dC (xS l) l.length;have n2:= @dC (C6 l) l.length;cases e1:anyN (xS l) l.length<;>cases e2:anyN (C6 l) l.length
 ·simp
 ·rw[n2.2 (TU.1 (n1.1 e1))]at e2;cases e2
 ·rw[n1.2 (TU.2 (n2.1 e2))]at e1;cases e1
 ·simp
theorem dz(a:Option cT)(n cap:Nat)(l:List Sd)(w:aF)(hl:l.length=n)(hn:n≤1000)(hC:FE l)(r:lE w a l):
 aW aC 121 #[aB a n cap] w (Rt (aN (uO l)) w):=by
 rw[shp_eq,hl];exact Xh a n cap l w hl hn hC r
end
end
section
open Go Go.RowKit Go.Lib
theorem Fh(n f t:Int)(w:aF):aW aC 192 #[aD aE n,aD aE f,aD aE t] w fun e w'=>e=aQ (aN (!outI n f t))∧w=w':=by
 have E:bH ((!outI n f t)=(decide (f≤n)&&decide (n≤t))):=by
  show _=_;unfold outI;rw[Bool.not_or,←decide_not,←decide_not];congr 1<;>(congr 1;simp[Int.not_lt])
 generalize(!outI n f t)=R at *;by_cases h:f≤n
 ·rw[decide_eq_true h,kN]at E;have h':n≥f:=h;go_enter func192,ntmps192;go_wp2;go_ret;exact⟨by rw[E.out]<;>rfl,rfl⟩
 ·rw[decide_eq_false h,mH]at E;have h':(f≤n)=False:=eq_false h;go_enter func192,ntmps192;go_wp2;go_ret;exact⟨by rw[E.out]<;>rfl,rfl⟩
def Xi(x y p o:Int)(k:Nat):Bool:=outI ([x,y,p,o].getD k 0) 0 65536
theorem ee(s:Sd)(w:aF):aW aC 118 #[s.v] w (Rt (aN (yJ s)) w):=by
 obtain⟨x,y,rise,run,gable,plate,over⟩:=s;have E:bH (yJ ⟨x,y,rise,run,gable,plate,over⟩=(!(anyN (Xi x y plate over) 4)&&(if gable=true then(rise==0)&&(run==0)else !outI rise 1 48&& !outI run 1 48))):=by
  show _=_;unfold yJ anyN anyN anyN anyN anyN Xi;simp only[List.getD_cons_zero,List.getD_cons_succ,oP,Bool.or_assoc]
 have H5:=zq (fun W=>Fh rise 1 48 W);have H6:=zq (fun W=>Fh run 1 48 W);have HO:=zq (fun k W=>Fh ([x,y,plate,over].getD k 0) 0 65536 W);have EK:bH (∀k,Xi x y plate over k=outI ([x,y,plate,over].getD k 0) 0 65536):=fun k=>rfl;have Vl:bH (∀k,k<4→Xi x y plate over k=true→anyN (Xi x y plate over) 4=true):=fun k hk h=>eJ.2 ⟨k,hk,h⟩;generalize yJ ⟨x,y,rise,run,gable,plate,over⟩=R at *;obtain⟨A,hA⟩:=nm (anyN (Xi x y plate over) 4);rw[hA]at E;generalize outI rise 1 48=b5 at *;generalize outI run 1 48=b6 at *;have HB:=zq ((aH _ w).alloc (aG _) (aJ #[aD aE x,aD aE y,aD aE rise,aD aE run,aN gable,aD aE plate,aD aE over] 74));have hq:=bT.new w #[aD aE x,aD aE y,aD aE rise,aD aE run,aN gable,aD aE plate,aD aE over] 74;obtain⟨W0,eQ⟩:=nm (w.alloc (aJ #[aD aE x,aD aE y,aD aE rise,aD aE run,aN gable,aD aE plate,aD aE over] 74));rw[eQ]at HB hq;have HW:=zq eQ;have HQ:=zq hq;have hx:bH ((gable=true∧((rise==0)=false∧R=false∨rise=0∧(run==0)=false∧R=false)∨gable=false∧(b5=true∧R=false∨b5=false∧b6=true∧R=false))∨(gable=true∧rise=0∧run=0∨gable=false∧b5=false∧b6=false)∧R= !A):=by
  show _∨_;rw[E.out];cases A<;>cases gable<;>cases b5<;>cases b6<;>by_cases h:rise=0<;>by_cases h2:run=0<;>simp[h,h2]
 have HA:=zq hA;clear E eQ hq hA;unfold Sd.v Sd.cells;simp only[];refine dE func118 rfl ?_;simp only[ntmps118,bW,bF,bY,cW,cX,bR,bS,cD,bU,cL,bZ];go_upto_region 1 with(fail)
 rw[HW.out];clear HW;obtain⟨s0,s1,s2,s3,s4,s5,s6⟩:=BY HQ.out;rcases hx.out with(⟨rfl,(⟨h,rfl⟩|⟨rfl,h,rfl⟩)⟩|⟨rfl,(⟨rfl,rfl⟩|⟨rfl,rfl,rfl⟩)⟩)|⟨(⟨rfl,rfl,rfl⟩|⟨rfl,rfl,rfl⟩),rfl⟩;all_goals clear hx
 iterate 4
  ·go_wp2_with (first
    |((with_reducible refine(H5.out _).mono ?_);rintro e w1 ⟨rfl,rfl⟩)
    |((with_reducible refine(H6.out _).mono ?_);rintro e w1 ⟨rfl,rfl⟩)
    |fail)
   exact nV (iB MU _ _ _) rfl ⟨rfl,HB.out⟩
 all_goals
  go_wp2_with (first
   |((with_reducible refine(H5.out _).mono ?_);rintro e w1 ⟨rfl,rfl⟩)
   |((with_reducible refine(H6.out _).mono ?_);rintro e w1 ⟨rfl,rfl⟩)
   |fail)
  have HN:=zq (HB.out.alloc HB.out.size (aJ #[aD aE x,aD aE y,aD aE plate,aD aE over] 3));have hv:=bT.new W0 #[aD aE x,aD aE y,aD aE plate,aD aE over] 3;obtain⟨W1,vQ⟩:=nm (W0.alloc (aJ #[aD aE x,aD aE y,aD aE plate,aD aE over] 3));rw[vQ]at HN hv⊢;generalize W0.heap.size=VB at *;have Hc:bH (∀k,k<4→W1.cell? ⟨VB,k,none⟩=some (aD aE ([x,y,plate,over].getD k 0))):=fun k hk=>by
   obtain rfl|rfl|rfl|rfl:k=0∨k=1∨k=2∨k=3:=by omega
   all_goals exact hv.cell _
  clear vQ hv HB HQ s0 s1 s2 s3 s4 s5 s6 H5 H6;go_loopw[35] (fun i wr=>∃k:Nat,i=aD aE k∧k≤4∧wr=W1∧bH (anyN (Xi x y plate over) k=false)) (fun i _=>4-(aK i).toNat);case atStart=>exact⟨0,rfl,by omega,rfl,rfl⟩
  case round=>
   obtain⟨k,rfl,hk,rfl,HP⟩:=hrel;by_cases hlt:k<4
   ·have ck:=Hc.out k hlt;have HOk:=zq (HO.out k);have e:=zq (EK.out k);obtain⟨v,hv⟩:=nm ([x,y,plate,over].getD k 0);rw[hv]at ck HOk e;cases ho:outI v 0 65536
    ·rw[ho]at e HOk;have hs:=zq (gO HP.out e.out);clear Hc;go_wp2_with (first
      |((with_reducible refine(HOk.out _).mono ?_);rintro e w1 ⟨rfl,rfl⟩)
      |fail)
     go_roundw;case rel=>exact⟨k+1,by go_num,by omega,by simp,hs.out⟩
     case measure=>simp only[aK];omega
    ·rw[ho]at e HOk;have hs:=zq (Vl.out k hlt e.out);rw[HA.out]at hs;clear Hc;go_wp2_with (first
      |((with_reducible refine(HOk.out _).mono ?_);rintro e w1 ⟨rfl,rfl⟩)
      |fail)
     exact nV (iB MU _ _ _) rfl ⟨by rw[hs.out]<;>rfl,HN.out⟩
   ·obtain rfl:k=4:=by omega
    have e:=HP.out;rw[HA.out]at e;go_wp2;exact nV (iB MU _ _ _) rfl ⟨by rw[e]<;>rfl,HN.out⟩
theorem ef(s:Sd)(w:aF):aW aC 117 #[s.v] w (Rt (aN (!yJ s)) w):=by
 have HB:=zq ((aH _ w).alloc (aG _) (aJ s.cells 74));have hq:=bT.new w s.cells 74;obtain⟨W0,eQ⟩:=nm (w.alloc (aJ s.cells 74));rw[eQ]at HB hq;have HW:=zq eQ;have HQ:=zq hq;have HR:=zq (ee s W0);clear eQ hq;obtain⟨x,y,rise,run,gable,plate,over⟩:=s;generalize yJ ⟨x,y,rise,run,gable,plate,over⟩=B at *;unfold Sd.v Sd.cells at *;simp only[]at *;refine dE func117 rfl ?_;simp only[ntmps117,bW,bF,bY,cW,cX,bR,bS,cD,bU,cL,bZ];go_upto_region 1 with(fail)
 rw[HW.out];clear HW;obtain⟨s0,s1,s2,s3,s4,s5,s6⟩:=BY HQ.out;go_wp2_with fail
 refine HR.out.mono ?_;rintro e W⟨rfl,hb⟩;have hb:=zq (aU HB.out hb);go_wp2;exact nV (iB Tryz.results117 _ _ _) rfl ⟨rfl,hb.out⟩
def bxV(a b c d:Int):aS:=cN #[aD aE a,aD aE b,aD aE c,aD aE d]
theorem four{W:aF}{b:Nat}{u0 u1 u2 u3:aS}{T:eC}(h:bT W b #[u0,u1,u2,u3] T):W.cell? ⟨b,0,none⟩=some u0∧W.cell? ⟨b,1,none⟩=some u1∧W.cell? ⟨b,2,none⟩=some u2∧W.cell? ⟨b,3,none⟩=some u3:=⟨h.cell 0,h.cell 1,h.cell 2,h.cell 3⟩
theorem Ky{w W0:aF}{cs ds:Array aS}{T1 T2:eC}(h:(w.alloc (aJ cs T1)).alloc (aJ ds T2)=W0):bT W0 w.heap.size cs T1∧bT W0 (w.heap.size+1) ds T2∧Below w.heap.size w W0:=Mm h
theorem wv(a b c d p q r s:Int)(w:aF):aW aC 195 #[bxV a b c d,bxV p q r s] w fun e w'=>
 e=aQ (aN (decide (a≤r)&&(decide (p≤c)&&(decide (b≤s)&&decide (q≤d)))))∧Below w.heap.size w w':=by
 obtain⟨W0,eQ⟩:=nm ((w.alloc (aJ #[aD aE a,aD aE b,aD aE c,aD aE d] 246)).alloc (aJ #[aD aE p,aD aE q,aD aE r,aD aE s] 246));obtain⟨h1,h2,h3⟩:=Ky eQ;have HB:=zq h3;obtain⟨s0,s1,s2,s3⟩:=four h1;obtain⟨r0,r1,r2,r3⟩:=four h2;have HW:=zq eQ;obtain⟨T,hT⟩:=nm (decide (a≤r)&&(decide (p≤c)&&(decide (b≤s)&&decide (q≤d))));rw[hT];have hx:bH ((a≤r)=False∧T=false∨a≤r∧(p≤c)=False∧T=false∨a≤r∧p≤c∧(b≤s)=False∧T=false∨a≤r∧p≤c∧b≤s∧T=decide (q≤d)):=by
  rw[←hT];show _∨_;by_cases h1:a≤r<;>by_cases h2:p≤c<;>by_cases h3:b≤s<;>simp only[h1,h2,h3,decide_true,decide_false,kN,mH,true_and,false_and,and_true,and_false,or_true,or_false,false_or,true_or,eq_self_iff_true,not_true,not_false_eq_true]
 clear hT h1 h2 h3 eQ;unfold bxV;refine dE func195 rfl ?_;simp only[ntmps195,bW,bF,bY,cW,cX,bR,bS,cD,bU,cL,bZ];go_upto_region 1 with(fail)
 rw[HW.out];clear HW;rcases hx.out with⟨h1,rfl⟩|⟨h1,h2,rfl⟩|⟨h1,h2,h3,rfl⟩|⟨h1,h2,h3,rfl⟩;all_goals
  clear hx;go_wp2;exact nV (iB Tryz.results195 _ _ _) rfl ⟨rfl,HB.out⟩
theorem agg_box(W:aF):(isAgg 246).run aC W=.ok true W:=by first |rfl|kernel_rfl
theorem ww(W:aF):(sizeOf 246).run aC W=.ok 4 W:=by first |rfl|kernel_rfl
theorem I7{P:dP}{fn:Func}{p:Tmp}{ty T:eC}(h:fn.results= #[.cell p ty])(tmps:Array aS)(w:aF)(g:Nat)(x y z u:aS)
 (hp:tmps.getD p aP=bA (some ⟨g,0,none⟩))(hb:bT w g #[x,y,z,u] T)(ha:∀w,(isAgg ty).run P w=.ok true w)(hs:∀w,(sizeOf ty).run P w=.ok 4 w):
 (gR fn tmps).run P w=.ok (cN #[x,y,z,u]) w:=by
 have RY:tmps[p]?.getD aP=bA (some ⟨g,0,none⟩):=by simpa using hp
 have c0:=hb.cell 0;have c1:=hb.cell 1;have c2:=hb.cell 2;have c3:=hb.cell 3;simp only[aL,aI,bM]at c0 c1 c2 c3;simp[gR,h,go_sem,RY,c0,c1,c2,c3,ha,hs]
theorem bT.set4{W:aF}{b:Nat}{x y z o:aS}{T:eC}(h:bT W b #[x,y,z,o] T)(u v r q:aS):bT ((((W.setCell ⟨b,0,none⟩ u).setCell ⟨b,1,none⟩ v).setCell ⟨b,2,none⟩ r).setCell ⟨b,3,none⟩ q) b #[u,v,r,q] T:=(((h.set 0 u).set 1 v).set 2 r).set 3 q
theorem Xj{B:Nat}{w W:aF}(h:Below B w W){c:Nat}(hc:B≤c)(u v r q:aS):Below B w ((((W.setCell ⟨c,0,none⟩ u).setCell ⟨c,1,none⟩ v).setCell ⟨c,2,none⟩ r).setCell ⟨c,3,none⟩ q):=
 (((h.setCell (p:=⟨c,0,none⟩) hc u).setCell (p:=⟨c,1,none⟩) hc v).setCell (p:=⟨c,2,none⟩) hc r).setCell (p:=⟨c,3,none⟩) hc q
theorem wx(p s t:Sd)(w:aF):aW aC 194 #[cN (zX p s t)] w fun e w'=>
 e=aQ (bxV (DQ s.x t.x) (DQ s.y t.y) (DR s.x t.x) (DR s.y t.y))∧Below w.heap.size w w':=by
 obtain⟨W0,eQ⟩:=nm ((w.alloc (aJ (zX p s t) 99)).alloc (aJ #[aD aE 0,aD aE 0,aD aE 0,aD aE 0] 246));obtain⟨h1,h2,h3⟩:=Ky eQ;have HB:=zq h3;have H1:=zq h1;have H2:=zq h2;have HW:=zq eQ;have Fy:=zq (fun W=>mA s W);have Fg:=zq (fun W=>mA t W);clear h1 h2 h3 eQ;refine dE func194 rfl ?_;simp only[ntmps194,bW,bF,bY,cW,cX,bR,bS,cD,bU,cL,bZ];go_upto_region 1 with(fail)
 rw[HW.out];clear HW;obtain⟨Q,hQ⟩:=nm w.heap.size;have HRW:bH (Q+1<W0.heap.size):=by rw[←hQ];exact H2.out.lt
 have HQe:=zq hQ;rw[hQ]at H1 H2;have E1:w.heap.size+1=Q+1:=by rw[hQ]
 rw[hQ]at⊢;refine xR 9 (fun |6=>.alloc #[aD aE 0,aD aE 0] 186|7=>.alloc #[aD aE 0,aD aE 0] 186|8=>.store|_=>.quiet) (fun w'=>bT w' Q (zX p s t) 99) H1.out ?_ (st:=fun w1 w2 h hb=>h.below hb H1.out.lt);refine qS 0 rfl (pu ?_);refine qL 1 Q 7 #[aD aE s.x,aD aE s.y,aD aE s.rise,aD aE s.run,aN s.gable,aD aE s.plate,aD aE s.over] (fun V h=>h.1) rfl (pu ?_);refine qC 2 (fun W _=>Fy.out W) rfl (pu ?_);refine qS 3 rfl (pu ?_);refine qL 4 Q 14 #[aD aE t.x,aD aE t.y,aD aE t.rise,aD aE t.run,aN t.gable,aD aE t.plate,aD aE t.over] (fun V h=>h.1) rfl (pu ?_);refine qC 5 (fun W _=>Fg.out W) rfl (pu ?_);refine qA 6 [6,7] #[aD aE 0,aD aE 0] 186 rfl (fun g5 uw hn5=>pu ?_) (hal:=fun j hj=>by simp at hj;rcases hj with rfl|rfl<;>exact⟨_,_,rfl,by decide⟩);refine qA 7 [7] #[aD aE 0,aD aE 0] 186 rfl (fun g6 hg6 hn6=>pu ?_) (hal:=fun j hj=>by simp at hj;rcases hj with rfl;exact⟨_,_,rfl,by decide⟩);have jC:g5≠g6:=fun e=>by subst e;unfold Ck at hn6;rw[ip rfl]at hn6;cases hn6
 refine qW 8 g5 #[aD aE s.x,aD aE s.y] #[aD aE 0,aD aE 0] 186 rfl (by unfold Ck;rw[iN jC,ip rfl]) uw ?_ TV;refine qT fun V hV hG=>?_;have b5:bT V g5 #[aD aE s.x,aD aE s.y] 186:=hG g5 _ _ (by unfold Ck;rw[ip rfl]);have b6:bT V g6 #[aD aE 0,aD aE 0] 186:=hG g6 _ _ (by unfold Ck;rw[iN (Ne.symm jC),ip rfl]);have Ae:=hV.b;obtain⟨e0,e1,z0,z1,l6⟩:=rU b6;have B6:=zq b6;have B5:=zq b5;have kj:=zq Ae;have Hg6:=zq hg6;have Hg5:=zq uw;have dw:=zq jC;clear b5 b6 Ae hV hG hg6 uw hn5 hn6 jC Fy Fg;refine eI 9 [] rfl (fun K hK=>?_) aT;rw[ip (by kernel_rfl)];go_simp;refine hK _ _ (pu ?_);refine eM (by kernel_rfl) ?_ _;refine mR.normal ?_;have q6:=(B6.out.set 0 (aD aE t.x)).set 1 (aD aE t.y);simp only[aM,aV,bC]at q6;have q5:=(B5.out.other (a:=⟨g6,0,none⟩) (aD aE t.x) dw.out).other (a:=⟨g6,1,none⟩) (aD aE t.y) dw.out;have hb2:=(kj.out.setCell (p:=⟨g6,0,none⟩) Hg6.out (aD aE t.x)).setCell (p:=⟨g6,1,none⟩) Hg6.out (aD aE t.y);clear hK e0 e1 z0 z1 l6 B6 B5 kj;generalize(V.setCell ⟨g6,0,none⟩ (aD aE t.x)).setCell ⟨g6,1,none⟩ (aD aE t.y)=V2 at *;obtain⟨u0,u1,-,-,l5⟩:=rU q5;obtain⟨v0,v1,-,-,l6⟩:=rU q6;have h2:=H2.out.below hb2 HRW.out;have lr:=h2.lt;have y0:=h2.fz 0;have y1:=h2.fz 1;have y2:=h2.fz 2;have y3:=h2.fz 3;obtain⟨w0,w1,w2,w3⟩:=four h2;have H2':=zq h2;have YN:=zq (aU HB.out hb2);obtain⟨A1,we⟩:∃x,(if t.x<s.x then t.x else s.x)=x:=⟨_,rfl⟩;obtain⟨A2,hA2⟩:∃x,(if s.x<t.x then t.x else s.x)=x:=⟨_,rfl⟩;obtain⟨A3,hA3⟩:∃x,(if t.y<s.y then t.y else s.y)=x:=⟨_,rfl⟩;obtain⟨A4,hA4⟩:∃x,(if s.y<t.y then t.y else s.y)=x:=⟨_,rfl⟩;have mA1:=imin_if we;have mA2:=imax_if hA2;have mA3:=imin_if hA3;have mA4:=imax_if hA4;clear h2 hb2 H1 H2 q5 q6;go_wp2;refine nV (v:=bxV A1 A3 A2 A4) (I7 rfl _ _ (Q+1) _ _ _ _ rfl (bT.set4 H2'.out _ _ _ _) agg_box ww) rfl ⟨?_,Xj YN.out (by rw[←HQe.out];exact Pi _) _ _ _ _⟩;unfold DQ DR;rw[we,hA2,hA3,hA4]
def RD(r n:Nat):List (Nat×Nat):=(vN n).map fun i=>(r,i)
def BK(f:Nat→List Sd):Nat→List (Nat×Nat)
 |0=>[]
 |n+1=>BK f n++RD n (f n).length
theorem Uc(r n:Nat):RD r (n+1)=RD r n++[(r,n)]:=by unfold RD;rw[List.range_succ,List.map_append];rfl
theorem Qs(r n:Nat):(RD r n).length=n:=by simp[RD]
theorem Dy(f:Nat→List Sd):∀n,(BK f n).length=dA f n
 |0=>rfl
 |n+1=>by rw[BK,List.length_append,Dy f n,Qs];rfl
def prLt(p q:Nat×Nat):Prop:=p.1<q.1∨p.1=q.1∧p.2<q.2
theorem GP{f:Nat→List Sd}{p:Nat×Nat}:∀{n:Nat},p∈BK f n→p.1<n∧p.2<(f p.1).length
 |n+1,h=>by
  rcases List.mem_append.1 h with h|h
  ·have:=GP h;exact⟨by omega,this.2⟩
  ·obtain⟨i,hi,rfl⟩:=List.mem_map.1 h
   exact⟨Nat.lt_succ_self _,List.mem_range.1 hi⟩
theorem Mo(f:Nat→List Sd):∀n,(BK f n).Pairwise prLt
 |0=>jc
 |n+1=>by
  refine List.pairwise_append.2 ⟨Mo f n,?_,fun a ha b hb=>?_⟩
  ·unfold RD
   refine List.pairwise_map.2 (List.pairwise_lt_range.imp fun h=>.inr ⟨rfl,h⟩)
  ·obtain⟨i,hi,rfl⟩:=List.mem_map.1 hb
   exact .inl (GP ha).1
theorem prA_lt{f:Nat→List Sd}{n k i:Nat}(hk:k<i)(hi:i<dA f n):prLt ((BK f n).getD k default) ((BK f n).getD i default):=by
 have hl:=Dy f n;have:=List.pairwise_iff_getElem.1 (Mo f n) k i (by omega) (by omega) hk;rw[aO,aO,eO (by omega),eO (by omega)];exact this
def bxC(f:Nat→List Sd)(p:Nat×Nat):List aS:=[aD aE (DQ ((f p.1).getD p.2 default).x (jG (f p.1) p.2).x),aD aE (DQ ((f p.1).getD p.2 default).y (jG (f p.1) p.2).y),aD aE (DR ((f p.1).getD p.2 default).x (jG (f p.1) p.2).x),aD aE (DR ((f p.1).getD p.2 default).y (jG (f p.1) p.2).y)]
def plC(p:Nat×Nat):List aS:=[aD aE p.1,aD aE p.2]
def xc(f:Nat→List Sd)(l:List (Nat×Nat)):List aS:=l.flatMap (bxC f)
def pls(l:List (Nat×Nat)):List aS:=l.flatMap plC
theorem bxs_app(f:Nat→List Sd)(l m:List (Nat×Nat)):xc f (l++m)=xc f l++xc f m:=by simp[xc]
theorem pls_app(l m:List (Nat×Nat)):pls (l++m)=pls l++pls m:=by simp[pls]
theorem Qt{g:Nat×Nat→List aS}{z:Nat}(hz:∀p,(g p).length=z):∀(l:List (Nat×Nat))(i j:Nat),i<l.length→j<z→(l.flatMap g)[i*z+j]? =(g (l.getD i default))[j]?
 |[],i,_,h,_=>by simp at h
 |q::qs,0,j,_,hj=>by
  rw[ml,oC,dZ,List.getElem?_append_left (by rw[hz];exact hj)];rfl
 |q::qs,i+1,j,h,hj=>by
  rw[ml,List.getElem?_append_right (by rw[hz,Nat.succ_mul];omega),hz,show(i+1)*z+j-z=i*z+j by rw[Nat.succ_mul];omega]
  exact Qt hz qs i j (by simpa using h) hj
def mtB(f:Nat→List Sd)(p q:Nat×Nat):Bool:=
 decide (DQ ((f p.1).getD p.2 default).x (jG (f p.1) p.2).x≤DR ((f q.1).getD q.2 default).x (jG (f q.1) q.2).x)&&(decide (DQ ((f q.1).getD q.2 default).x (jG (f q.1) q.2).x≤DR ((f p.1).getD p.2 default).x (jG (f p.1) p.2).x)&&
  (decide (DQ ((f p.1).getD p.2 default).y (jG (f p.1) p.2).y≤DR ((f q.1).getD q.2 default).y (jG (f q.1) q.2).y)&&decide (DQ ((f q.1).getD q.2 default).y (jG (f q.1) q.2).y≤DR ((f p.1).getD p.2 default).y (jG (f p.1) p.2).y)))
def nbI(r s:Nat)(i k n:Int):Bool:=decide (r=s)&&(decide (i-k=1)||decide (i-k=n-1))
theorem crs_law{f:Nat→List Sd}{N i k:Nat}(h:I4 f N=false)(hk:k<i)(hi:i<dA f N):
 nbI ((BK f N).getD i default).1 ((BK f N).getD k default).1 ((BK f N).getD i default).2 ((BK f N).getD k default).2 (f ((BK f N).getD i default).1).length=false→mtB f ((BK f N).getD i default) ((BK f N).getD k default)=false:=by
 have hl:=Dy f N;have hlt:=prA_lt hk hi;have h1:=GP (eB (xs:=BK f N) (i:=i) (by omega) default);have h2:=GP (eB (xs:=BK f N) (i:=k) (by omega) default);generalize(BK f N).getD i default=p at *;generalize(BK f N).getD k default=q at *;intro hn;cases hm:mtB f p q with
 |false=>rfl
 |true=>
  have h4:ND f q.1 q.2 p.1 p.2=true:=by
   have ht:T5 (f q.1) q.2 (f p.1) p.2=true:=by
    unfold T5 touI;unfold mtB at hm;simp only[bK,decide_eq_true_eq]at hm⊢;exact⟨hm.2.1,hm.1,hm.2.2.2,hm.2.2.1⟩
   unfold ND;rw[ht,Bool.and_true];unfold adjB;unfold nbI at hn;unfold prLt at hlt;rw[iH];simp only[Bool.and_eq_false_iff,dO,decide_eq_false_iff_not]at hn⊢;rcases hn with hn|⟨yB,Ab⟩
   ·exact .inl fun e=>hn e.symm
   ·by_cases e:q.1=p.1
    ·right;rw[←e]at h1 Ab;exact⟨by omega,by omega,by omega⟩
    ·exact .inl e
  have:=YP h2.1 h2.2 h1.1 (by unfold prLt at hlt;omega) h1.2 h4;rw[h]at this;cases this
def pbL(f:Nat→List Sd)(r s:Nat):Bool:= !(decide (s=r)||decide (r=0))&&(NE (f s) ((f r).getD 0 default).x ((f r).getD 0 default).y !=decide (s=0))
def pbR(f:Nat→List Sd)(N r:Nat):Bool:=(decide (0<sA (f r) (f r).length) !=decide (r=0))||anyN (pbL f r) N
def Ud(f:Nat→List Sd)(N:Nat):Bool:= !anyN (pbR f N) N
theorem ppl_of{f:Nat→List Sd}{N:Nat}(h:C8 f N=true):Ud f N=true:=by
 unfold C8 at h;simp only[bK,iH,decide_eq_false_iff_not]at h;obtain⟨h1,h2⟩:=h;have h2:=dC.1 h2;unfold Ud;rw[dC.2 ?_]
 ·rfl
 intro r hr;have h3:=h2 r hr;by_cases h0:r=0
 ·subst h0;unfold pbR;rw[decide_eq_true (show 0<sA (f 0) (f 0).length by omega),dC.2]
  ·rfl
  intro s _;unfold pbL;simp
 ·rw[decide_eq_true (show 1≤r by omega),kN]at h3;unfold GN at h3;rw[dO]at h3;have h4:=of_decide_eq_false h3.1;unfold pbR;rw[decide_eq_false (show¬0<sA (f r) (f r).length by omega),decide_eq_false h0,dC.2]
  ·rfl
  intro s hs;have h5:=dC.1 h3.2 s hs;unfold JF at h5;unfold pbL;rw[decide_eq_false h0,Bool.or_false];exact h5
theorem em (a:Option cT) (N cap:Nat) (rs:List Rg) (w:aF) (hl:rs.length=N) (hN:N≤1000) (hn:∀ r,(bQ rs r).length≤1000) (hp:∀ r,r < N→0 < (bQ rs r).length) (hC:∀ r,FE (bQ rs r)) (rr:GL w a rs) :
    aW aC 123 #[aB a N cap] w (Rt (aN (Ud (bQ rs) N)) w):=by
  have HT:=zq (fun r (_:r < N) W (hW:Below w.heap.size w W)=> pl_area (rs.getD r default).a (bQ rs r).length (rs.getD r default).cap (bQ rs r) W rfl (hn r) (hC r) ((rr.below hW).at (i:=r) (by omega) rfl).choose_spec.choose_spec.2.2)
  have HI:=zq (fun r (_:r < N) x y W (hW:Below w.heap.size w W)=> dv (rs.getD r default).a (bQ rs r).length (rs.getD r default).cap (bQ rs r) x y W rfl (hn r) (hC r) ((rr.below hW).at (i:=r) (by omega) rfl).choose_spec.choose_spec.2.2)
  have HR:=zq rr
  have HL:=zq hl
  have HP:=zq hp
  have X2:bH (∀ r,r < N→pbR (bQ rs) N r=true→Ud (bQ rs) N=false):=fun r h2 h=> by unfold Ud;rw [eJ.2 ⟨r,h2,h⟩];rfl
  have X3:bH (anyN (pbR (bQ rs) N) N=false→Ud (bQ rs) N=true):=fun h=> by unfold Ud;rw [h];rfl
  have sz:=zq (fun s W=> mA s W)
  clear hl rr hp hn hC
  generalize Ud (bQ rs) N=R at *
  refine dE func123 rfl ?_
  simp only [ntmps123,bW,bF,bY,cW,cX,bR,bS,cD,bU,cL,bZ]
  go_wp2
  go_loopw [9] (fun i wr=> ∃ r:Nat,i=aD aE r∧r≤N∧bH (anyN (pbR (bQ rs) N) r=false)∧bH (Below w.heap.size w wr)) (fun i _=> N - (aK i).toNat)
  case atStart=> exact⟨0,rfl,bN _,rfl,aH _ w⟩
  case round=>
    obtain⟨r,rfl,hr,HA,HD⟩:=hrel
    rename aF=> wr
    by_cases hrN:r < N
    · obtain⟨b,o,rfl,c0,Ml⟩:=(HR.out.below HD.out).at (i:=r) (by rw [HL.out];exact hrN) rfl
      have Ou:=zq (HT.out r hrN wr HD.out)
      have hpr:0 < (rs.getD r default).ss.length:=HP.out r hrN
      have hpn:=HP.out r hrN
      have Ca:=zq Ml
      have E:bH (pbR (bQ rs) N r=((decide (0 < sA (bQ rs r) (bQ rs r).length) !=decide (r=0)) || anyN (pbL (bQ rs) r) N)):=rfl
      have X2r:=zq (X2.out r hrN)
      have X4:=zq (fun h:pbR (bQ rs) N r=false=> gO HA.out h)
      rw [show(rs.getD r default).ss.length=(bQ rs r).length from rfl] at c0
      clear Ml
      generalize (bQ rs r).length=n at *
      generalize (rs.getD r default).a=ar at *
      generalize (rs.getD r default).cap=cr at *
      generalize sA (bQ rs r) n=T at *
      have wh:(r:Int) < N:=by omega
      have hz:((r:Int)==0)=decide (r=0):=BH (by omega)
      go_wp2_with fail
      refine Ou.out.mono ?_
      rintro e W2 ⟨rfl,hd⟩
      have IK:=zq (aU HD.out hd)
      have Ca:=zq (Ca.out.below hd)
      clear hd Ou c0
      obtain⟨Z0,hZ0⟩:=nm (decide (r=0))
      obtain⟨T0,hT0⟩:=nm (decide (0 < T))
      have hT1:decide (T > 0)=T0:=hT0
      rw [hZ0] at hz
      rw [hZ0,hT0] at E
      by_cases h1:(T0 !=Z0)=true
      · have e1:=zq (X2r.out (by rw [E.out,h1];rfl))
        clear E hZ0 hT0
        cases T0 <;> cases Z0 <;> first | (exfalso;revert h1;decide) | skip
        all_goals
          clear h1
          go_wp2
          exact nV (iB MV _ _ _) rfl ⟨by rw [e1.out] <;> rfl,IK.out⟩
      · have h1:(T0 !=Z0)=false:=by simpa using h1
        rw [h1,oP] at E
        obtain rfl:T0=Z0:=by cases T0 <;> cases Z0 <;> first | rfl | (exfalso;revert h1;decide)
        clear h1
        obtain⟨ab,ao,rfl, -⟩:=Ca.out 0 hpr
        have EZ:=zq hZ0
        go_wp2
        go_loopw [22] (fun i ws=> ∃ s:Nat,i=aD aE s∧s≤N∧bH (anyN (pbL (bQ rs) r) s=false)∧bH (Below w.heap.size w ws)∧bH (Below W2.heap.size W2 ws)) (fun i _=> N - (aK i).toNat)
        case atStart=> exact⟨0,rfl,bN _,rfl,IK.out,aH _ _⟩
        case round=>
          obtain⟨s,rfl,hs,Qj,RA,HDz⟩:=hrel
          rename aF=> ws
          by_cases hsN:s < N
          · obtain⟨b',o',e1,k0, -⟩:=(HR.out.below RA.out).at (i:=s) (by rw [HL.out];exact hsN) rfl
            injection e1 with e1;injection e1 with e1 e2;subst e1 e2
            rw [show(rs.getD s default).ss.length=(bQ rs s).length from rfl] at k0
            have HIs:=zq (fun W hW=> HI.out s hsN ((bQ rs r).getD 0 default).x ((bQ rs r).getD 0 default).y W hW)
            have WV:=zq (fun W=> sz.out ((bQ rs r).getD 0 default) W)
            have E2:bH (pbL (bQ rs) r s=(!(decide (s=r) || decide (r=0)) && (NE (bQ rs s) ((bQ rs r).getD 0 default).x ((bQ rs r).getD 0 default).y !=decide (s=0)))):=rfl
            rw [EZ.out] at E2
            have X5:=zq (fun h:pbL (bQ rs) r s=true=> X2r.out (by rw [E.out];exact eJ.2 ⟨s,hsN,h⟩))
            have X6:=zq (fun h:pbL (bQ rs) r s=false=> gO Qj.out h)
            have hsI:(s:Int) < N:=by omega
            generalize pbL (bQ rs) r s=B at *
            generalize NE (bQ rs s) ((bQ rs r).getD 0 default).x ((bQ rs r).getD 0 default).y=I at *
            have hv:(rs.getD r default).ss.getD 0 default=(bQ rs r).getD 0 default:=rfl
            generalize (bQ rs s).length=m at *
            generalize (rs.getD s default).a=as' at *
            generalize (rs.getD s default).cap=cs at *
            have hq:((s:Int)==(r:Int))=decide (s=r):=BH (by omega)
            have oL:((s:Int)==0)=decide (s=0):=BH (by omega)
            obtain⟨S0,hS0⟩:=nm (decide (s=r))
            obtain⟨Z,hZ⟩:=nm (decide (s=0))
            rw [hS0] at hq E2
            rw [hZ] at oL E2
            by_cases hsk:(S0 || T0)=true
            · have e1:=zq (X6.out (by rw [E2.out,hsk];rfl))
              clear E2 X5 X6 hS0 hZ
              cases S0
              · have hZt:T0=true:=by simpa using hsk
                subst hZt
                clear hsk
                go_wp2
                go_roundw
                case rel=> exact⟨s + 1,by go_num,by omega,e1.out,RA.out,HDz.out⟩
                case measure=> simp only [aK];omega
              · clear hsk
                go_wp2
                go_roundw
                case rel=> exact⟨s + 1,by go_num,by omega,e1.out,RA.out,HDz.out⟩
                case measure=> simp only [aK];omega
            · have hsk:(S0 || T0)=false:=by simpa using hsk
              obtain⟨rfl,rfl⟩:S0=false∧T0=false:=by simpa using hsk
              obtain⟨ab',ao',e1,d0,d1,d2,d3,d4,d5,d6⟩:=(Ca.out.below HDz.out).at (i:=0) hpr hv
              injection e1 with e1;injection e1 with e1 e2;subst e1 e2
              clear hv hpr hsk hS0 hZ
              generalize (bQ rs r).getD 0 default=c at *
              simp only [oC,Nat.add_zero] at d0 d1 d2 d3 d4 d5 d6
              obtain⟨x,y,rise,run,gable,plate,over⟩:=c
              unfold Sd.v Sd.cells at WV
              simp only [] at *
              go_wp2_with fail
              refine(WV.out _).mono ?_
              rintro e W3 ⟨rfl,hb3⟩
              have HB3:=zq (aU RA.out hb3)
              have zG:=zq (aU HDz.out hb3)
              have HIw:=zq (HIs.out _ HB3.out)
              clear hb3
              go_wp2_with fail
              refine HIw.out.mono ?_
              rintro e W4 ⟨rfl,hb3⟩
              have yI:=zq (aU HB3.out hb3)
              have FC:=zq (aU zG.out hb3)
              clear hb3 HB3 zG
              cases I <;> cases Z
              case' true.false=> have e1:=zq (X5.out E2.out)
              case' false.true=> have e1:=zq (X5.out E2.out)
              case' true.true=> have e1:=zq (X6.out E2.out)
              case' false.false=> have e1:=zq (X6.out E2.out)
              all_goals
                clear E2 X5 X6
                go_wp2
                first
                  | (go_roundw
                     case rel=> exact⟨s + 1,by go_num,by omega,e1.out,yI.out,FC.out⟩
                     case measure=> simp only [aK];omega)
                  | exact nV (iB MV _ _ _) rfl ⟨by rw [e1.out] <;> rfl,yI.out⟩
                  | fail
          · obtain rfl:N=s:=by omega
            have e1:=zq (X4.out (by rw [E.out];exact Qj.out))
            go_wp2
            go_roundw
            case rel=> exact⟨r + 1,by go_num,by omega,e1.out,RA.out⟩
            case measure=> simp only [aK];omega
    · obtain rfl:N=r:=by omega
      have e1:=zq (X3.out HA.out)
      go_wp2
      exact nV (iB MV _ _ _) rfl ⟨by rw [e1.out] <;> rfl,HD.out⟩
abbrev mkD(D:Nat):Deferred:={target:=.collected D,args:= #[]}
def Mk(B E:Nat)(Ds:List Nat)(W:aF):Prop:=Ds.Nodup∧∀D,D∈Ds→B≤D∧D<E∧W.heap[D]? =some (.deferred (some []))
theorem Mk.nil(B E:Nat)(W:aF):Mk B E [] W:=⟨List.nodup_nil,fun _ h=>nomatch h⟩
theorem Mk.grow{B E E':Nat}{Ds:List Nat}{W:aF}(h:Mk B E Ds W)(k:E≤E'):Mk B E' Ds W:=⟨h.1,fun D hD=>⟨(h.2 D hD).1,bL (h.2 D hD).2.1 k,(h.2 D hD).2.2⟩⟩
theorem Mk.top{B E:Nat}{Ds:List Nat}{W:aF}(h:Mk B E Ds W):Mk B W.heap.size Ds W:=⟨h.1,fun D hD=>⟨(h.2 D hD).1,(Array.getElem?_eq_some_iff.1 (h.2 D hD).2.2).1,(h.2 D hD).2.2⟩⟩
theorem Mk.below{B E:Nat}{Ds:List Nat}{W W':aF}(h:Mk B E Ds W)(hb:Below W.heap.size W W'):Mk B E Ds W':=
 ⟨h.1,fun D hD=>⟨(h.2 D hD).1,(h.2 D hD).2.1,(hb.block D (Array.getElem?_eq_some_iff.1 (h.2 D hD).2.2).1).trans (h.2 D hD).2.2⟩⟩
theorem Mk.setCell{B E:Nat}{Ds:List Nat}{W:aF}{b:Nat}{cs:Array aS}{T:eC}(h:Mk B E Ds W)(hb:bT W b cs T)(o:Nat)(v:aS):Mk B E Ds (W.setCell ⟨b,o,none⟩ v):=
 ⟨h.1,fun D hD=>⟨(h.2 D hD).1,(h.2 D hD).2.1,(nY W ⟨b,o,none⟩ D v (fun e=>by
  have h1:=(h.2 D hD).2.2
  have h2:W.heap[b]? =some (aJ cs T (0,0)):=hb
  rw[show D=b from e,h2]at h1
  cases h1)).trans (h.2 D hD).2.2⟩⟩
theorem Mk.cons{B E D:Nat}{Ds:List Nat}{W:aF}(h:Mk B E Ds W)(hB:B≤E)(hD:E≤D)(hW:W.heap[D]? =some (.deferred (some []))):Mk B W.heap.size (D::Ds) W:=
 ⟨List.nodup_cons.2 ⟨fun hm=>absurd (h.2 D hm).2.1 (by omega),h.1⟩,fun X hX=>by
  rcases List.mem_cons.1 hX with rfl|hX
  ·exact⟨bE hB hD,(Array.getElem?_eq_some_iff.1 hW).1,hW⟩
  ·exact h.top.2 X hX⟩
theorem Mk.from{β:Type}{B E:Nat}{Ds:List Nat}:rK E (fun(_:β)W=>Mk B E Ds W):=fun _ W W' lM hs hg hr=>
 ⟨hs.1,fun D hD=>⟨(hs.2 D hD).1,(hs.2 D hD).2.1,(hg.block D (Array.getElem?_eq_some_iff.1 (hs.2 D hD).2.2).1 (fun e=>absurd (hr D e.symm).1 (by have:=(hs.2 D hD).2.1;omega))).trans (hs.2 D hD).2.2⟩⟩
theorem OP{F:Kh}{n:Nat}{P:dP}{fn:Func}{tmps:Array aS}{R:Ending→aF→Prop}{B E:Nat}{v:aS}{Pp:aF→Prop}
 (hP:∀W D,B≤D→Pp W→W.heap[D]? =some (.deferred (some []))→Pp (W.putObj D (.deferred none)))
 (xd:∀W,Pp W→(gR fn tmps).run P W=.ok v W∧R (aQ v) W):∀(Ds:List Nat)(W:aF),Mk B E Ds W→Pp W→iy F n P fn tmps R (Ds.map mkD) .returning W
 |[],W,_,h=>⟨v,(xd W h).1,(xd W h).2⟩
 |D::Ds,W,hm,h=>by
  have hD:=hm.2 D List.mem_cons_self
  have hn:=List.nodup_cons.1 hm.1
  have hm':Mk B E Ds (W.putObj D (.deferred none)):=⟨hn.2,fun X hX=>by
   have hX':=hm.2 X (List.mem_cons_of_mem _ hX)
   have jC:X≠D:=fun e=>hn.1 (e▸hX)
   exact⟨hX'.1,hX'.2.1,(World.putObj_heap_other (by first |exact jC|exact jC.symm)).trans hX'.2.2⟩⟩
  exact⟨by simp,.inl ⟨D,_,rfl,fH hD.2.2,OP hP xd Ds _ hm' (hP W D hD.1 h hD.2.2)⟩⟩
theorem Qu{F:Kh}{n:Nat}{P:dP}{fn:Func}{R:Ending→aF→Prop}{a:kZ}{w:aF}{B E:Nat}{Ds:List Nat}{v:aS}(hd:a.defers=Ds.map mkD)(hm:Mk B E Ds w)(Pp:aF→Prop)(h:Pp w)
 (hP:∀W D,B≤D→Pp W→W.heap[D]? =some (.deferred (some []))→Pp (W.putObj D (.deferred none)))
 (xd:∀W,Pp W→(gR fn a.tmps).run P W=.ok v W∧R (aQ v) W):bodyPostM F n P fn R .ret a w:=by
 show iy _ _ _ _ _ _ _ _ _;rw[hd];exact OP hP xd Ds w hm h
end
end Go.Proofs.YtckgmoobicmbnaaGreatDoor
