import Derived.Shelf.Spec.SlicesGrow
import Derived.Shelf.SlicesE.Clone
import Derived.OwnWalkIn
import Derived.Deep.MidRow
import Derived.KernelRfl
import Derived.Deep.QuietTactic
import Derived.StillTail
import Derived.Test.YtkchhginppjaiaaGreatDoorZ0
import Derived.Test.YtkchhginppjaiaaGreatDoorZ2
import Derived.Test.YtkchhginppjaiaaGreatDoorZ3
import Derived.Test.YtkchhginppjaiaaGreatDoorZ5
namespace Go.Proofs.YtkchhginppjaiaaGreatDoor
set_option maxRecDepth 100000
set_option maxHeartbeats 8000000
set_option linter.all false
open Go.Proofs.Tryz
open _root_.Array renaming replicate->gR,setIfInBounds_comm->mQ,size_append->mS,getElem?_setIfInBounds_ne->Jz,size_setIfInBounds->P7,getElem?_eq_none->Sw,toArray_toList->Wn
open _root_.Bool renaming and_eq_true->bQ,or_eq_true->jC
open _root_.Classical renaming byContradiction->cZ
open _root_.Go renaming World->aF,Value->aP,undef->aO,Calls->bE,Addr->cO,Program->dN,TypeId->dT,below_drewN->eF,wpAnyH_ready->fC,Oper->fX,Act->mI,info_parts->lI,ready_mono->qB,Operand->tE,yielded->wV,size_zeroCells->zS,Exit->A5,execOp->AS,wpAnyIn->BU,maxLen->Cm,HeadInv->EO,wpList->NE,getD_replicate_false->Oe,execOp_put->Wo,getD_both->pv
open Go.Act renaming put->cS,put_comm->Kc,eval->VN
open Go.Addr renaming add_lit->oK
open Go.AllReadyH renaming cons->dJ,nil->dX
open Go.Calls renaming mono->yZ
open Go.Code renaming region->tD
open Go.Ending renaming returned->bA
open Go.Fence renaming wide->eP
open Go.IntKind renaming i64->aB
open Go.Lib renaming contains->BL
open Go.Obj renaming cells->aN
open Go.Op renaming equalIn->Dn
open Go.Oper renaming semAt_plain->qZ,quietAt->JA,wp->Ng
open Go.Proofs renaming sortWorld->Jr,ltOf->YK
open Go.Proofs.Any8 renaming slices_Grow_grow->Wh
open Go.Proofs.Lays8 renaming n4->zY
open Go.Proofs.Tryz renaming prog->aE,underlying3->dL,underlying4->fM,zeroValue4->gC,zeroValue3->gZ,sizeOf3->iB,isAgg3->jG,underlying9->jN,sizeOf4->jV,isAgg4->lN,zeroValue9->mP,sizeOf9->oJ,isAgg9->pY,underlying0->rA,zeroValue0->sQ,underlying39->sY,sizeOf0->zQ,isAgg0->BW,sizeOf39->FI,isAgg39->Jy,underlying20->KC,zeroValue39->KJ,zeroValue20->Nh,ntmps140->Sb,sizeOf20->VA,func140->VM,isAgg20->YI
open Go.Region renaming ready->cU,wanted->eK,Mode->gU,noSelect->qI,free->rP,binds->sM,free_spec->Jt,noSelect_spec->VL
open Go.Result renaming andThen_ok->Ia
open Go.RowKit renaming intOf->aK,Hid->bK,Below->AW
open Go.RowKit.Below renaming refl->aL
open Go.Sem renaming run_bind->nC,run_pure->Nj
open Go.Shelf renaming Ren->iK
open Go.Sort renaming insertionSort->bo
open Go.Value renaming string->aA,int->aC,slice->aD,pointer->aY,agg->cF,oneCell'->kA
open Go.World renaming size_alloc->bH,alloc_heap_new->jR
open Go.World.ownsRow renaming cellAt->dZ,frozenAt->kF
open _root_.Int renaming toNat_natCast->nX
open _root_.List renaming getD_eq_getElem?_getD->aG,getElem?_cons_zero->aI,getElem?_toArray->aJ,setIfInBounds_toArray->aM,getElem_cons_succ->aR,getElem_cons_zero->aS,set_cons_zero->aT,set_cons_succ->aW,getElem_toArray->aX,length_map->aZ,getElem?_cons_succ->bC,length_cons->bD,length_append->bO,length_nil->bV,size_toArray->cD,take_succ_eq_append_getElem->cN,mem_cons_self->cW,mem_cons_of_mem->dA,range->dD,take_of_length_le->eM,length_drop->eZ,length_take->fU,getElem?_append_right->gA,getElem_mem->gL,map_congr_left->iX,map_map->lY,mem_append->nG,mem_cons->nI,map_cons->nJ,foldl_cons->oI,pairwise_cons->sO,flatten_cons->uV,not_mem_nil->wA,append_assoc->A8,getElem?_eq_none->Ea,getElem!_eq_getElem?_getD->KI,set_append_right->Wi,getElem!_toArray->Wl,attach_map_val->bp,length_attach->pr
open _root_.List.Pairwise renaming nil->Jv
open _root_.Nat renaming le_refl->aH,le_trans->aU,zero_le->bM,zero_add->cC,mod_lt->dB,lt_or_ge->fP,eq_zero_or_pos->jM,le_of_lt->jS,add_zero->oG,mul_le_mul_right->pX,zero_mul->yW,sub_self->A6,succ_mul->PW,add_assoc->YG
section
open Go
theorem Pa(d0 k:Nat)(hd0:d0<4)(d:Nat→Nat)(f g:Nat→Int)(hk:0<k)(hd:∀j,d j<4)
 (hf:∀j,j<k→f (j+1)=f j+(if d j=d0 then 1 else if d j=(d0+2)%4 then -1 else 0))(hg:∀j,j<k→g (j+1)=g j+(if d j=(d0+1)%4 then 1 else if d j=(d0+3)%4 then -1 else 0))
 (ht:∀j,j<k→d (j+1)=d j∨d (j+1)=(d j+1)%4∨d (j+1)=(d j+3)%4)(f0:f k=f 0)(g0:g k=g 0)(e0:d k=d 0):∃j,j<k∧d (j+1)=d0∧d j≠d0:=by
 apply cZ;intro hno;have h:∀j,j<k→d (j+1)=d0→d j=d0:=fun j hj he=>cZ fun c=>hno ⟨j,hj,he,c⟩;by_cases hA:∃p,p≤k∧d p=d0
 ·obtain⟨p,hp,hpd⟩:=hA;have down:∀m p,p≤k→d p=d0→m≤p→d (p-m)=d0:=by
   intro m;induction m with
   |zero=>intro p _ h1 _;exact h1
   |succ m ih=>
    intro p hp h1 h2;have h3:=ih p hp h1 (by omega);have:=h (p-(m+1)) (by omega) (by rw[show p-(m+1)+1=p-m by omega];exact h3);exact this
  have h00:d 0=d0:=by have:=down p p hp hpd (aH _);rwa[A6]at this
  have hall:∀j,j≤k→d j=d0:=fun j hj=>by
   have:=down (k-j) k (aH _) (e0.trans h00) (by omega);rwa[show k-(k-j)=j by omega]at this
  have hup:∀j,j≤k→f j=f 0+j:=by
   intro j;induction j with
   |zero=>intro _;simp
   |succ j ih=>
    intro hj;rw[hf j (by omega),ih (by omega),ip (hall j (by omega))];omega
  have:=hup k (aH _);omega
 ·have hB:∀p,p≤k→d p≠d0:=fun p hp c=>hA ⟨p,hp,c⟩;have ia:∀j,j<k→f (j+1)≤f j:=fun j hj=>by
   rw[hf j hj,iN (hB j (by omega))];split <;>omega
  have Uv:∀m j,j+m≤k→f (j+m)≤f j:=by
   intro m;induction m with
   |zero=>intro j _;exact Int.le_refl _
   |succ m ih=>
    intro j hj;have h1:=ih j (by omega);have h2:=ia (j+m) (by omega);rw[YG]at h2;omega
  have hne2:∀j,j<k→d j≠(d0+2)%4:=fun j hj c=>by
   have h1:=hf j hj;rw[iN (hB j (by omega)),ip c]at h1;have h2:=Uv j 0 (by omega);rw[cC]at h2;have h3:=Uv (k-(j+1)) (j+1) (by omega);rw[show j+1+(k-(j+1))=k by omega]at h3;omega
  have hconst:∀j,j<k→d j=d 0:=by
   intro j;induction j with
   |zero=>intro _;rfl
   |succ j ih=>
    intro hj;have h1:=ih (by omega);have h2:=ht j (by omega);have h3:=hB j (by omega);have h4:=hB (j+1) (by omega);have h5:=hne2 j (by omega);have h6:=hne2 (j+1) hj;have h7:=hd j;omega
  have h1:=hB 0 (by omega);have h2:=hne2 0 hk;have h3:=hd 0;by_cases hc:d 0=(d0+1)%4
  ·have hup:∀j,j≤k→g j=g 0+j:=by
    intro j;induction j with
    |zero=>intro _;simp
    |succ j ih=>
     intro hj;rw[hg j (by omega),ih (by omega),hconst j (by omega),ip hc];omega
   have:=hup k (aH _);omega
  ·have hc3:d 0=(d0+3)%4:=by omega
   have hup:∀j,j≤k→g j=g 0-j:=by
    intro j;induction j with
    |zero=>intro _;simp
    |succ j ih=>
     intro hj;rw[hg j (by omega),ih (by omega),hconst j (by omega),iN hc,ip hc3];omega
   have:=hup k (aH _);omega
theorem XA:∀a b e f:Bool,∀d:Fin 4,Eg a b e f d<4→Eg a b e f d=d∨Eg a b e f d=(d+1)%4∨Eg a b e f d=(d+3)%4:=by decide
theorem AC{c:Int→Int→Bool}{w:Wy}(h:lH c w=true):w.d<4∧(jX c w).d<4∧(jX c w).x=jE w.x w.d∧(jX c w).y=jF w.y w.d∧((jX c w).d=w.d∨(jX c w).d=(w.d+1)%4∨(jX c w).d=(w.d+3)%4):=by
 have hd:w.d<4:=by
  unfold lH at h;rw[bQ,decide_eq_true_eq]at h;exact h.1
 obtain⟨t,h1,h2,h3,-⟩:=wH h;rw[h3];refine⟨hd,h1,rfl,rfl,?_⟩;have:=XA (c (jE w.x w.d) (jF w.y w.d)) (c (jE w.x w.d-1) (jF w.y w.d)) (c (jE w.x w.d-1) (jF w.y w.d-1)) (c (jE w.x w.d) (jF w.y w.d-1)) ⟨w.d,hd⟩;dsimp only at this;rw[←h2]at this;exact this h1
theorem il{c:Int→Int→Bool}{w:Wy}{k:Nat}(hb:lH c w=true)(hk:0<k)(hp:jY (jX c) k w=w)(e:Nat)(he:e<2):∃j,j<k∧(jY (jX c) (j+1) w).d=e∧(jY (jX c) j w).d%2≠e:=by
 have hbj:=fun j=>GC hb j;have hs:∀j,jY (jX c) (j+1) w=jX c (jY (jX c) j w):=fun j=>rfl;have hN:=fun j=>AC (hbj j);have key:∃j,j<k∧(jY (jX c) (j+1) w).d=e∧(jY (jX c) j w).d≠e:=by
  have he2:e=0∨e=1:=by omega
  rcases he2 with rfl|rfl
  ·refine Pa 0 k (by decide) (fun j=>(jY (jX c) j w).d) (fun j=>(jY (jX c) j w).x) (fun j=>(jY (jX c) j w).y) hk (fun j=>(hN j).1) (fun j _=>?_) (fun j _=>?_) (fun j _=>?_) (by rw[hp];rfl) (by rw[hp];rfl) (by rw[hp];rfl)
   ·skip;rw[hs,(hN j).2.2.1];have:=(hN j).1;unfold jE;generalize(jY (jX c) j w).d=q at *;match q,this with
    |0,_=>simp
    |1,_=>simp
    |2,_=>simp;omega
    |3,_=>simp
   ·skip;rw[hs,(hN j).2.2.2.1];have:=(hN j).1;unfold jF;generalize(jY (jX c) j w).d=q at *;match q,this with
    |0,_=>simp
    |1,_=>simp
    |2,_=>simp
    |3,_=>simp;omega
   ·skip;rw[hs];exact(hN j).2.2.2.2
  ·refine Pa 1 k (by decide) (fun j=>(jY (jX c) j w).d) (fun j=>(jY (jX c) j w).y) (fun j=> -(jY (jX c) j w).x) hk (fun j=>(hN j).1) (fun j _=>?_) (fun j _=>?_) (fun j _=>?_) (by rw[hp];rfl) (by rw[hp];rfl) (by rw[hp];rfl)
   ·skip;rw[hs,(hN j).2.2.2.1];have:=(hN j).1;unfold jF;generalize(jY (jX c) j w).d=q at *;match q,this with
    |0,_=>simp
    |1,_=>simp
    |2,_=>simp
    |3,_=>simp;omega
   ·skip;rw[hs,(hN j).2.2.1];have:=(hN j).1;unfold jE;generalize(jY (jX c) j w).d=q at *;match q,this with
    |0,_=>simp;omega
    |1,_=>simp
    |2,_=>simp;omega
    |3,_=>simp
   ·skip;rw[hs];exact(hN j).2.2.2.2
 obtain⟨j,h1,h2,h3⟩:=key;refine⟨j,h1,h2,?_⟩;have h4:=(hN j).2.2.2.2;rw[←hs,h2]at h4;have h5:=(hN j).1;omega
theorem XC(c:Int→Int→Bool)(x y:Int):¬(bor c x y 0=true∧bor c x y 1=true):=by
 rw[FZ,FZ];unfold goes';generalize c x y=a;generalize c (x-1) y=b;generalize c (x-1) (y-1)=e;generalize c x (y-1)=f;cases a<;>cases b<;>cases e<;>cases f<;>decide
theorem Q5{c:Int→Int→Bool}{x y:Int}{d:Nat}(h:lH c ⟨x,y,d⟩=true):bor c x y d=true:=by
 unfold lH at h;rw[bQ]at h;exact h.2
theorem Pb {c:Int→Int→Bool} {M:List (Int×Int)}:∀ (L:List (List Wy)),(∀ l∈L,∀ w∈l,lH c w=true)→L.flatten.Nodup→(∀ l∈L,∃ q0∈M,∃ q1∈M,(⟨q0.1,q0.2,0⟩:Wy)∈l∧(⟨q1.1,q1.2,1⟩:Wy)∈l)→
 ∃ Gr:List (Int×Int),Gr.length=2 * L.length∧Gr.Nodup∧∀ q∈Gr,q∈M∧((⟨q.1,q.2,0⟩:Wy)∈L.flatten∨(⟨q.1,q.2,1⟩:Wy)∈L.flatten)
 | [],_,_,_=> ⟨[],rfl,List.nodup_nil,fun q h=> by cases h⟩
 | l ::L,hb,hn,h=> by
  rw [uV,List.nodup_append] at hn
  obtain⟨Gr,h1,h2,h3⟩:=Pb L (fun m hm=> hb m (dA _ hm)) hn.2.1 fun m hm=> h m (dA _ hm)
  obtain⟨q0,m0,q1,m1,k0,k1⟩:=h l (cW ..)
  have b0:=Q5 (hb l (cW ..) _ k0)
  have b1:=Q5 (hb l (cW ..) _ k1)
  have ZJ:∀ w∈L.flatten,lH c w=true:=fun w hw=> by
   obtain⟨m,hm,hw⟩:=List.mem_flatten.1 hw
   exact hb m (dA _ hm) w hw
  have n0:q0 ∉ Gr:=fun hq=> by
   rcases(h3 _ hq).2 with h4 | h4
   ·exact hn.2.2 _ k0 _ h4 rfl
   ·exact XC c _ _ ⟨b0,Q5 (ZJ _ h4)⟩
  have n1:q1 ∉ Gr:=fun hq=> by
   rcases(h3 _ hq).2 with h4 | h4
   ·exact XC c _ _ ⟨Q5 (ZJ _ h4),b1⟩
   ·exact hn.2.2 _ k1 _ h4 rfl
  have n01:q0≠q1:=fun e=> by
   subst e
   exact XC c _ _ ⟨b0,b1⟩
  refine⟨q0 ::q1 ::Gr,by rw [bD,bD,h1,bD];omega, ?_,fun q hq=> ?_⟩
  ·rw [List.nodup_cons,List.nodup_cons,nI]
   exact⟨fun c=> c.elim n01 n0,n1,h2⟩
  ·rw [uV,nG,nG]
   rcases List.mem_cons.1 hq with rfl | hq
   ·exact⟨m0, .inl (.inl k0)⟩
   ·rcases List.mem_cons.1 hq with rfl | hq
    ·exact⟨m1, .inr (.inl k1)⟩
    ·exact⟨(h3 q hq).1,(h3 q hq).2.elim (fun h=> .inl (.inr h)) fun h=> .inr (.inr h)⟩
theorem prod_len{α β:Type}(l:List α)(m:List β):(l.flatMap fun x=>m.map fun y=>(x,y)).length=l.length*m.length:=by
 induction l with
 |nil=>simp
 |cons x l ih=>rw[List.flatMap_cons,bO,ih,aZ,bD,PW,Nat.add_comm]
theorem filt_len(p:Nat→Bool)(l:List Nat):(l.filter p).length+(l.filter fun s=> !p s).length=l.length:=by
 induction l with
 |nil=>rfl
 |cons x l ih=>
  cases h:p x<;>simp[List.filter_cons,h]<;>omega
theorem prod_12:∀a b:Fin 13,a.1+b.1≤12→a.1*b.1≤36:=by decide
theorem im{fs:List Fr}{at':List (List UInt8)}{ls:List Lp}{dx dy:List (List UInt8)}(h:Br fs at' ls dx dy)(ha:tO fs at' ls false=true)(eu:fs.length≤12)(ws:List Wy):
 (jA (nB fs at' (bL dx) (bL dy) ls) ws).2.length≤18:=by
 have hc:=AB fs at' (bL dx) (bL dy) ls;have C3:=xH hc ws;let ups:List Int:=((dD fs.length).filter fun s=>(fs.getD s default).up).map fun s=>((uZ (bL dx) (at'.getD s []):Nat):Int);let lvs:List Int:=((dD fs.length).filter fun s=> !(fs.getD s default).up).map fun s=>((uZ (bL dy) (at'.getD s []):Nat):Int);let M:List (Int×Int):=ups.flatMap fun x=>lvs.map fun y=>(x,y);have Ep:∀w,lH (nB fs at' (bL dx) (bL dy) ls) w=true→(w.d%2=1→w.x∈ups)∧(w.d%2=0→w.y∈lvs):=fun w hw=>by
  obtain⟨t,-,LJ,p,-,hpt,Sr⟩:=JZ h ha hw;have hd:=(AC hw).1;have ets:p.side.toNat=t:=by omega
  have hup:(gT fs at' (bL dx) (bL dy) p).up=true→(fs.getD t default).up=true∧(gT fs at' (bL dx) (bL dy) p).line=((uZ (bL dx) (at'.getD t []):Nat):Int):=fun hu=>by
   unfold gT at hu⊢;rw[ets]at hu⊢;by_cases c:(fs.getD t default).up=true
   ·rw[ip c];exact⟨c,rfl⟩
   ·rw[iN c]at hu;cases hu
  have hlv:(gT fs at' (bL dx) (bL dy) p).up=false→(fs.getD t default).up=false∧(gT fs at' (bL dx) (bL dy) p).line=((uZ (bL dy) (at'.getD t []):Nat):Int):=fun hu=>by
   unfold gT at hu⊢;rw[ets]at hu⊢;by_cases c:(fs.getD t default).up=true
   ·rw[ip c]at hu;cases hu
   ·rw[iN c];exact⟨by simpa using c,rfl⟩
  have mu:(fs.getD t default).up=true→((uZ (bL dx) (at'.getD t []):Nat):Int)∈ups:=fun hu=>List.mem_map.2 ⟨t,List.mem_filter.2 ⟨List.mem_range.2 LJ,hu⟩,rfl⟩;have ml:(fs.getD t default).up=false→((uZ (bL dy) (at'.getD t []):Nat):Int)∈lvs:=fun hu=>List.mem_map.2 ⟨t,List.mem_filter.2 ⟨List.mem_range.2 LJ,by rw[hu];rfl⟩,rfl⟩;unfold Iv at Sr;refine⟨fun h1=>?_,fun h1=>?_⟩
  ·have:w.d=1∨w.d=3:=by omega
   rcases this with e|e<;>rw[e]at Sr
   ·have:=hup Sr.1;rw[←Sr.2.1,this.2];exact mu this.1
   ·have:=hup Sr.1;rw[←Sr.2.1,this.2];exact mu this.1
  ·have:w.d=0∨w.d=2:=by omega
   rcases this with e|e<;>rw[e]at Sr
   ·have:=hlv Sr.1;rw[←Sr.2.1,this.2];exact ml this.1
   ·have:=hlv Sr.1;rw[←Sr.2.1,this.2];exact ml this.1
 have hq:∀l∈(jA (nB fs at' (bL dx) (bL dy) ls) ws).2,∃q0∈M,∃q1∈M,(⟨q0.1,q0.2,0⟩:Wy)∈l∧(⟨q1.1,q1.2,1⟩:Wy)∈l:=fun l hl=>by
  obtain⟨-,w,hw,rfl⟩:=C3.pos l hl;obtain⟨k,hk,-⟩:=IZ hc hw;rw[uN hk];have one:∀e,e<2→∃q∈M,(⟨q.1,q.2,e⟩:Wy)∈kP (jX (nB fs at' (bL dx) (bL dy) ls)) w k:=fun e he=>by
   obtain⟨j,hj,h1,h2⟩:=il hw hk.1 hk.2.1 e he;have hb1:=GC hw (j+1);have Ib:=GC hw j;have pF:jY (jX (nB fs at' (bL dx) (bL dy) ls)) (j+1) w∈kP (jX (nB fs at' (bL dx) (bL dy) ls)) w k:=by
    rw[oT];rcases fP (j+1) k with c|c
    ·exact⟨j+1,c,rfl⟩
    ·obtain rfl:j+1=k:=by omega
     exact⟨0,hk.1,hk.2.1.symm⟩
   have hx:(jY (jX (nB fs at' (bL dx) (bL dy) ls)) (j+1) w).x=jE (jY (jX (nB fs at' (bL dx) (bL dy) ls)) j w).x (jY (jX (nB fs at' (bL dx) (bL dy) ls)) j w).d:=(AC Ib).2.2.1;have hy:(jY (jX (nB fs at' (bL dx) (bL dy) ls)) (j+1) w).y=jF (jY (jX (nB fs at' (bL dx) (bL dy) ls)) j w).y (jY (jX (nB fs at' (bL dx) (bL dy) ls)) j w).d:=(AC Ib).2.2.2.1;have hd0:=(AC Ib).1;generalize jY (jX (nB fs at' (bL dx) (bL dy) ls)) (j+1) w=v at *;generalize jY (jX (nB fs at' (bL dx) (bL dy) ls)) j w=u at *;obtain⟨vx,vy,vd⟩:=v;obtain⟨ux,uy,ud⟩:=u;dsimp only at *;subst h1;refine⟨(vx,vy),?_,pF⟩;have sv:=Ep _ hb1;have su:=Ep _ Ib;dsimp only at sv su;rw[List.mem_flatMap];refine⟨vx,?_,List.mem_map.2 ⟨vy,?_,rfl⟩⟩
   ·rcases(by omega:vd=0∨vd=1)with rfl|rfl
    ·have h3:ud=1∨ud=3:=by omega
     have h4:=su.1 (by omega);rw[hx];rcases h3 with rfl|rfl<;>exact h4
    ·exact sv.1 rfl
   ·rcases(by omega:vd=0∨vd=1)with rfl|rfl
    ·exact sv.2 rfl
    ·have h3:ud=0∨ud=2:=by omega
     have h4:=su.2 (by omega);rw[hy];rcases h3 with rfl|rfl<;>exact h4
  obtain⟨q0,m0,k0⟩:=one 0 (by decide);obtain⟨q1,m1,k1⟩:=one 1 (by decide);exact⟨q0,m0,q1,m1,k0,k1⟩
 have hnd:=C3.nd;rw[C3.all]at hnd;obtain⟨Gr,p1,p2,p3⟩:=Pb (c:=nB fs at' (bL dx) (bL dy) ls) _ (fun l hl w hw=>C3.bor w (by rw[C3.all];exact List.mem_flatten.2 ⟨l,hl,hw⟩)) hnd hq;have ia:=Dt p2 fun q hq=>(p3 q hq).1;have hM:M.length=ups.length*lvs.length:=prod_len ups lvs;have hs:ups.length+lvs.length=fs.length:=by
  show(List.map _ _).length+(List.map _ _).length=_;rw[aZ,aZ,filt_len (fun s=>(fs.getD s default).up),List.length_range]
 have:=prod_12 ⟨ups.length,by omega⟩ ⟨lvs.length,by omega⟩ (by show ups.length+lvs.length≤12;omega);dsimp only at this;omega
end
section
open Go Go.RowKit Go.Lib
def Q7:List Int→Int
 |[]=>0
 |x::l=>if x=0 then Q7 l else x
theorem orI_zero{l:List Int}(h:∀i,i<l.length→l.getD i 0=0):Q7 l=0:=by
 induction l with
 |nil=>rfl
 |cons x l ih=>
  rw[Q7,ip (by simpa using h 0 (by simp))];exact ih fun i hi=>by simpa using h (i+1) (by simpa using hi)
theorem orI_at{l:List Int}{k:Nat}(hk:k<l.length)(h:∀i,i<k→l.getD i 0=0)(h0:l.getD k 0≠0):Q7 l=l.getD k 0:=by
 induction l generalizing k with
 |nil=>simp at hk
 |cons x l ih=>
  cases k with
  |zero=>rw[Q7,iN (by simpa using h0)];simp
  |succ k=>
   rw[Q7,ip (by simpa using h 0 (by omega))];rw[ih (k:=k) (by simpa using hk) (fun i hi=>by simpa using h (i+1) (by omega)) (by simpa using h0)];simp
theorem cmp_or(b off n cap:Nat)(xs:List Int)(w:aF)(hl:xs.length=n)(hn:n≤1000000)(hc:∀i,i<n→w.cell? ⟨b,off+i,none⟩=some (aC aB (xs.getD i 0))):
 bE aE 138 #[aD (some ⟨b,off,none⟩) n cap] w fun e w'=>e=bA (aC aB (Q7 xs))∧w=w':=by
 have Hc:=zq hc;have Hl:=zq hl;clear hc hl;go_enter func138,ntmps138;go_wp2;go_loop [8] (fun i=>∃k:Nat,i=aC aB k∧k≤n∧∀j,j<k→xs.getD j 0=0) (fun i=>n-(aK i).toNat);case atStart=>exact⟨0,rfl,by omega,fun j hj=>by omega⟩
 case round=>
  obtain⟨k,rfl,hk,hz⟩:=hrel;have Hz:=zq hz;clear hz;by_cases hlt:k<n
  ·have c0:=Hc.out k hlt;have hlt2:(k:Int)<n:=by omega
   obtain⟨x,hx⟩:∃x,xs.getD k 0=x:=⟨_,rfl⟩;rw[hx]at c0;have Hx:=zq hx;clear hx;by_cases h0:x=0
   ·subst h0;go_wp2;go_round;case rel=>exact⟨k+1,by go_num,by omega,fun j hj=>by
     by_cases e:j=k
     ·rw[e];exact Hx.out
     ·exact Hz.out j (by omega)⟩
    case measure=>simp only[aK];omega
   ·have E:=zq ((orI_at (by rw[Hl.out];exact hlt) Hz.out (by rw[Hx.out];exact h0)).trans Hx.out);have iC:(x !=0)=true:=by rw[bne_iff_ne];exact h0
    go_wp2;go_ret;exact⟨by rw[E.out]<;>rfl,rfl⟩
  ·obtain rfl:k=n:=by omega
   have E:=zq (orI_zero (l:=xs) fun i hi=>Hz.out i (by rw[←Hl.out];exact hi));go_wp2;go_ret;exact⟨by rw[E.out]<;>rfl,rfl⟩
theorem tr_order(p q:Po)(w:aF)(hE:mN w)(h1:Sm p.x)(h2:Sm p.y)(h3:Sm q.x)(h4:Sm q.y):
 bE aE 139 #[p.v,q.v] w (Rt (aC aB (Q7 [(fH p.x q.x).1,(fH p.y q.y).1])) w):=by
 have HX:bK (∀W,Below w.heap.size w W→bE aE 42 #[aA (bs p.x),aA (bs q.x)] W (Rt (aC aB (fH p.x q.x).1) W)):=fun W hW=>mL p.x q.x W (hE.below hW) h1 h3;have HY:bK (∀W,Below w.heap.size w W→bE aE 42 #[aA (bs p.y),aA (bs q.y)] W (Rt (aC aB (fH p.y q.y).1) W)):=fun W hW=>mL p.y q.y W (hE.below hW) h2 h4;have HO:bK (∀(a b:Int)(W:aF),bE aE 138 #[aD (some ⟨W.heap.size,0,none⟩) 2 2] (W.alloc (aN #[aC aB a,aC aB b] 3)) fun e w'=>e=bA (aC aB (Q7 [a,b]))∧W.alloc (aN #[aC aB a,aC aB b] 3)=w'):=fun a b W=>
  cmp_or W.heap.size 0 2 2 [a,b] _ rfl (by decide) fun i hi=>by
   have q:=bT.new W #[aC aB a,aC aB b] 3;match i,hi with
   |0,_=>exact q.cell 0
   |1,_=>exact q.cell 1
 obtain⟨b0,b1,hb⟩:=KR (w:=w) (c1:=p.cells) (c2:=q.cells) (T1:=53) (T2:=53) rfl;have k0:=b0.cell 0;have k1:=b0.cell 1;have k2:=b1.cell 0;have k3:=b1.cell 1;unfold Po.v Po.cells at *;simp only[aJ,aI,bC]at k0 k1 k2 k3;have l1:=b0.lt;have l2:=b1.lt;have HB:=zq hb;clear hE h1 h2 h3 h4 hb b0 b1;generalize(fH p.x q.x).1=c1 at *;generalize(fH p.y q.y).1=c2 at *;generalize bs p.x=PX at *;generalize bs p.y=PY at *;generalize bs q.x=QX at *;generalize bs q.y=QY at *;go_enter func139,ntmps139;go_wp2;obtain⟨W0,eY⟩:∃W,(w.alloc (aN #[aA PX,aA PY] 53)).alloc (aN #[aA QX,aA QY] 53)=W:=⟨_,rfl⟩;rw[eY]at k0 k1 k2 k3 l1 l2 HB⊢;clear eY;go_region_held3 (fun w'=>(w'.cell? ⟨w.heap.size,0,none⟩=some (aA PX)∧w'.cell? ⟨w.heap.size,1,none⟩=some (aA PY))∧(w'.cell? ⟨w.heap.size+1,0,none⟩=some (aA QX)∧w'.cell? ⟨w.heap.size+1,1,none⟩=some (aA QY))) (go_keep)
  (first
   |(go_at_call 42;(with_reducible refine(HX.out _ HB.out.drew).mono ?_);rintro e w1 ⟨rfl,hb1⟩;have eC:=zq (HB.out.drew.trans (hb1.mono HB.out.size));have:=ck hb1 w.heap.size 0 (aA PX);have:=ck hb1 w.heap.size 1 (aA PY);have:=ck hb1 (w.heap.size+1) 0 (aA QX);have:=ck hb1 (w.heap.size+1) 1 (aA QY))
   |(go_at_call 42;(with_reducible refine(HY.out _ eC.out).mono ?_);rintro e w2 ⟨rfl,hb2⟩;have eT:=zq (eC.out.trans (hb2.mono eC.out.size));have:=ck hb2 w.heap.size 0 (aA PX);have:=ck hb2 w.heap.size 1 (aA PY);have:=ck hb2 (w.heap.size+1) 0 (aA QX);have:=ck hb2 (w.heap.size+1) 1 (aA QY))
   |(go_at_call 138;(with_reducible refine(HO.out _ _ _).mono ?_);rintro e w3 ⟨rfl,rfl⟩)
   |fail)
 go_wp2;go_ret;exact⟨rfl,eT.out.alloc eT.out.size _⟩
def I8(a b:Int):Int:=if a<b then -1 else if b<a then 1 else 0
theorem Pc(a:Int)(w:aF):bE aE 186 #[aC aB a] w fun e w'=>e=bA (.bool false)∧w=w':=by
 go_enter func186,ntmps186;go_wp2;go_ret;exact⟨by first |rfl|(simp;done),rfl⟩
theorem Uw(a b:Int)(w:aF):bE aE 140 #[aC aB a,aC aB b] w fun e w'=>e=bA (aC aB (I8 a b))∧∃n,w'=w.drewN n:=by
 have H1:=zq (fun W=>Pc a W);have H2:=zq (fun W=>Pc b W);by_cases h:a<b
 ·have E:bK (I8 a b= -1):=ip h;go_enter VM,Sb;go_wp2_with (first |(refine(H1.out _).mono ?_;rintro e w1 ⟨rfl,rfl⟩)|(refine(H2.out _).mono ?_;rintro e w1 ⟨rfl,rfl⟩))
  go_ret;exact⟨by rw[E.out]<;>rfl,0,rfl⟩
 ·by_cases h2:b<a
  ·have E:bK (I8 a b=1):=by show _=_;rw[I8,iN h,ip h2]
   go_enter VM,Sb;go_wp2_with (first |(refine(H1.out _).mono ?_;rintro e w1 ⟨rfl,rfl⟩)|(refine(H2.out _).mono ?_;rintro e w1 ⟨rfl,rfl⟩))
   go_ret;exact⟨by rw[E.out]<;>rfl,0,rfl⟩
  ·have E:bK (I8 a b=0):=by show _=_;rw[I8,iN h,iN h2]
   go_enter VM,Sb;go_wp2_with (first |(refine(H1.out _).mono ?_;rintro e w1 ⟨rfl,rfl⟩)|(refine(H2.out _).mono ?_;rintro e w1 ⟨rfl,rfl⟩))
   go_ret;exact⟨by rw[E.out]<;>rfl,0,rfl⟩
def BY(fs:List Fr)(at':List (List UInt8))(p q:Pt):Int:=
 Q7 [Q7 [(fH (bW fs at' p).x (bW fs at' q).x).1,(fH (bW fs at' p).y (bW fs at' q).y).1],I8 p.side q.side,(fH p.en q.en).1]
theorem three_nw{w:aF}{c1 c2 c3:Array aP}{T1 T2 T3:dT}:bT (((w.alloc (aN c1 T1)).alloc (aN c2 T2)).alloc (aN c3 T3)) w.heap.size c1 T1∧bT (((w.alloc (aN c1 T1)).alloc (aN c2 T2)).alloc (aN c3 T3)) (w.heap.size+1) c2 T2∧
 bT (((w.alloc (aN c1 T1)).alloc (aN c2 T2)).alloc (aN c3 T3)) (w.heap.size+1+1) c3 T3∧Below w.heap.size w (((w.alloc (aN c1 T1)).alloc (aN c2 T2)).alloc (aN c3 T3)):=by
 refine⟨((bT.new w _ _).alloc _).alloc _,?_,?_,(((aL _ w).alloc (aH _) _).alloc (by simp) _).alloc (by simp <;>omega) _⟩
 ·have:=(bT.new (w.alloc (aN c1 T1)) c2 T2).alloc (aN c3 T3);rwa[bH]at this
 ·have:=bT.new ((w.alloc (aN c1 T1)).alloc (aN c2 T2)) c3 T3;rwa[bH,bH]at this
theorem Pd(a b2:Option cO)(nf ca c2:Nat)(fs:List Fr)(at':List (List UInt8))(p q:Pt)(s t:Nat)(w:aF)(hE:mN w)
 (hs:p.side=s)(Ic:s<nf)(ht:q.side=t)(LJ:t<nf)(hf:fs.length=nf)(hl:at'.length=nf)(rf:vT w a fs)(ra:yJ w b2 at')
 (h1:Sm (bW fs at' p).x)(h2:Sm (bW fs at' p).y)(h3:Sm (bW fs at' q).x)(h4:Sm (bW fs at' q).y)(h5:Sm p.en)(h6:Sm q.en):
 bE aE 67 #[cF #[aD a nf ca,aD b2 nf c2],p.v,q.v] w (Rt (aC aB (BY fs at' p q)) w):=by
 have HP:bK (∀W,Below w.heap.size w W→bE aE 52 #[cF #[aD a nf ca,aD b2 nf c2],p.v] W (Rt ((bW fs at' p).v) W)):=fun W hW=>Ar a b2 nf ca c2 fs at' p s W hs Ic hf hl (rf.below hW) (ra.below hW);have HQ:bK (∀W,Below w.heap.size w W→bE aE 52 #[cF #[aD a nf ca,aD b2 nf c2],q.v] W (Rt ((bW fs at' q).v) W)):=fun W hW=>Ar a b2 nf ca c2 fs at' q t W ht LJ hf hl (rf.below hW) (ra.below hW);have HOr:bK (∀W,Below w.heap.size w W→bE aE 139 #[(bW fs at' p).v,(bW fs at' q).v] W (Rt (aC aB (Q7 [(fH (bW fs at' p).x (bW fs at' q).x).1,(fH (bW fs at' p).y (bW fs at' q).y).1])) W)):=fun W hW=>tr_order _ _ W (hE.below hW) h1 h2 h3 h4;have HZ:=zq (fun W=>Uw p.side q.side W);have HT:bK (∀W,Below w.heap.size w W→bE aE 42 #[aA (bs p.en),aA (bs q.en)] W (Rt (aC aB (fH p.en q.en).1) W)):=fun W hW=>mL p.en q.en W (hE.below hW) h5 h6;have HO:bK (∀(x y z:Int)(W:aF),bE aE 138 #[aD (some ⟨W.heap.size,0,none⟩) 3 3] (W.alloc (aN #[aC aB x,aC aB y,aC aB z] 3)) fun e w'=>e=bA (aC aB (Q7 [x,y,z]))∧W.alloc (aN #[aC aB x,aC aB y,aC aB z] 3)=w'):=fun x y z W=>
  cmp_or W.heap.size 0 3 3 [x,y,z] _ rfl (by decide) fun i hi=>by
   have q:=bT.new W #[aC aB x,aC aB y,aC aB z] 3;match i,hi with
   |0,_=>exact q.cell 0
   |1,_=>exact q.cell 1
   |2,_=>exact q.cell 2
 obtain⟨b0,b1,b2',hb⟩:=three_nw (w:=w) (c1:= #[aD a nf ca,aD b2 nf c2]) (c2:=p.cells) (c3:=q.cells) (T1:=64) (T2:=68) (T3:=68);have k0:=b0.cell 0;have k1:=b0.cell 1;have k2:=b1.cell 0;have k3:=b1.cell 1;have k4:=b1.cell 2;have k5:=b2'.cell 0;have k6:=b2'.cell 1;have k7:=b2'.cell 2;have E:bK (BY fs at' p q=Q7 [Q7 [(fH (bW fs at' p).x (bW fs at' q).x).1,(fH (bW fs at' p).y (bW fs at' q).y).1],I8 p.side q.side,(fH p.en q.en).1]):=rfl;unfold Pt.v Pt.cells at *;unfold Po.v Po.cells at *;simp only[aJ,aI,bC]at k0 k1 k2 k3 k4 k5 k6 k7;have l1:=b0.lt;have l2:=b1.lt;have l3:=b2'.lt;have HB:=zq hb;clear hE hs Ic ht LJ hf hl rf ra h1 h2 h3 h4 h5 h6 hb b0 b1 b2';generalize BY fs at' p q=RES at *;generalize bW fs at' p=cp at *;generalize bW fs at' q=cq at *;generalize Q7 [(fH cp.x cq.x).1,(fH cp.y cq.y).1]=o1 at *;generalize I8 p.side q.side=o2 at *;generalize(fH p.en q.en).1=o3 at *;obtain⟨ps,pf,pe⟩:=p;obtain⟨qs,qf,qe⟩:=q;simp only[]at *;generalize bs cp.x=PX at *;generalize bs cp.y=PY at *;generalize bs cq.x=QX at *;generalize bs cq.y=QY at *;generalize bs pf=PF at *;generalize bs pe=PE at *;generalize bs qf=QF at *;generalize bs qe=QE at *;go_enter func67,ntmps67;go_wp2;obtain⟨W0,eY⟩:∃W,((w.alloc (aN #[aD a nf ca,aD b2 nf c2] 64)).alloc (aN #[aC aB ps,aA PF,aA PE] 68)).alloc (aN #[aC aB qs,aA QF,aA QE] 68)=W:=⟨_,rfl⟩;rw[eY]at k0 k1 k2 k3 k4 k5 k6 k7 l1 l2 l3 HB⊢;clear eY;go_region_held3 (fun w'=>(w'.cell? ⟨w.heap.size,0,none⟩=some (aD a nf ca)∧w'.cell? ⟨w.heap.size,1,none⟩=some (aD b2 nf c2))∧(w'.cell? ⟨w.heap.size+1,0,none⟩=some (aC aB ps)∧w'.cell? ⟨w.heap.size+1,1,none⟩=some (aA PF)∧w'.cell? ⟨w.heap.size+1,2,none⟩=some (aA PE))∧(w'.cell? ⟨w.heap.size+1+1,0,none⟩=some (aC aB qs)∧w'.cell? ⟨w.heap.size+1+1,1,none⟩=some (aA QF)∧w'.cell? ⟨w.heap.size+1+1,2,none⟩=some (aA QE))) (go_keep)
  (first
   |(go_at_call 52;(with_reducible refine(HP.out _ HB.out.drew).mono ?_);rintro e w1 ⟨rfl,hb1⟩;have eC:=zq (HB.out.drew.trans (hb1.mono HB.out.size));have:=ck hb1 w.heap.size 0 (aD a nf ca);have:=ck hb1 w.heap.size 1 (aD b2 nf c2);have:=ck hb1 (w.heap.size+1) 0 (aC aB ps);have:=ck hb1 (w.heap.size+1) 1 (aA PF);have:=ck hb1 (w.heap.size+1) 2 (aA PE);have:=ck hb1 (w.heap.size+1+1) 0 (aC aB qs);have:=ck hb1 (w.heap.size+1+1) 1 (aA QF);have:=ck hb1 (w.heap.size+1+1) 2 (aA QE))
   |(go_at_call 52;(with_reducible refine(HQ.out _ eC.out).mono ?_);rintro e w2 ⟨rfl,hb2⟩;have eT:=zq (eC.out.trans (hb2.mono eC.out.size));have:=ck hb2 w.heap.size 0 (aD a nf ca);have:=ck hb2 w.heap.size 1 (aD b2 nf c2);have:=ck hb2 (w.heap.size+1) 0 (aC aB ps);have:=ck hb2 (w.heap.size+1) 1 (aA PF);have:=ck hb2 (w.heap.size+1) 2 (aA PE);have:=ck hb2 (w.heap.size+1+1) 0 (aC aB qs);have:=ck hb2 (w.heap.size+1+1) 1 (aA QF);have:=ck hb2 (w.heap.size+1+1) 2 (aA QE))
   |(go_at_call 139;(with_reducible refine(HOr.out _ eT.out).mono ?_);rintro e w3 ⟨rfl,hb3⟩;have HB3:=zq (eT.out.trans (hb3.mono eT.out.size));have:=ck hb3 w.heap.size 0 (aD a nf ca);have:=ck hb3 w.heap.size 1 (aD b2 nf c2);have:=ck hb3 (w.heap.size+1) 0 (aC aB ps);have:=ck hb3 (w.heap.size+1) 1 (aA PF);have:=ck hb3 (w.heap.size+1) 2 (aA PE);have:=ck hb3 (w.heap.size+1+1) 0 (aC aB qs);have:=ck hb3 (w.heap.size+1+1) 1 (aA QF);have:=ck hb3 (w.heap.size+1+1) 2 (aA QE))
   |(go_at_call 140;(with_reducible refine(HZ.out _).mono ?_);rintro e w4 ⟨rfl,n4,rfl⟩)
   |(go_at_call 42;(with_reducible refine(HT.out _ (by first |exact eF HB3.out _|exact HB3.out)).mono ?_);rintro e w5 ⟨rfl,hb5⟩;have xX:=zq ((eF HB3.out n4).trans (hb5.mono (eF HB3.out n4).size));have:=ck hb5 w.heap.size 0 (aD a nf ca);have:=ck hb5 w.heap.size 1 (aD b2 nf c2);have:=ck hb5 (w.heap.size+1) 0 (aC aB ps);have:=ck hb5 (w.heap.size+1) 1 (aA PF);have:=ck hb5 (w.heap.size+1) 2 (aA PE);have:=ck hb5 (w.heap.size+1+1) 0 (aC aB qs);have:=ck hb5 (w.heap.size+1+1) 1 (aA QF);have:=ck hb5 (w.heap.size+1+1) 2 (aA QE))
   |(go_at_call 138;(with_reducible refine(HO.out _ _ _ _).mono ?_);rintro e w6 ⟨rfl,rfl⟩)
   |fail)
 go_wp2;go_ret;exact⟨by rw[E.out]<;>rfl,xX.out.alloc xX.out.size _⟩
end
section
open Go Go.Sort
section
variable{α:Type}(lt:α→α→Bool)
def oV(x:α):List α→List α
 |[]=>[x]
 |y::l=>if lt x y=true then x::y::l else y::oV x l
def nU(l:List α):List α:=l.foldl (fun out x=>oV lt x out) []
def GK(l:List α):Prop:=l.Pairwise fun a b=>lt b a=false
theorem GL(x:α)(l:List α)(z:α):z∈oV lt x l↔z=x∨z∈l:=by
 induction l with
 |nil=>simp[oV]
 |cons y l ih=>
  unfold oV;split
  ·simp
  ·rw[nI,ih,nI];constructor
   ·rintro(h|h|h)
    ·exact .inr (.inl h)
    ·exact .inl h
    ·exact .inr (.inr h)
   ·rintro(h|h|h)
    ·exact .inr (.inl h)
    ·exact .inl h
    ·exact .inr (.inr h)
theorem insL_len(x:α)(l:List α):(oV lt x l).length=l.length+1:=by
 induction l with
 |nil=>rfl
 |cons y l ih=>
  unfold oV;split
  ·rfl
  ·rw[bD,ih,bD]
theorem io{x y:α}{l:List α}(h:lt x y=true):oV lt x (l++[y])=oV lt x l++[y]:=by
 induction l with
 |nil=>simp[oV,h]
 |cons z l ih=>
  rw[List.cons_append,oV,oV];split
  ·rfl
  ·rw[ih];rfl
theorem insL_end{x:α}{l:List α}(h:∀z∈l,lt x z=false):oV lt x l=l++[x]:=by
 induction l with
 |nil=>rfl
 |cons z l ih=>
  rw[oV,iN (by rw[h z (cW ..)];decide),ih fun u hu=>h u (dA _ hu)];rfl
variable{lt}
theorem insL_asc[Inhabited α](hS:SWO lt){x:α}{l:List α}(h:GK lt l):GK lt (oV lt x l):=by
 unfold GK at *;induction l with
 |nil=>simp[oV]
 |cons y l ih=>
  rw[sO]at h;unfold oV;split
  ·rename_i hxy;rw[sO,sO];refine⟨fun z hz=>?_,h⟩;have hyx:lt y x=false:=by
    cases e:lt y x with
    |false=>rfl
    |true=>have:=hS.trans _ _ _ hxy e;rw[hS.irrefl]at this;cases this
   rcases List.mem_cons.1 hz with rfl|hz
   ·exact hyx
   ·exact hS.ntrans _ _ _ (h.1 z hz) hyx
  ·rename_i hxy;rw[sO];refine⟨fun z hz=>?_,ih h.2⟩;rcases(GL lt x l z).1 hz with rfl|hz
   ·simpa using hxy
   ·exact h.1 z hz
variable[Inhabited α]
theorem Mx(hS:SWO lt):∀(n:Nat)(P:List α)(x:α)(R:List α),P.length=n→GK lt P→insInner lt 0 n (P++x::R).toArray=(oV lt x P++R).toArray
 |0,P,x,R,hP,_=>by
  obtain rfl:P=[]:=List.length_eq_zero_iff.1 hP
  rfl
 |n+1,P,x,R,hP,hA=>by
  obtain⟨Q,y,rfl⟩:∃Q y,P=Q++[y]:=⟨P.dropLast,P.getLast (by intro e;rw[e]at hP;cases hP),(List.dropLast_concat_getLast _).symm⟩
  have hQ:Q.length=n:=by rw[bO]at hP;simpa using hP
  have e1:(Q++[y]++x::R).toArray[n+1]! =x:=by
   rw[Wl,KI,gA (by rw[hP];exact aH _),hP];simp
  have e0:(Q++[y]++x::R).toArray[n]! =y:=by
   rw[Wl,KI,A8,gA (by rw[hQ];exact aH _),hQ];simp
  unfold GK at hA;rw[List.pairwise_append]at hA;rw[insInner,e1,e0];by_cases hl:lt x y=true
  ·rw[ip (by simp[hl])];have es:swp (Q++[y]++x::R).toArray (n+1) n=(Q++x::(y::R)).toArray:=by
    unfold swp;rw[e1,e0,aM,aM,A8,Wi _ _ (by omega),Wi _ _ (by omega),show n+1-Q.length=1 by omega,show n-Q.length=0 by omega];rfl
   rw[es,Mx hS n Q x (y::R) hQ hA.1,io lt hl];simp
  ·rw[iN (by simp[hl])];have hf:lt x y=false:=by simpa using hl
   rw[insL_end lt (l:=Q++[y]) fun z hz=>?_]
   ·simp
   ·rcases List.mem_append.1 hz with h|h
    ·exact hS.ntrans _ _ _ hf (hA.2.2 z h y (by simp))
    ·rw[List.mem_singleton.1 h];exact hf
theorem XD(l:List α)(x:α):nU lt (l++[x])=oV lt x (nU lt l):=by unfold nU;rw[List.foldl_append];rfl
theorem AE(l:List α):(nU lt l).length=l.length:=by
 suffices h:∀(l m:List α),(l.foldl (fun out x=>oV lt x out) m).length=l.length+m.length by
  have:=h l [];simpa[nU]using this
 intro l;induction l with
 |nil=>intro m;simp
 |cons x l ih=>intro m;rw[oI,ih,insL_len,bD];omega
theorem iq(hS:SWO lt)(l:List α):GK lt (nU lt l):=by
 suffices h:∀(l m:List α),GK lt m→GK lt (l.foldl (fun out x=>oV lt x out) m) by exact h l [] Jv
 intro l;induction l with
 |nil=>intro m h;exact h
 |cons x l ih=>intro m h;rw[oI];exact ih _ (insL_asc hS h)
theorem ir(l:List α)(z:α):z∈nU lt l↔z∈l:=by
 suffices h:∀(l m:List α),z∈l.foldl (fun out x=>oV lt x out) m↔z∈l∨z∈m by
  have:=h l [];simpa[nU]using this
 intro l;induction l with
 |nil=>intro m;simp
 |cons x l ih=>
  intro m;rw[oI,ih,GL,nI];constructor
  ·rintro(h|h|h)
   ·exact .inl (.inr h)
   ·exact .inl (.inl h)
   ·exact .inr h
  ·rintro((h|h)|h)
   ·exact .inr (.inl h)
   ·exact .inl h
   ·exact .inr (.inr h)
theorem My(hS:SWO lt)(l:List α):∀(m i:Nat),m+i=l.length→insOuter lt 0 l.length i (nU lt (l.take i)++l.drop i).toArray=(nU lt l).toArray
 |0,i,h=>by
  rw[insOuter,iN (by omega),eM (by omega),List.drop_eq_nil_of_le (by omega),List.append_nil]
 |m+1,i,h=>by
  have hi:i<l.length:=by omega
  rw[insOuter,ip hi,List.drop_eq_getElem_cons hi,Mx hS i _ _ _ (by rw[AE,fU];omega) (iq hS _),←XD,←cN hi]
  exact My hS l m (i+1) (by omega)
theorem Mz(hS:SWO lt)(l:List α):bo lt l.toArray 0 l.length=(nU lt l).toArray:=by
 unfold bo;cases l with
 |nil=>rw[insOuter,iN (by simp)];rfl
 |cons x l=>
  have:=My hS (x::l) l.length 1 (by rw[bD]);exact this
theorem insL_map{β:Type}{f:α→β}{lt':β→β→Bool}(h:∀x y,lt x y=lt' (f x) (f y))(x:α)(l:List α):(oV lt x l).map f=oV lt' (f x) (l.map f):=by
 induction l with
 |nil=>rfl
 |cons y l ih=>
  rw[oV,nJ,oV,h];split
  ·rfl
  ·rw[nJ,ih]
theorem it{β:Type}{f:α→β}{lt':β→β→Bool}(h:∀x y,lt x y=lt' (f x) (f y))(l:List α):(nU lt l).map f=nU lt' (l.map f):=by
 suffices hh:∀(l m:List α),(l.foldl (fun out x=>oV lt x out) m).map f=(l.map f).foldl (fun out x=>oV lt' x out) (m.map f) by exact hh l []
 intro l;induction l with
 |nil=>intro m;rfl
 |cons x l ih=>intro m;rw[oI,ih,nJ,oI,insL_map h]
end
end
section
open Go Go.RowKit Go.Lib
def gQ(fs:List Fr)(at':List (List UInt8))(ps:List Pt):Nat→Nat
 |0=>0
 |k+1=>if BY fs at' (ps.getD k default) (ps.getD (gQ fs at' ps k) default)<0 then k else gQ fs at' ps k
theorem qH(fs:List Fr)(at':List (List UInt8))(ps:List Pt):∀k,0<k→gQ fs at' ps k<k
 |0,h=>absurd h (by decide)
 |k+1,_=>by
  unfold gQ
  split
  ·omega
  ·rcases jM k with e|e
   ·subst e;simp[gQ]
   ·have:=qH fs at' ps k e;omega
theorem Ko{P:dN}{fn:Func}{p:Tmp}{ty T:dT}(h:fn.results= #[.cell p ty])(tmps:Array aP)(w:aF)(g:Nat)(x y z:aP)
 (hp:tmps.getD p aO=aY (some ⟨g,0,none⟩))(hb:bT w g #[x,y,z] T)(ha:∀w,(isAgg ty).run P w=.ok true w)(hs:∀w,(sizeOf ty).run P w=.ok 3 w):
 (results fn tmps).run P w=.ok (cF #[x,y,z]) w:=by
 have Td:tmps[p]?.getD aO=aY (some ⟨g,0,none⟩):=by simpa using hp
 have c0:=hb.cell 0;have c1:=hb.cell 1;have c2:=hb.cell 2;simp only[aJ,aI,bC]at c0 c1 c2;simp[results,h,go_sem,Td,c0,c1,c2,ha,hs]
theorem bT.set3{W:aF}{b:Nat}{x y z:aP}{T:dT}(h:bT W b #[x,y,z] T)(u v r:aP):bT (((W.setCell ⟨b,0,none⟩ u).setCell ⟨b,1,none⟩ v).setCell ⟨b,2,none⟩ r) b #[u,v,r] T:=((h.set 0 u).set 1 v).set 2 r
theorem bT.oth3{W:aF}{b c:Nat}{cs:Array aP}{T:dT}(h:bT W b cs T)(iC:b≠c)(u v r:aP):bT (((W.setCell ⟨c,0,none⟩ u).setCell ⟨c,1,none⟩ v).setCell ⟨c,2,none⟩ r) b cs T:=((h.other u iC).other v iC).other r iC
theorem MB{B:Nat}{w W:aF}(h:Below B w W){c:Nat}(hc:B≤c)(u v r:aP):Below B w (((W.setCell ⟨c,0,none⟩ u).setCell ⟨c,1,none⟩ v).setCell ⟨c,2,none⟩ r):=
 ((h.setCell (p:=⟨c,0,none⟩) hc u).setCell (p:=⟨c,1,none⟩) hc v).setCell (p:=⟨c,2,none⟩) hc r
theorem bT.all3{W:aF}{b:Nat}{x y z:aP}{T:dT}(h:bT W b #[x,y,z] T):W.cell? ⟨b,0,none⟩=some x∧W.cell? ⟨b,1,none⟩=some y∧W.cell? ⟨b,2,none⟩=some z∧W.frozen? ⟨b,0,none⟩=false∧W.frozen? ⟨b,1,none⟩=false∧W.frozen? ⟨b,2,none⟩=false∧b<W.heap.size:=
 ⟨h.cell 0,h.cell 1,h.cell 2,h.fz 0,h.fz 1,h.fz 2,h.lt⟩
theorem iu (pa:Option cO) (tv:aP) (n cap:Nat) (fs:List Fr) (at' :List (List UInt8)) (ps:List Pt) (w:aF) (NK:0 < n) (hn:n≤1000000) (hl:ps.length=n) (rp:FE w pa ps)
 (hb:∀ i j,i < n→j < n→∀ W,Below w.heap.size w W→bE aE 67 #[tv,(ps.getD i default).v,(ps.getD j default).v] W (Rt (aC aB (BY fs at' (ps.getD i default) (ps.getD j default))) W)) :
 bE aE 66 #[aD pa n cap, .func (.func 67) #[tv] #[]] w (Rt ((ps.getD (gQ fs at' ps n) default).v) w):=by
 have rn:=zq hb;have HR:=zq rp;have Hl:=zq hl;obtain⟨pb,po,rfl,c0,c1,c2⟩:=rp.at (i:=0) (by omega) rfl;have lb:pb < w.heap.size:=World.block_lt_of_cell? w ⟨pb,_,none⟩ c0;simp only [yW,oG] at c0 c1 c2;have HM0:bK (gQ fs at' ps 1=0):=by show _=_;unfold gQ;simp [gQ]
 have HMs:bK (∀ k,BY fs at' (ps.getD k default) (ps.getD (gQ fs at' ps k) default) < 0→gQ fs at' ps (k + 1)=k):=fun k h=> by rw [gQ,ip h]
 have HMn:bK (∀ k,¬ BY fs at' (ps.getD k default) (ps.getD (gQ fs at' ps k) default) < 0→gQ fs at' ps (k + 1)=gQ fs at' ps k):=fun k h=> by rw [gQ,iN h]
 have rq:bK (∀ k,0 < k→gQ fs at' ps k < k):=fun k h=> qH fs at' ps k h;clear hb rp hl;obtain⟨RV,HRV⟩:∃ v,bK ((ps.getD (gQ fs at' ps n) default).v=v):=⟨_,rfl⟩;rw [HRV.out];have nlt:((n:Int) < 1)=False:=eq_false (by omega);go_enter func66,ntmps66;obtain⟨W1,rS⟩:∃ W,(w.alloc (aN #[aC aB 0,aA ⟨#[]⟩,aA ⟨#[]⟩] 68)).alloc (aN (ps.getD 0 default).cells 68)=W:=⟨_,rfl⟩;have q4:bT W1 w.heap.size #[aC aB 0,aA ⟨#[]⟩,aA ⟨#[]⟩] 68:=by rw [← rS];exact(bT.new w _ _).alloc _
 have q5:bT W1 (w.heap.size + 1) (ps.getD 0 default).cells 68:=by
  rw [← rS];have:=bT.new (w.alloc (aN #[aC aB 0,aA ⟨#[]⟩,aA ⟨#[]⟩] 68)) (ps.getD 0 default).cells 68;rwa [bH] at this
 have FD:Below w.heap.size w W1:=by rw [← rS];exact((aL _ w).alloc (aH _) _).alloc (by simp) _
 have HS0:bK (bT W1 w.heap.size #[aC aB 0,aA ⟨#[]⟩,aA ⟨#[]⟩] 68∧bT W1 (w.heap.size + 1) (ps.getD (gQ fs at' ps 1) default).cells 68∧Below w.heap.size w W1):=by rw [HM0.out];exact⟨q4,q5,FD⟩
 clear q4 q5 FD;generalize hP0:ps.getD 0 default=P0 at *;go_wp2;unfold Pt.cells at rS;try rw [rS]
 clear rS c0 c1 c2 lb nlt hP0;go_loopw [6] (fun i wr=> ∃ k:Nat,i=aC aB (k:Int)∧1≤k∧k≤n∧bK (bT wr w.heap.size #[aC aB 0,aA ⟨#[]⟩,aA ⟨#[]⟩] 68∧bT wr (w.heap.size + 1) (ps.getD (gQ fs at' ps k) default).cells 68∧Below w.heap.size w wr)) (fun i _=> n - (aK i).toNat);case atStart=> exact⟨1,rfl,by omega,by omega,HS0⟩
 case round=>
  clear HS0 HM0;obtain⟨k,rfl,fg,hk,HS⟩:=hrel;obtain⟨q4,q5,hB⟩:=HS.out;have DZ:=zq q4;have vG:=zq q5;have HB:=zq hB;clear HS q4 q5 hB;by_cases hlt:k < n
  ·have hltI:(k:Int) < n:=by omega
   have hk0:(0:Int)≤(k:Int):=by omega
   obtain⟨pb',po',O8,d0,d1,d2⟩:=(HR.out.below HB.out).at (i:=k) (by rw [Hl.out];exact hlt) rfl;injection O8 with O8;injection O8 with e1 e2;subst e1 e2;have HC:=zq (fun W hW=> rn.out k (gQ fs at' ps k) hlt (Nat.lt_trans (rq.out k (by omega)) hlt) W hW);have hms:=HMs.out k;have hmn:=HMn.out k;obtain⟨x0,x1,x2,z0,z1,z2,lq⟩:=vG.out.all3;generalize hPK:ps.getD k default=PK at d0 d1 d2 HC hms hmn;have HPK:=zq hPK;clear hPK;generalize hPM:ps.getD (gQ fs at' ps k) default=PM at vG HC hms hmn x0 x1 x2;have HPM:=zq hPM;clear hPM;obtain⟨cv,hcv⟩:∃ c,BY fs at' PK PM=c:=⟨_,rfl⟩;rw [hcv] at HC hms hmn;clear hcv;obtain⟨ks,kf,ke⟩:=PK;obtain⟨ms,mf,me⟩:=PM;unfold Pt.v at HC;unfold Pt.cells at HC vG;simp only [] at *;obtain⟨KF,HKF⟩:∃ x,bK (bs kf=x):=⟨_,rfl⟩;simp only [HKF.out] at HC d1;obtain⟨KE,HKE⟩:∃ x,bK (bs ke=x):=⟨_,rfl⟩;simp only [HKE.out] at HC d2;obtain⟨MF,HMF⟩:∃ x,bK (bs mf=x):=⟨_,rfl⟩;simp only [HMF.out] at HC vG x1;obtain⟨ME,HME⟩:∃ x,bK (bs me=x):=⟨_,rfl⟩;simp only [HME.out] at HC vG x2;go_wp2_with fail
   go_region_held3 (fun w' => (w'.cell? ⟨w.heap.size + 1,0,none⟩=some (aC aB ms)∧w'.cell? ⟨w.heap.size + 1,1,none⟩=some (aA MF)∧w'.cell? ⟨w.heap.size + 1,2,none⟩=some (aA ME))∧w'.cell? ⟨pb,po + k * 3,none⟩=some (aC aB ks)∧w'.cell? ⟨pb,po + k * 3 + 1,none⟩=some (aA KF)∧w'.cell? ⟨pb,po + k * 3 + 2,none⟩=some (aA KE)) (go_keep)
    (first
     | (go_at_call 67;(with_reducible refine(HC.out _ HB.out.drew).mono ?_);rintro e w1 ⟨rfl,hb1⟩;have GD:Below wr.heap.size wr w1:=(aL _ wr).drew.trans hb1;have eC:=zq (aQ HB.out GD);have HQ41:=zq (DZ.out.below GD DZ.out.lt);have HQ51:=zq (vG.out.below GD vG.out.lt);have f0:=bR GD x0;have f1:=bR GD x1;have f2:=bR GD x2;have f3:=bR GD d0;have f4:=bR GD d1;have f5:=bR GD d2;clear GD)
     | fail)
   clear x0 x1 x2 z0 z1 z2 lq d0 d1 d2 f0 f1 f2 hb1 DZ vG;have HB:=eC;obtain⟨x0,x1,x2,z0,z1,z2,lq⟩:=HQ51.out.all3;have HPz:bK (w.heap.size + 1≠w.heap.size):=by show _≠_;omega
   by_cases hc:cv < 0
   ·have HM:=zq (hms hc);clear hms hmn;have HQ6:=zq (HQ51.out.set3 (aC aB ks) (aA KF) (aA KE));have Uo:=zq (HQ41.out.oth3 (Ne.symm HPz.out) (aC aB ks) (aA KF) (aA KE));have Ig:=zq (MB eC.out (c:=w.heap.size + 1) (Nat.le_succ _) (aC aB ks) (aA KF) (aA KE));go_wp2;go_roundw;case rel=> exact⟨k + 1,by go_num,by omega,by omega,Uo.out,by rw [HM.out,HPK.out];show bT _ _ #[aC aB ks,aA (bs kf),aA (bs ke)] _;rw [HKF.out,HKE.out];exact HQ6.out,Ig.out⟩
    case measure=> simp only [aK];omega
   ·have HM:=zq (hmn (by omega));clear hms hmn;go_wp2;go_roundw;case rel=> exact⟨k + 1,by go_num,by omega,by omega,HQ41.out,by rw [HM.out,HPM.out];show bT _ _ #[aC aB ms,aA (bs mf),aA (bs me)] _;rw [HMF.out,HME.out];exact HQ51.out,eC.out⟩
    case measure=> simp only [aK];omega
  ·obtain rfl:k=n:=by omega
   clear HMs HMn rq rn HR fg;obtain⟨PV,hPV⟩:∃ q,ps.getD (gQ fs at' ps k) default=q:=⟨_,rfl⟩;have hRV:=HRV.out;rw [hPV] at vG hRV;have R:bK (RV=cF #[aC aB PV.side,aA (bs PV.fr),aA (bs PV.en)]):=hRV.symm;clear hPV hRV;unfold Pt.cells at vG;generalize bs PV.fr=MF at vG R;generalize bs PV.en=ME at vG R;generalize PV.side=ms at vG R;obtain⟨x0,x1,x2, -, -, -,lq⟩:=vG.out.all3;obtain⟨y0,y1,y2,z0,z1,z2,l4⟩:=DZ.out.all3;have HQ6:=zq (DZ.out.set3 (aC aB ms) (aA MF) (aA ME));have zV:=zq (MB HB.out (c:=w.heap.size) (aH _) (aC aB ms) (aA MF) (aA ME));go_wp2;refine bodyPost_ret (Ko (T:=68) Tryz.results66 _ _ w.heap.size _ _ _ rfl HQ6.out isAgg68 sizeOf68) rfl ⟨by rw [R.out] <;> rfl,zV.out⟩
end
section
open Go Go.Lib Go.Sort
def C4(x y:Rat)(s:Int)(e:Rat)(x' y':Rat)(s':Int)(e':Rat):Prop:=x<x'∨(x=x'∧(y<y'∨(y=y'∧(s<s'∨(s=s'∧e<e')))))
theorem KW(x y:Rat)(s:Int)(e:Rat):¬C4 x y s e x y s e:=by unfold C4;grind
theorem I9{a b:Rat}{s:Int}{e a' b':Rat}{s':Int}{e' a'' b'':Rat}{s'':Int}{e'':Rat}(h:C4 a b s e a' b' s' e')(k:C4 a' b' s' e' a'' b'' s'' e''):C4 a b s e a'' b'' s'' e'':=by unfold C4 at *;grind
theorem Fl{a b:Rat}{s:Int}{e a' b':Rat}{s':Int}{e' a'' b'':Rat}{s'':Int}{e'':Rat}(h:¬C4 a b s e a' b' s' e')(k:¬C4 a' b' s' e' a'' b'' s'' e''):¬C4 a b s e a'' b'' s'' e'':=by unfold C4 at *;grind
theorem lex_asym{a b:Rat}{s:Int}{e a' b':Rat}{s':Int}{e':Rat}(h:C4 a b s e a' b' s' e'):¬C4 a' b' s' e' a b s e:=by unfold C4 at *;grind
theorem Ux(x y:Rat):(nH x y<0↔x<y)∧(0<nH x y↔y<x)∧(nH x y=0↔x=y):=by
 unfold nH;by_cases h:x<y
 ·rw[ip h];exact⟨by simp[h],by constructor <;>intro k<;>grind,by constructor <;>intro k<;>grind⟩
 ·rw[iN h];by_cases h2:y<x
  ·rw[ip h2];exact⟨by constructor <;>intro k<;>grind,by simp[h2],by constructor <;>intro k<;>grind⟩
  ·rw[iN h2];exact⟨by constructor <;>intro k<;>grind,by constructor <;>intro k<;>grind,by constructor <;>intro k<;>grind⟩
theorem orI_neg(a b c d:Int):Q7 [Q7 [a,b],c,d]<0↔a<0∨(a=0∧(b<0∨(b=0∧(c<0∨(c=0∧d<0))))):=by
 simp only[Q7]
 repeat' split
 all_goals omega
structure uS(fs:List Fr)(at':List (List UInt8))(p:Pt):Prop where
 side:∃s:Nat,p.side=s∧s<fs.length
 x:Nm (bW fs at' p).x
 y:Nm (bW fs at' p).y
 en:Nm p.en
def N3(fs:List Fr)(at':List (List UInt8))(p q:Pt):Prop:=C4 (cT (bW fs at' p).x) (cT (bW fs at' p).y) p.side (cT p.en) (cT (bW fs at' q).x) (cT (bW fs at' q).y) q.side (cT q.en)
section
variable{fs:List Fr}{at':List (List UInt8)}{p q r:Pt}
theorem yR(hp:uS fs at' p)(hq:uS fs at' q):BY fs at' p q<0↔N3 fs at' p q:=by
 unfold BY;rw[orI_neg,hp.x.cmp hq.x,hp.y.cmp hq.y,hp.en.cmp hq.en];simp only[(Ux _ _).1,(Ux _ _).2.2];have e1:I8 p.side q.side<0↔p.side<q.side:=by unfold I8;(repeat' split)<;>omega
 have e2:I8 p.side q.side=0↔p.side=q.side:=by unfold I8;(repeat' split)<;>omega
 rw[e1,e2];rfl
theorem MC{ps:List Pt}(h:∀i,i<ps.length→uS fs at' (ps.getD i default)):∀k,k≤ps.length→∀j,j<gQ fs at' ps k→BY fs at' (ps.getD (gQ fs at' ps k) default) (ps.getD j default)<0
 |0,_,j,hj=>by simp[gQ]at hj
 |k+1,hk,j,hj=>by
  unfold gQ at hj⊢
  by_cases hc:BY fs at' (ps.getD k default) (ps.getD (gQ fs at' ps k) default)<0
  ·rw[ip hc]at hj⊢
   have hmin:∀m,m≤k→∀i,i<m→¬N3 fs at' (ps.getD i default) (ps.getD (gQ fs at' ps m) default):=by
    intro m;induction m with
    |zero=>intro _ i hi;omega
    |succ m ih=>
     intro hm i hi;have IP:gQ fs at' ps m≤m:=by
      rcases jM m with e|e
      ·subst e;simp[gQ]
      ·exact jS (qH fs at' ps m e)
     unfold gQ;by_cases hc2:BY fs at' (ps.getD m default) (ps.getD (gQ fs at' ps m) default)<0
     ·rw[ip hc2];rw[yR (h m (by omega)) (h _ (by omega))]at hc2;rcases fP i m with h1|h1
      ·intro h3;exact ih (by omega) i h1 (I9 h3 hc2)
      ·obtain rfl:i=m:=by omega
       exact KW _ _ _ _
     ·rw[iN hc2];rw[yR (h m (by omega)) (h _ (by omega))]at hc2;rcases fP i m with h1|h1
      ·exact ih (by omega) i h1
      ·obtain rfl:i=m:=by omega
       exact hc2
   have hkm:gQ fs at' ps k≤k:=by
    rcases jM k with e|e
    ·subst e;simp[gQ]
    ·exact jS (qH fs at' ps k e)
   rw[yR (h k (by omega)) (h _ (by omega))]at hc⊢;have h2:=hmin k (aH _) j hj;unfold N3 at *;revert hc h2;generalize cT (bW fs at' (ps.getD k default)).x=x1;generalize cT (bW fs at' (ps.getD k default)).y=y1;generalize(ps.getD k default).side=s1;generalize cT (ps.getD k default).en=e1;generalize cT (bW fs at' (ps.getD j default)).x=x2;generalize cT (bW fs at' (ps.getD j default)).y=y2;generalize(ps.getD j default).side=s2;generalize cT (ps.getD j default).en=e2;intro hc h2;exact cZ fun h3=>Fl h3 h2 hc
  ·rw[iN hc]at hj⊢;exact MC h k (by omega) j hj
theorem minP_ne{ps:List Pt}(h:∀i,i<ps.length→uS fs at' (ps.getD i default)){j:Nat}(hj:j<gQ fs at' ps ps.length)(hn:0<ps.length):ps.getD (gQ fs at' ps ps.length) default≠ps.getD j default:=by
 intro e;have h1:=MC h ps.length (aH _) j hj;have hl:=qH fs at' ps ps.length hn;rw[yR (h _ hl) (h _ (by omega)),e]at h1;exact KW _ _ _ _ h1
end
end
section
open Go Go.Lib
section
variable{κ τ:Type}[DecidableEq κ]
theorem MD(key:Nat→κ)(lo hi:Nat→τ):∀k,∀e∈Aw key lo hi k,∃i j,i<k∧j<k∧e=(key i,lo i,hi j)
 |0,e,h=>by simp[Aw]at h
 |k+1,e,h=>by
  rw[Aw]at h
  split at h
  ·rcases List.mem_cons.1 h with rfl|h
   ·exact⟨k,k,by omega,by omega,rfl⟩
   ·obtain⟨i,j,h1,h2,h3⟩:=MD key lo hi k e h
    exact⟨i,j,by omega,by omega,h3⟩
  ·have ih:=MD key lo hi k
   revert h ih
   generalize Aw key lo hi k=l
   intro h ih
   match l,h with
   |(a,b,c)::l,h=>
    rw[Zu]at h
    rcases List.mem_cons.1 h with rfl|h
    ·obtain⟨i,j,h1,h2,h3⟩:=ih _ (cW ..)
     injection h3 with e1 e2
     injection e2 with e2 e3
     exact⟨i,k,by omega,by omega,by rw[e1,e2]⟩
    ·obtain⟨i,j,h1,h2,h3⟩:=ih e (dA _ h)
     exact⟨i,j,by omega,by omega,h3⟩
theorem MG{key key':Nat→κ}{lo lo' hi Zg:Nat→τ}:∀k,(∀i,i<k→key i=key' i∧lo i=lo' i∧hi i=Zg i)→Aw key lo hi k=Aw key' lo' Zg k
 |0,_=>rfl
 |k+1,h=>by
  rw[Aw,Aw,MG k fun i hi=>h i (by omega),(h k (by omega)).1,(h k (by omega)).2.1,(h k (by omega)).2.2]
  rcases jM k with e|e
  ·subst e;simp
  ·rw[(h (k-1) (by omega)).1]
end
theorem Q8{S S':WL}{xs ys:List (List UInt8)}{l:List Wy}(h:∀w∈l,rR S w=rR S' w):fA S xs ys l=fA S' xs ys l:=by
 have hm:∀i,i<l.length→l.getD i default∈l:=fun i hi=>bU hi default;have hk:∀w∈l,QH S w=QH S' w:=fun w hw=>by unfold QH;rw[h w hw]
 have hs:∀a∈l,∀b∈l,nT S a b=nT S' a b:=fun a ha b hb=>by rw[DA,DA,hk a ha,hk b hb]
 have hf:∀k,k≤l.length→kX S l k=kX S' l k:=by
  intro k;induction k with
  |zero=>intro _;rfl
  |succ k ih=>
   intro hkl;rw[kX,kX,ih (by omega),hs _ (hm _ (dB _ (by omega))) _ (hm k (by omega))]
 have hfw:eN S l=eN S' l:=by unfold eN;rw[hf _ (aH _)]
 unfold fA iZ;rw[hfw];congr 2;refine MG _ fun i hi=>⟨hk _ (Gx (k:=eN S' l) (bU ?_ default)),rfl,rfl⟩;unfold Fb;rw[bO,eZ,fU];omega
def XE(E:List Sg)(w:Wy):Int:=(tR E w).getD 0
def Uy(E:List Sg)(X Y:Nat):WL:=(oA X Y).map fun w=>(w,XE E w)
theorem mget_map{f:Wy→Int}{l:List Wy}{w:Wy}(h:w∈l):gV (l.map fun v=>(v,f v)) w=some (f w):=by
 induction l with
 |nil=>cases h
 |cons v l ih=>
  rw[nJ];by_cases e:v=w
  ·subst e;simp[gV]
  ·rcases List.mem_cons.1 h with c|c
   ·exact absurd c.symm e
   ·have:=ih c;simp[gV,e]at this⊢;exact this
theorem MH{E:List Sg}{X Y:Nat}{w:Wy}(h:w∈oA X Y):rR (Uy E X Y) w=XE E w:=by
 unfold rR Uy;rw[mget_map h];rfl
def C5(fs:List Fr)(at' xs ys:List (List UInt8))(ls:List Lp):List Sg:=(ls.flatMap Lp.ps).map (gT fs at' xs ys)
noncomputable def GM (fs:List Fr) (at' xs ys:List (List UInt8)) (ls:List Lp):List (List Pt):=
 (jA (nB fs at' xs ys ls) (oA xs.length ys.length)).2.map (fA (Uy (C5 fs at' xs ys ls) xs.length ys.length) xs ys)
theorem trcP_of{fs:List Fr}{at' xs ys:List (List UInt8)}{ls:List Lp}{S:WL}(h:∀w,lH (nB fs at' xs ys ls) w=true→rR S w=XE (C5 fs at' xs ys ls) w):
 (jA (nB fs at' xs ys ls) (oA xs.length ys.length)).2.map (fA S xs ys)=GM fs at' xs ys ls:=by
 have hc:=AB fs at' xs ys ls;have C3:=xH hc (oA xs.length ys.length);unfold GM;refine iX fun l hl=>Q8 fun w hw=>?_;have hb:=C3.bor w (by rw[C3.all];exact List.mem_flatten.2 ⟨l,hl,hw⟩);rw[h w hb,MH (Fg hc hb)]
theorem XF{S:WL}{xs ys:List (List UInt8)}{l:List Wy}{p:Pt}(h:p∈fA S xs ys l):∃u∈l,∃v∈l,p=⟨rR S u,Xi xs ys u,TU xs ys v⟩:=by
 unfold fA iZ at h;obtain⟨e,he,rfl⟩:=List.mem_map.1 h;rw[List.mem_reverse]at he;obtain⟨i,j,hi,hj,rfl⟩:=MD _ _ _ _ _ he;have hr:(Fb l (eN S l)).length=l.length:=by unfold Fb;rw[bO,eZ,fU];omega
 exact⟨_,Gx (bU (by rw[hr];exact hi) default),_,Gx (bU (by rw[hr];exact hj) default),rfl⟩
theorem iw{xs ys:List (List UInt8)}{x y d:Nat}(hx:x<xs.length)(hy:y<ys.length):Bm xs ys x y d∈if d%2=1 then ys else xs:=by
 unfold Bm;split
 ·exact bU hy []
 ·exact bU hx []
structure TrcOk(fs:List Fr)(at':List (List UInt8))(Fh:List (List Pt)):Prop where
 n:Fh.length≤18
 len:∀ps∈Fh,0<ps.length∧ps.length≤10000
 ok:∀ps∈Fh,∀p∈ps,uS fs at' p
theorem trc_ok{fs:List Fr}{at':List (List UInt8)}{ls:List Lp}{dx dy:List (List UInt8)}(h:Br fs at' ls dx dy)(ha:tO fs at' ls false=true)(eu:fs.length≤12)(zG:∀s,s<fs.length→Nm (at'.getD s []))
 (hxy:(bL dx).length*((bL dy).length*4)≤10000):TrcOk fs at' (GM fs at' (bL dx) (bL dy) ls):=by
 have hc:=AB fs at' (bL dx) (bL dy) ls;have C3:=xH hc (oA (bL dx).length (bL dy).length);obtain⟨-,hmx⟩:=mZ h.nx;obtain⟨-,hmy⟩:=mZ h.ny;have hNx:∀s∈bL dx,Nm s:=fun s hs=>h.nx s ((hmx s).1 hs);have hNy:∀s∈bL dy,Nm s:=fun s hs=>h.ny s ((hmy s).1 hs);have hnmc:∀{x y d:Nat},x<(bL dx).length→y<(bL dy).length→Nm (Bm (bL dx) (bL dy) x y d):=fun{x y d}hx hy=>by
  have:=iw (xs:=bL dx) (ys:=bL dy) (d:=d) hx hy;split at this
  ·exact hNy _ this
  ·exact hNx _ this
 refine⟨?_,fun ps nL=>?_,fun ps nL p hp=>?_⟩
 ·unfold GM;rw[aZ];exact im h ha eu _
 ·obtain⟨l,hl,rfl⟩:=List.mem_map.1 nL;obtain⟨iC,w,hw,rfl⟩:=C3.pos l hl;obtain⟨k,hk,hk2⟩:=IZ hc hw;rw[uN hk]at iC⊢;have hcl:=CN (f:=jX (nB fs at' (bL dx) (bL dy) ls)) w k;unfold fA;refine⟨Mc _ _ _ _ (by rw[hcl];exact hk.1),aU (Mb _ _ _ _ _) ?_⟩;rw[hcl];exact aU hk2 hxy
 ·obtain⟨l,hl,rfl⟩:=List.mem_map.1 nL;obtain⟨u,hu,v,hv,rfl⟩:=XF hp;have hb:∀w∈l,lH (nB fs at' (bL dx) (bL dy) ls) w=true:=fun w hw=>C3.bor w (by rw[C3.all];exact List.mem_flatten.2 ⟨l,hl,hw⟩);obtain⟨t,ht,LJ,-⟩:=JZ h ha (hb u hu);have Ep:rR (Uy (C5 fs at' (bL dx) (bL dy) ls) (bL dx).length (bL dy).length) u=(t:Int):=by
   rw[MH (Fg hc (hb u hu))];unfold XE C5;rw[ht];rfl
  obtain⟨q1,q2,q3,q4,q5,-⟩:=I0 hc (hb u hu);obtain⟨-,-,-,-,-,r1,r2,r3,r4⟩:=I0 hc (hb v hv);have Zz:Nm (Xi (bL dx) (bL dy) u):=hnmc (by omega) (by omega);have hhi:Nm (TU (bL dx) (bL dy) v):=hnmc (by omega) (by omega);have hatt:=zG t LJ;refine⟨⟨t,Ep,LJ⟩,?_,?_,hhi⟩
  ·unfold bW;rw[Ep,nX];split
   ·exact hatt
   ·exact Zz
  ·unfold bW;rw[Ep,nX];split
   ·exact Zz
   ·exact hatt
end
section
def Tryz.insS_ren:iK:=⟨fun |20=>187|n=>n,fun |24=>39|22=>31|3=>3|25=>111|4=>4|0=>0|n=>n,fun |n=>n⟩
theorem Tryz.insS:Go.Proofs.SlLaysF.n20 aE Tryz.insS_ren:={
 mixed:=by kernel_rfl
 f20:=⟨Tryz.f187.name,by decide,func187.trans (congrArg some (by kernel_rfl))⟩
 t0:=rA
 a0:=BW
 z0:=zQ
 v0:=sQ
 t3:=dL
 a3:=jG
 z3:=iB
 v3:=gZ
 t4:=fM
 a4:=lN
 z4:=jV
 v4:=gC
 t22:=underlying31
 a22:=isAgg31
 z22:=sizeOf31
 v22:=zeroValue31
 a24:=Jy
 z24:=FI
 t25:=underlying111
 a25:=isAgg111
 z25:=sizeOf111
 v25:=zeroValue111}
open Go Go.RowKit Go.Shelf Go.Lib
theorem iz(TB n m cx cy:Nat)(xa ya:Option cO)(t0 t1:aP)(p q:Pt)(res:Int)(w:aF)(ht:bT w TB #[t0,t1] 64)(ps qs:List Pt)(hn:0<n)(hm:0<m)(nL:ps.length=n)(Tw:qs.length=m)(hp:ps.getD 0 default=p)(hq:qs.getD 0 default=q)(rx:FE w xa ps)(ry:FE w ya qs)
 (hb:∀W,Below w.heap.size w W→bE aE 67 #[cF #[t0,t1],p.v,q.v] W (Rt (aC aB res) W)):
 bE aE 70 #[aD xa n cx,aD ya m cy,aY (some ⟨TB,0,none⟩)] w (Rt (aC aB res) w):=by
 have HC:=zq hb;obtain⟨xb,xo,rfl,c0,c1,c2⟩:=rx.at (i:=0) (by omega) hp;obtain⟨yb,yo,rfl,d0,d1,d2⟩:=ry.at (i:=0) (by omega) hq;simp only[yW,oG]at c0 c1 c2 d0 d1 d2;obtain⟨t2,t3,-,-,lT⟩:=ht.two;have n0:(0:Int)<(n:Int):=by omega
 have m0:(0:Int)<(m:Int):=by omega
 clear hb ht rx ry nL Tw hp hq;obtain⟨p1,p2,p3⟩:=p;obtain⟨q1,q2,q3⟩:=q;unfold Pt.v Pt.cells at HC;simp only[]at *;generalize bs p2=P2 at *;generalize bs p3=P3 at *;generalize bs q2=Q2 at *;generalize bs q3=Q3 at *;go_enter func70,ntmps70;go_wp2;go_region_held3 (fun w'=>(w'.cell? ⟨TB,0,none⟩=some (t0)∧w'.cell? ⟨TB,1,none⟩=some (t1))∧(w'.cell? ⟨xb,xo,none⟩=some (aC aB p1)∧w'.cell? ⟨xb,xo+1,none⟩=some (aA P2)∧w'.cell? ⟨xb,xo+2,none⟩=some (aA P3))∧(w'.cell? ⟨yb,yo,none⟩=some (aC aB q1)∧w'.cell? ⟨yb,yo+1,none⟩=some (aA Q2)∧w'.cell? ⟨yb,yo+2,none⟩=some (aA Q3))) (go_keep)
  (first
   |(go_at_call 67;(with_reducible refine(HC.out _ (aL _ w).drew).mono ?_);rintro e w1 ⟨rfl,hb1⟩;have GD:Below w.heap.size w w1:=(aL _ w).drew.trans hb1;have f0:=bR GD c0;have f1:=bR GD c1;have f2:=bR GD c2;have f3:=bR GD d0;have f4:=bR GD d1;have f5:=bR GD d2;have f6:=bR GD t2;have f7:=bR GD t3)
   |fail)
 go_wp2;go_ret;exact⟨rfl,GD⟩
theorem stab_few(a:Option cO)(n cap:Nat)(fv:aP)(hn:n≤19)(w:aF)(XG:aF→Prop)
 (h:bE aE 187 #[aD a n cap,aC aB 0,aC aB n,fv] w fun e w'=>(∃v,e=bA v)∧XG w'):
 bE aE 141 #[aD a n cap,aC aB n,fv] w fun e w'=>(∃v,e=bA v)∧XG w':=by
 have H:=zq h;clear h;have h20:((20:Int)≤(n:Int))=False:=eq_false (by omega);have h21:((20:Int)<(n:Int))=False:=eq_false (by omega);go_enter func141,ntmps141;go_wp2;go_loopw[7,8] (fun a b wr=>a=aC aB 0∧b=aC aB 20∧wr=w) (fun _ _ _=>0);case atStart=>exact⟨rfl,rfl,rfl⟩
 case round=>
  obtain⟨rfl,rfl,rfl⟩:=hrel;go_wp2_with fail
  refine H.out.mono ?_;rintro e W1⟨⟨v,rfl⟩,hP⟩;have HP:=zq hP;clear hP H;go_wp2;go_loopw[6] (fun a wr=>a=aC aB 20∧bK (XG wr)) (fun _ _=>0);case atStart=>exact⟨rfl,HP.out⟩
  case round=>
   obtain⟨rfl,HB⟩:=hrel;go_wp2;go_end0;exact⟨⟨_,rfl⟩,HB.out⟩
theorem Uz(a:Option cO)(n cap:Nat)(fv:aP)(hn:n≤19)(w:aF)(XG:aF→Prop)
 (h:bE aE 187 #[aD a n cap,aC aB 0,aC aB n,fv] w fun e w'=>(∃v,e=bA v)∧XG w'):
 bE aE 69 #[aD a n cap,fv] w fun e w'=>(∃v,e=bA v)∧XG w':=by
 have HI:=zq (stab_few a n cap fv hn w XG h);clear h;go_enter func69,ntmps69;go_wp2_with fail
 refine HI.out.mono ?_;rintro e W1⟨⟨v,rfl⟩,hP⟩;have HP:=zq hP;clear hP HI;go_wp2;go_end0;exact⟨⟨_,rfl⟩,HP.out⟩
end
section
open Go Go.RowKit Go.Shelf Go.Lib Go.Sort
def ltL(fs:List Fr)(at':List (List UInt8))(a b:List Pt):Bool:=decide (BY fs at' (a.getD 0 default) (b.getD 0 default)<0)
theorem XH(cL g n cap TB:Nat)(t0 t1:aP)(fs:List Fr)(at':List (List UInt8))(los:List Lp)(w0 w:aF)(hB:AW w0.heap.size w0 w)(hb:w0.heap.size≤cL)(NK:0<n)(hn:n≤19)(hl:los.length=n)
 (dI:gJ cL w (aD (some ⟨g,0,none⟩) n cap) los)(hpos:∀l∈los,0<l.ps.length)(Cd:∀l∈los,uS fs at' (l.ps.getD 0 default))(ht:bT w TB #[t0,t1] 64)
 (ZJ:∀p q,uS fs at' p→uS fs at' q→∀W,AW w0.heap.size w0 W→bE aE 67 #[cF #[t0,t1],p.v,q.v] W fun e w'=>e=bA (aC aB (BY fs at' p q))∧AW W.heap.size W w'):
 bE aE 69 #[aD (some ⟨g,0,none⟩) n cap,.func (.func 70) #[] #[aY (some ⟨TB,0,none⟩)]] w fun e w'=>(∃v,e=bA v)∧(∃mR,gJ cL w' (aD (some ⟨g,0,none⟩) n cap) mR∧mR.map Lp.ps=nU (ltL fs at') (los.map Lp.ps))∧w.grownBy w' (some g):=by
 have h1:=dI.1;rw[hl]at h1;obtain⟨hbg,hglt,hnc,-⟩:=kU h1;haveI:Inhabited {l:Lp//l∈los}:=⟨⟨los[0],gL _⟩⟩;let enc:{l:Lp//l∈los}→aP:=fun x=>x.1.v;let cf:{l:Lp//l∈los}→{l:Lp//l∈los}→Int:=fun x y=>BY fs at' (x.1.ps.getD 0 default) (y.1.ps.getD 0 default);have zF:w.ownsRow cL 39 1 (aD (some ⟨g,0,none⟩) n cap) n (los.attach.map enc):=by
  have e:los.attach.map enc=los.map Lp.v:=by
   show los.attach.map (fun x=>Lp.v x.1)=_;exact bp (f:=Lp.v)
  rw[e];have:=dI.1;rwa[hl]at this
 have hlen:los.attach.length=n:=by rw[pr];exact hl
 have hH:Holds enc w g 0 los.attach.toArray:=by
  intro j hj;have hj:j<los.attach.length:=by simpa using hj
  rw[cC];refine⟨?_,kF zF j⟩;rw[dZ zF j (by omega)];have ZI:j<los.length:=by rwa[pr]at hj
  simp[ZI]
 have hS:SWO (YK cf):=by
  have e:∀x y,YK cf x y=true↔N3 fs at' (x.1.ps.getD 0 default) (y.1.ps.getD 0 default):=fun x y=>by
   unfold YK;rw[decide_eq_true_eq];exact yR (Cd _ x.2) (Cd _ y.2)
  have e':∀x y,YK cf x y=false↔¬N3 fs at' (x.1.ps.getD 0 default) (y.1.ps.getD 0 default):=fun x y=>by
   rw[←e];simp
  refine⟨fun x=>?_,fun x y z h1 h2=>?_,fun x y z h1 h2=>?_⟩
  ·rw[e'];exact KW _ _ _ _
  ·rw[e]at *;exact I9 h1 h2
  ·rw[e']at *;exact Fl h1 h2
 have hcmp:CmpLays1 aE 70 #[aY (some ⟨TB,0,none⟩)] enc cf g 0 los.attach.toArray.size w:=by
  intro m os dk hk x y;have hg:=yK enc w g 0 m dk os;have hBW:AW w0.heap.size w0 (Jr enc w g 0 m dk os):=dO (v:=aD (some ⟨g,0,none⟩) n cap) hB hg zF hb hB.size;have rd:∀l∈los,FE (Jr enc w g 0 m dk os) l.a l.ps:=fun l hl=>FE.own ((dI.2 l hl).kept (w':=Jr enc w g 0 m dk os) hg (pE (dI.2 l hl) dI.1 (by decide)));have htW:bT (Jr enc w g 0 m dk os) TB #[t0,t1] 64:=jQ ht hg (gP ht dI.1 (by decide));have:=iz TB x.1.ps.length y.1.ps.length x.1.cap y.1.cap x.1.a y.1.a t0 t1 _ _ (cf x y) (Jr enc w g 0 m dk os) htW x.1.ps y.1.ps (hpos _ x.2) (hpos _ y.2) rfl rfl rfl rfl (rd _ x.2) (rd _ y.2)
   (fun W hW=>ZJ _ _ (Cd _ x.2) (Cd _ y.2) W (aQ hBW hW))
  exact Calls.grown this
 have BX:los.attach.toArray.size=n:=by simp[hl]
 have H:=Any.insertionSortCmpFunc_s Tryz.insS enc cf 70 #[aY (some ⟨TB,0,none⟩)] g 0 cap 0 n los.attach.toArray los.attach.toArray w w (enters_of func70 (by kernel_rfl) rfl) hcmp ⟨fun _=>rfl,hH,hglt⟩ rfl (SW.start hH) (bM _) (by rw[BX];exact aH _) (by rw[BX];omega);rw[BX]at H;have hins:bo (YK cf) los.attach.toArray 0 n=(nU (YK cf) los.attach).toArray:=by rw[←hlen];exact Mz hS los.attach
 rw[hins]at H;refine Uz _ n cap _ hn w (fun w'=>(∃mR,gJ cL w' (aD (some ⟨g,0,none⟩) n cap) mR∧mR.map Lp.ps=nU (ltL fs at') (los.map Lp.ps))∧w.grownBy w' (some g)) (H.mono ?_);rintro e w'⟨rfl,m,os,rfl⟩;have hg:=yK enc w g 0 m (nU (YK cf) los.attach).toArray os;refine⟨⟨_,rfl⟩,⟨(nU (YK cf) los.attach).map Subtype.val,⟨?_,fun l hl=>?_⟩,?_⟩,hg⟩
 ·have:=OP enc w cL g n cap m 39 los.attach (nU (YK cf) los.attach) os zF (by rw[AE];exact hlen);rw[aZ,AE,hlen,lY];exact this
 ·obtain⟨x,-,rfl⟩:=List.mem_map.1 hl;exact(dI.2 _ x.2).kept hg (pE (dI.2 _ x.2) dI.1 (by decide))
 ·have e1:=it (lt:=YK cf) (f:=fun x:{l:Lp//l∈los}=>x.1.ps) (lt':=ltL fs at') (fun x y=>rfl) los.attach;have e2:los.attach.map (fun x:{l:Lp//l∈los}=>x.1.ps)=los.map Lp.ps:=bp (f:=Lp.ps);rw[e2]at e1;rw[lY];exact e1
end
section
open Go Go.RowKit Go.Lib
theorem UA (pa:Option cO) (n cap m:Nat) (ps:List Pt) (w:aF) (hn:n≤1000000) (hl:ps.length=n) (rp:FE w pa ps) (hm:m < n) (hfirst:∀ j,j < m→ps.getD m default≠ps.getD j default) :
 bE aE 68 #[aD pa n cap,(ps.getD m default).v] w (Rt (aC aB (m:Int)) w):=by
 have HR:=zq rp;have Hl:=zq hl;have HF:=zq hfirst;obtain⟨pb,po,rfl, -⟩:=rp.at (i:=0) (by omega) rfl;clear rp hl hfirst;obtain⟨v,hv⟩:∃ v,ps.getD m default=v:=⟨_,rfl⟩;have HV:=zq hv;rw [hv] at HF ⊢;clear hv;have HVc:bK (v.v=cF #[aC aB v.side,aA (bs v.fr),aA (bs v.en)]):=rfl;unfold Pt.v Pt.cells;have hq:=bT.new w #[aC aB v.side,aA (bs v.fr),aA (bs v.en)] 68;have fE:=(aL w.heap.size w).alloc (aH _) (aN #[aC aB v.side,aA (bs v.fr),aA (bs v.en)] 68);obtain⟨W1,rS⟩:∃ W,w.alloc (aN #[aC aB v.side,aA (bs v.fr),aA (bs v.en)] 68)=W:=⟨_,rfl⟩;rw [rS] at hq fE;have HQ:=zq hq;have fV:=zq fE;clear hq fE;go_enter func68,ntmps68;go_upto_if 9 with (fail);try rw [rS]
 clear rS;go_loopw [8] (fun i wr=> ∃ k:Nat,i=aC aB (k:Int)∧k≤m∧bK (bT wr w.heap.size #[aC aB v.side,aA (bs v.fr),aA (bs v.en)] 68∧Below w.heap.size w wr)) (fun i _=> n - (aK i).toNat);case atStart=> exact⟨0,rfl,by omega,HQ.out,fV.out⟩
 case round=>
  clear HQ fV;obtain⟨k,rfl,hk,HS⟩:=hrel;have hQ:=HS.out.1;have HB:=zq HS.out.2;have hltI:(k:Int) < n:=by omega
  have hk0:(0:Int)≤(k:Int):=by omega
  obtain⟨pb',po',O8,d0,d1,d2⟩:=(HR.out.below HB.out).at (i:=k) (by rw [Hl.out];omega) rfl;injection O8 with O8;injection O8 with e1 e2;subst e1 e2;obtain⟨x0,x1,x2, -, -, -,lq⟩:=hQ.all3;by_cases he:k=m
  ·subst he;rw [HV.out] at d0 d1 d2;have Q:∀ W,(Dn 10000 68 (cF #[aC aB v.side,aA (bs v.fr),aA (bs v.en)]) (cF #[aC aB v.side,aA (bs v.fr),aA (bs v.en)])).run aE W= .ok true W:=fun W=> by rw [eqPt,decide_eq_true rfl]
   go_wp2_with fail
   go_region;all_goals
    go_wp2;go_ret;exact⟨rfl,by first | exact HB.out.drew | exact HB.out | exact eF HB.out _⟩
  ·have iC:v≠ps.getD k default:=HF.out k (by omega);generalize ps.getD k default=q at *;have Q:∀ W,(Dn 10000 68 (cF #[aC aB v.side,aA (bs v.fr),aA (bs v.en)]) (cF #[aC aB q.side,aA (bs q.fr),aA (bs q.en)])).run aE W= .ok false W:=fun W=> by rw [eqPt,decide_eq_false iC]
   go_wp2_with fail
   go_region;all_goals
    go_wp2;go_roundw;case rel=> exact⟨k + 1,by go_num,by omega,hQ,by first | exact HB.out.drew | exact HB.out | exact eF HB.out _⟩
    case measure=> simp only [aK];omega
end
section
open Go.Shelf
def Tryz.grP_ren:iK:=⟨fun |4=>119|n=>n,fun |22=>39|25=>68|3=>3|4=>4|9=>9|20=>20|0=>0|n=>n,fun |n=>n⟩
theorem Tryz.grP:zY aE Tryz.grP_ren:={
 mixed:=by kernel_rfl
 f4:=⟨Tryz.f119.name,by decide,func119.trans (congrArg some (by kernel_rfl))⟩
 t0:=rA
 a0:=BW
 z0:=zQ
 v0:=sQ
 t3:=dL
 a3:=jG
 z3:=iB
 v3:=gZ
 t4:=fM
 a4:=lN
 z4:=jV
 v4:=gC
 t9:=jN
 a9:=pY
 z9:=oJ
 v9:=mP
 t20:=KC
 a20:=YI
 z20:=VA
 v20:=Nh
 t22:=sY
 a22:=Jy
 z22:=FI
 v22:=KJ}
open Go Go.RowKit Go.Lib Go.Shelf
theorem growP(n:Nat)(w:aF)(h0:0<n)(hn:n≤100000000):
 bE aE 119 #[aD none 0 0,aC aB n] w fun e w'=>(∃g cap,e=bA (aD (some ⟨g,0,none⟩) 0 cap)∧w'.ownsRow w.heap.size 68 3 (aD (some ⟨g,0,none⟩) 0 cap) 0 [])∧Below w.heap.size w w':=by
 obtain⟨i0,hi,yH,zB,sS⟩:=lI tQ;have H:=Wh Tryz.grP i0 (cF #[aC aB 0,aA ⟨#[]⟩,aA ⟨#[]⟩]) hi yH (by rw[zB];decide) none 0 0 n [] w (aH _) (by omega) (by rw[sS];omega) (by omega) (by simp) (fun _=>rfl) (fun a e=>(by cases e));refine yZ H ?_;rintro e w'⟨rfl,rfl⟩;refine⟨⟨w.heap.size,_,rfl,rfl,.inr ⟨w.heap.size,_,_,rfl,aH _,jR w.drew _,bM _,?_,?_,rfl⟩⟩,((aL _ w).drew.alloc (by simp) _)⟩
 ·exact grownCap_le_maxLen w _ _ _ (by unfold Cm;omega)
 ·have:=grownCap_ge w (0+n) 0 (Tryz.grP_ren.t 25);rw[mS,mS,zS,zS];simp only[Value.cells,cD,bD,bV];generalize grownCap w (0+n) 0 (Tryz.grP_ren.t 25)=c at *;omega
theorem appP{w:aF}{cM:Array fX}{rest:List fX}{o:fX}{a:mI}{Q:A5→mI→aF→Prop}(FN:o.guard=none)(s x:tE)
 (ho:o.op=.call {callee:=.builtin .append,args:= #[s,x],argTypes:= #[39,39]})(cL:Nat)
 (gv cv n:Nat)(xs:List aP)(hs:a.eval s=aD (some ⟨gv,0,none⟩) n cv)(dI:w.ownsRow cL 68 3 (aD (some ⟨gv,0,none⟩) n cv) n xs)
 (l:Sl)(hx:a.eval x=l.v)(hl:l.ok)(hr:l.Rd w)(Np:n+l.len≤100000000)(jH:cL≤w.heap.size)
 (h:∀g cap w',w'.ownsRow cL 68 3 (aD (some ⟨g,0,none⟩) (n+l.len) cap) (n+l.len) (xs++l.cs)→cL≤g→w.grownBy w' (some gv)→
  NE aE cM Q rest (a.put o.dst (aD (some ⟨g,0,none⟩) (n+l.len) cap)) w'):
 NE aE cM Q (o::rest) a w:=by
 obtain⟨i0,hi,yH,zB,sS⟩:=lI tQ;refine wpList_append_own _ FN s x 39 ho cL 68 i0 (cF #[aC aB 0,aA ⟨#[]⟩,aA ⟨#[]⟩]) 3 40 sY hi yH zB sS rfl (by decide) _ n xs hs dI ⟨l.b,l.off,none⟩ l.len l.cap l.cs hx hl.1 (fun j u hj=>by rw[oK];exact hr j u hj) hl.2
  (by unfold Cm;omega) (by omega) jH ?_
 intro v' w' lL hg Iu;rcases lL.2 with⟨h1,h2⟩|⟨g',FO,oL,hv,h3,-⟩
 ·have:=(Iu.1 h1).1;cases this
 ·subst hv;exact h g' FO w' lL h3 hg
theorem concatP(a:Option cO)(n ca:Nat)(ls:List Sl)(w:aF)(hl:ls.length=n)(hn:n≤1000)(nL:∀l∈ls,l.len≤10000∧l.ok)(hpos:0<gO ls n)(rl:RdS w a ls):
 bE aE 45 #[aD a n ca] w fun e w'=>(∃g cap,e=bA (aD (some ⟨g,0,none⟩) (gO ls n) cap)∧w'.ownsRow w.heap.size 68 3 (aD (some ⟨g,0,none⟩) (gO ls n) cap) (gO ls n) (sT ls))∧Below w.heap.size w w':=by
 have Cd:∀i,i<n→(ls.getD i default).len≤10000∧(ls.getD i default).ok:=fun i hi=>nL _ (bU (by omega) default);have Kl:∀k,k≤n→gO ls k≤k*10000:=fun k hk=>KQ (fun i hi=>(Cd i (by omega)).1) k hk;have Bo:∀k,k≤n→gO ls k≤10000000:=fun k hk=>by have:=Kl k hk;have:k*10000≤1000*10000:=pX _ (by omega);omega
 have HA:bK (∀k,k<n→sT (ls.take (k+1))=sT (ls.take k)++(ls.getD k default).cs):=fun k hk=>IV (by omega);have HAn:bK (sT (ls.take n)=sT ls):=by show _=_;rw[eM (by omega)]
 have Hm:bK (∀k,k<n→gO ls (k+1)=gO ls k+(ls.getD k default).len):=fun k _=>rfl;have Hb:=zq Bo;have Hok:=zq Cd;have Hl:=zq hl;have Rl:=zq rl;have HG:=zq (fun W=>growP (gO ls n) W hpos (by have:=Bo n (aH _);omega));have hbn:=Bo n (aH _);clear hl nL rl Kl Bo Cd;go_enter func45,ntmps45;go_wp2;go_loop [3,11] (fun s i=>∃k:Nat,i=aC aB k∧k≤n∧s=aC aB (gO ls k:Nat)) (fun _ i=>n-(aK i).toNat);case atStart=>exact⟨0,rfl,bM _,rfl⟩
 case round=>
  obtain⟨k,rfl,hk,rfl⟩:=hrel;by_cases hlt:k<n
  ·obtain⟨lb,lo,rfl,c0,-⟩:=Rl.out k (by rw[Hl.out];exact hlt);have b1:=Hb.out k hk;have b2:=Hb.out (k+1) hlt;have e2:=Hm.out k hlt;have HE:=zq e2;rw[e2]at b2;clear e2;generalize ls.getD k default=l at *;unfold Sl.v at c0;generalize l.len=m at *;generalize l.b=la at *;generalize l.off=lof at *;generalize l.cap=lc at *;obtain⟨s1,tL⟩:∃s,gO ls (k+1)=s:=⟨_,rfl⟩;rw[tL]at HE;have L7:=zq tL;clear tL;generalize gO ls k=s0 at *;go_wp2;go_round;case rel=>exact⟨k+1,by go_num,by omega,by rw[L7.out,HE.out];go_num⟩
   case measure=>simp only[aK];omega
  ·obtain rfl:n=k:=by omega
   obtain⟨N,hN⟩:∃N,gO ls n=N:=⟨_,rfl⟩;rw[hN]at HG hbn⊢;have HN:=zq hN;clear hN hpos;go_wp2_with fail
   refine(HG.out _).mono ?_;rintro e W1⟨⟨g0,Xh,rfl,CM⟩,hb1⟩;have eC:=zq hb1;have LC:=zq CM;clear hb1 CM HG;go_wp2;go_loopw[6,27] (fun o i wr=>∃(k g cap:Nat),i=aC aB k∧k≤n∧o=aD (some ⟨g,0,none⟩) (gO ls k) cap∧bK (wr.ownsRow w.heap.size 68 3 (aD (some ⟨g,0,none⟩) (gO ls k) cap) (gO ls k) (sT (ls.take k)))∧bK (Below w.heap.size w wr)) (fun _ i _=>n-(aK i).toNat);case atStart=>exact⟨0,g0,Xh,rfl,bM _,rfl,LC.out,eC.out⟩
   case round=>
    clear eC LC;obtain⟨k,g,cap,rfl,hk,rfl,pU,HB⟩:=hrel;by_cases hlt2:k<n
    ·obtain⟨lb,lo,rfl,c0,rp⟩:=(Rl.out.below HB.out) k (by rw[Hl.out];exact hlt2);have HE:=zq (Hm.out k hlt2);have b2:=Hb.out (k+1) hlt2;rw[HE.out]at b2;have OB:=zq (HA.out k hlt2);have Rp:=zq rp;have Ok:=zq (Hok.out k hlt2).2;clear rp;generalize ls.getD k default=l at *;obtain⟨lbb,lof,m,lc,cs⟩:=l;unfold Sl.v at c0;simp only[]at *;obtain⟨s1,tL⟩:∃s,gO ls (k+1)=s:=⟨_,rfl⟩;rw[tL]at HE;have L7:=zq tL;clear tL;generalize gO ls k=s0 at *;have dI:=pU.out;have NT:=HB.out.size;have hb3:s0+m≤100000000:=by omega
     go_wp2_with (at_builtin;refine appP rfl _ _ rfl w.heap.size g cap s0 _ rfl dI ⟨lbb,lof,m,lc,cs⟩ rfl Ok.out Rp.out hb3 NT ?_;intro g5 LR w5 iV Zr oS;simp only[]at iV)
     have xX:=zq (dO (v:=aD (some ⟨g,0,none⟩) s0 cap) HB.out oS dI (aH _) NT);rw[←OB.out,←HE.out]at iV;have QD:=zq iV;clear dI iV oS;go_wp2;go_roundw;case rel=>exact⟨k+1,g5,LR,by go_num,by omega,by rw[L7.out,HE.out],by rw[L7.out];exact QD.out,xX.out⟩
     case measure=>simp only[aK];omega
    ·obtain rfl:n=k:=by omega
     rw[HAn.out,HN.out]at pU;rw[HN.out];go_wp2;go_ret;exact⟨⟨g,cap,by first |rfl|(rw[HN.out];rfl),by rw[HN.out];exact pU.out⟩,HB.out⟩
def Tryz.clK_ren:iK:=⟨fun |41=>44|n=>n,fun |22=>39|23=>68|4=>4|n=>n,fun |n=>n⟩
theorem Tryz.clK:Go.Proofs.SlLaysE0.n41 aE Tryz.clK_ren:={
 mixed:=by kernel_rfl
 f41:=⟨Tryz.f44.name,by decide,func44.trans (congrArg some (by kernel_rfl))⟩
 t4:=fM
 a4:=lN
 z4:=jV
 v4:=gC
 t22:=sY
 a22:=Jy
 z22:=FI
 v22:=KJ}
def Tryz.grK_ren:iK:=⟨fun |4=>119|n=>n,fun |22=>39|25=>68|3=>3|4=>4|9=>9|20=>20|0=>0|n=>n,fun |n=>n⟩
theorem Tryz.grK:zY aE Tryz.grK_ren:={
 mixed:=by kernel_rfl
 f4:=⟨Tryz.f119.name,by decide,func119.trans (congrArg some (by kernel_rfl))⟩
 t0:=rA
 a0:=BW
 z0:=zQ
 v0:=sQ
 t3:=dL
 a3:=jG
 z3:=iB
 v3:=gZ
 t4:=fM
 a4:=lN
 z4:=jV
 v4:=gC
 t9:=jN
 a9:=pY
 z9:=oJ
 v9:=mP
 t20:=KC
 a20:=YI
 z20:=VA
 v20:=Nh
 t22:=sY
 a22:=Jy
 z22:=FI
 v22:=KJ}
open Go Go.RowKit Go.Lib Go.Shelf
theorem C6{w:aF}{b off:Nat}{ps:List Pt}(h:FE w (some ⟨b,off,none⟩) ps):∀(j:Nat)(u:aP),(cQ ps)[j]? =some u→w.cell? ⟨b,off+j,none⟩=some u:=by
 intro j u hu;have hj:j<(cQ ps).length:=by
  rcases fP j (cQ ps).length with h|h
  ·exact h
  ·rw[Ea h]at hu;cases hu
 rw[nM]at hj;have hi:j/3<ps.length:=by omega
 obtain⟨k1,k2,k3⟩:=qK ps (j/3) hi;obtain⟨b',o',e,c1,c2,c3⟩:=h.at hi rfl;injection e with e;injection e with e1 e2;subst e1 e2;have hr:j%3=0∨j%3=1∨j%3=2:=by omega
 rcases hr with r|r|r
 ·rw[show j=j/3*3 by omega,k1]at hu;rw[show off+j=off+j/3*3 by omega,c1];exact hu
 ·rw[show j=j/3*3+1 by omega,k2]at hu;rw[show off+j=off+j/3*3+1 by omega,c2];exact hu
 ·rw[show j=j/3*3+2 by omega,k3]at hu;rw[show off+j=off+j/3*3+2 by omega,c3];exact hu
theorem yS(ps:List Pt):∀u∈cQ ps,u.oneCell'=true:=by
 intro u hu;obtain⟨p,-,h⟩:=List.mem_flatMap.1 hu;simp only[nI,wA,or_false]at h;rcases h with rfl|rfl|rfl<;>rfl
theorem UB(b off n c:Nat)(ps:List Pt)(w:aF)(hl:ps.length=n)(hn:n≤1000000)(r:FE w (some ⟨b,off,none⟩) ps):
 bE aE 44 #[aD (some ⟨b,off,none⟩) n c] w fun e w'=>(∃g cap,e=bA (aD (some ⟨g,0,none⟩) n cap)∧w'.ownsRow w.heap.size 68 3 (aD (some ⟨g,0,none⟩) n cap) n (cQ ps))∧Below w.heap.size w w':=by
 obtain⟨i0,hi,yH,zB,sS⟩:=lI tQ;have H:=AnyE.slices_Clone Tryz.clK i0 (cF #[aC aB 0,aA ⟨#[]⟩,aA ⟨#[]⟩]) 3 40 hi yH zB sS rfl (by decide) sizeOf68 b off n c (cQ ps) w (by rw[nM,hl];omega) (by unfold Cm;omega) (by omega) (C6 r) (yS ps);refine yZ H ?_;rintro e w'⟨v',rfl,dI,Iu,hb⟩;refine⟨?_,hb⟩;rcases dI.2 with⟨h1,_⟩|⟨g,cap,oL,hv,_⟩
 ·exact absurd h1 Iu
 ·subst hv;exact⟨g,cap,rfl,dI⟩
theorem XI(n:Nat)(w:aF)(h0:0<n)(hn:n≤100000000):
 bE aE 119 #[aD none 0 0,aC aB n] w fun e w'=>(∃g cap,e=bA (aD (some ⟨g,0,none⟩) 0 cap)∧w'.ownsRow w.heap.size 68 3 (aD (some ⟨g,0,none⟩) 0 cap) 0 [])∧Below w.heap.size w w':=by
 obtain⟨i0,hi,yH,zB,sS⟩:=lI tQ;have H:=Wh Tryz.grK i0 (cF #[aC aB 0,aA ⟨#[]⟩,aA ⟨#[]⟩]) hi yH (by rw[zB];decide) none 0 0 n [] w (aH _) (by omega) (by rw[sS];omega) (by omega) (by simp) (fun _=>rfl) (fun a e=>(by cases e));refine yZ H ?_;rintro e w'⟨rfl,rfl⟩;refine⟨⟨w.heap.size,_,rfl,rfl,.inr ⟨w.heap.size,_,_,rfl,aH _,jR w.drew _,bM _,?_,?_,rfl⟩⟩,((aL _ w).drew.alloc (by simp) _)⟩
 ·exact grownCap_le_maxLen w _ _ _ (by unfold Cm;omega)
 ·have:=grownCap_ge w (0+n) 0 (Tryz.grK_ren.t 25);rw[mS,mS,zS,zS];simp only[Value.cells,cD,bD,bV];generalize grownCap w (0+n) 0 (Tryz.grK_ren.t 25)=c at *;omega
def kK(ls:List Lp):Nat→Nat
 |0=>0
 |k+1=>kK ls k+(ls.getD k default).ps.length
def nV(ls:List Lp):List Pt:=ls.flatMap Lp.ps
theorem Ex{ls:List Lp}{k:Nat}(hk:k<ls.length):nV (ls.take (k+1))=nV (ls.take k)++(ls.getD k default).ps:=by
 unfold nV;rw[cN hk,List.flatMap_append];simp[aG,hk]
theorem Bu{ls:List Lp}:∀k,k≤ls.length→(nV (ls.take k)).length=kK ls k
 |0,_=>rfl
 |k+1,h=>by rw[Ex (by omega),bO,Bu k (by omega)];rfl
theorem Pe{ls:List Lp}(h:∀i,i<ls.length→(ls.getD i default).ps.length≤1000):∀k,k≤ls.length→kK ls k≤k*1000
 |0,_=>aH _
 |k+1,hk=>by
  have h1:=Pe h k (by omega)
  have h2:=h k (by omega)
  rw[kK,PW];omega
theorem ja{w:aF}{cM:Array fX}{rest:List fX}{o:fX}{a:mI}{Q:A5→mI→aF→Prop}(FN:o.guard=none)(s x:tE)
 (ho:o.op=.call {callee:=.builtin .append,args:= #[s,x],argTypes:= #[39,39]})(cL:Nat)
 (gv cv n:Nat)(xs:List aP)(hs:a.eval s=aD (some ⟨gv,0,none⟩) n cv)(dI:w.ownsRow cL 68 3 (aD (some ⟨gv,0,none⟩) n cv) n xs)
 (b off m c:Nat)(ps:List Pt)(hx:a.eval x=aD (some ⟨b,off,none⟩) m c)(hl:ps.length=m)(hr:FE w (some ⟨b,off,none⟩) ps)
 (Np:n+m≤100000000)(jH:cL≤w.heap.size)
 (h:∀g cap w',w'.ownsRow cL 68 3 (aD (some ⟨g,0,none⟩) (n+m) cap) (n+m) (xs++cQ ps)→cL≤g→w.grownBy w' (some gv)→
  NE aE cM Q rest (a.put o.dst (aD (some ⟨g,0,none⟩) (n+m) cap)) w'):
 NE aE cM Q (o::rest) a w:=by
 obtain⟨i0,hi,yH,zB,sS⟩:=lI tQ;refine wpList_append_own _ FN s x 39 ho cL 68 i0 (cF #[aC aB 0,aA ⟨#[]⟩,aA ⟨#[]⟩]) 3 40 sY hi yH zB sS rfl (by decide) _ n xs hs dI ⟨b,off,none⟩ m c (cQ ps) hx (by rw[nM,hl];omega) (fun j u hj=>by rw[oK];exact C6 hr j u hj) (yS ps)
  (by unfold Cm;omega) (by omega) jH ?_
 intro v' w' lL hg Iu;rcases lL.2 with⟨h1,h2⟩|⟨g',FO,oL,hv,h3,-⟩
 ·exact absurd (Iu.1 h1).1 (by simp)
 ·subst hv;exact h g' FO w' lL h3 hg
theorem Q9 (a:Option cO) (n ca:Nat) (ls:List Lp) (w:aF) (hl:ls.length=n) (hn:n≤1000) (nL:∀ i,i < n→(ls.getD i default).ps.length≤1000) (hps1:∀ i,i < n→1≤(ls.getD i default).ps.length) (hpos:0 < kK ls n) (rl:E5 w a ls) :
 bE aE 45 #[aD a n ca] w fun e w' => (∃ g cap,e=bA (aD (some ⟨g,0,none⟩) (kK ls n) cap)∧FE w' (some ⟨g,0,none⟩) (nV ls))∧Below w.heap.size w w' :=by
 have Kl:∀ k,k≤n→kK ls k≤k * 1000:=fun k hk=> Pe (by rw [hl];exact nL) k (by omega);have Uv:∀ k,k < n→kK ls (k + 1)=kK ls k + (ls.getD k default).ps.length:=fun k _=> rfl;have Bo:∀ k,k≤n→kK ls k≤1000000:=fun k hk=> by have:=Kl k hk;have:k * 1000≤1000 * 1000:=pX _ (by omega);omega
 have HA:bK (∀ k,k < n→nV (ls.take (k + 1))=nV (ls.take k) ++ (ls.getD k default).ps):=fun k hk=> Ex (by omega);have HAn:bK (nV (ls.take n)=nV ls):=by show _=_;rw [eM (by omega)]
 have HLn:bK (∀ k,k≤n→(nV (ls.take k)).length=kK ls k):=fun k hk=> Bu k (by omega);have Hb:=zq Bo;have Hp1:=zq hps1;have Hm:=zq Uv;have Hl:=zq hl;have Rl:=zq rl;have HG:=zq (fun W=> XI (kK ls n) W hpos (by have:=Bo n (aH _);omega));have hbn:=Bo n (aH _);clear hl nL hps1 rl Kl Uv Bo;go_enter func45,ntmps45;go_wp2;go_loop [3,11] (fun s i=> ∃ k:Nat,i=aC aB k∧k≤n∧s=aC aB (kK ls k:Nat)) (fun _ i=> n - (aK i).toNat);case atStart=> exact⟨0,rfl,bM _,rfl⟩
 case round=>
  obtain⟨k,rfl,hk,rfl⟩:=hrel;by_cases hlt:k < n
  ·obtain⟨lb,lo,rfl,c0, -⟩:=Rl.out.at (i:=k) (by rw [Hl.out];exact hlt) rfl;have b1:=Hb.out k hk;have b2:=Hb.out (k + 1) hlt;have e2:=Hm.out k hlt;have HE:=zq e2;rw [e2] at b2;clear e2;generalize ls.getD k default=l at *;generalize l.ps.length=m at *;generalize l.a=la at *;generalize l.cap=lc at *;obtain⟨s1,tL⟩:∃ s,kK ls (k + 1)=s:=⟨_,rfl⟩;rw [tL] at HE;have L7:=zq tL;clear tL;generalize kK ls k=s0 at *;go_wp2;go_round;case rel=> exact⟨k + 1,by go_num,by omega,by rw [L7.out,HE.out];go_num⟩
   case measure=> simp only [aK];omega
  ·obtain rfl:n=k:=by omega
   obtain⟨N,hN⟩:∃ N,kK ls n=N:=⟨_,rfl⟩;rw [hN] at HG hbn ⊢;have HN:=zq hN;clear hN hpos;go_wp2_with fail
   refine(HG.out _).mono ?_;rintro e W1 ⟨⟨g0,Xh,rfl,CM⟩,hb1⟩;have eC:=zq hb1;have LC:=zq CM;clear hb1 CM HG;go_wp2;go_loopw [6,27] (fun o i wr=> ∃ (k g cap:Nat),i=aC aB k∧k≤n∧o=aD (some ⟨g,0,none⟩) (kK ls k) cap∧bK (wr.ownsRow w.heap.size 68 3 (aD (some ⟨g,0,none⟩) (kK ls k) cap) (kK ls k) (cQ (nV (ls.take k))))∧bK (Below w.heap.size w wr)) (fun _ i _=> n - (aK i).toNat);case atStart=> exact⟨0,g0,Xh,rfl,bM _,rfl,LC.out,eC.out⟩
   case round=>
    clear eC LC;obtain⟨k,g,cap,rfl,hk,rfl,pU,HB⟩:=hrel;by_cases hlt2:k < n
    ·obtain⟨lb,lo,rfl,c0,rp⟩:=(Rl.out.below HB.out).at (i:=k) (by rw [Hl.out];exact hlt2) rfl;have HE:=zq (Hm.out k hlt2);have b2:=Hb.out (k + 1) hlt2;rw [HE.out] at b2;have OB:=zq (HA.out k hlt2);obtain⟨pb,po,ea, -⟩:=rp 0 (Hp1.out k hlt2);have Rp:=zq rp;clear rp;generalize ls.getD k default=l at *;obtain⟨la,lc,ps⟩:=l;simp only [] at *;subst ea;obtain⟨m,hm⟩:∃ m,ps.length=m:=⟨_,rfl⟩;rw [hm] at c0 HE b2;have Hpl:=zq hm;clear hm;obtain⟨s1,tL⟩:∃ s,kK ls (k + 1)=s:=⟨_,rfl⟩;rw [tL] at HE;have L7:=zq tL;clear tL;generalize kK ls k=s0 at *;have dI:=pU.out;have NT:=HB.out.size;have hb3:s0 + m≤100000000:=by omega
     go_wp2_with (at_builtin;refine ja rfl _ _ rfl w.heap.size g cap s0 _ rfl dI pb po m lc ps rfl Hpl.out Rp.out hb3 NT ?_;intro g5 LR w5 iV Zr oS)
     have xX:=zq (dO (v:=aD (some ⟨g,0,none⟩) s0 cap) HB.out oS dI (aH _) NT);rw [← rE,← OB.out,← HE.out] at iV;have QD:=zq iV;clear dI iV oS;go_wp2;go_roundw;case rel=> exact⟨k + 1,g5,LR,by go_num,by omega,by rw [L7.out,HE.out],by rw [L7.out];exact QD.out,xX.out⟩
     case measure=> simp only [aK];omega
    ·obtain rfl:n=k:=by omega
     rw [HAn.out,HN.out] at pU;rw [HN.out];have R:=zq (FE.own pU.out);go_wp2;go_ret;exact⟨⟨g,cap,by first | rfl | (rw [HN.out];rfl),R.out⟩,HB.out⟩
end
section
open Go Go.RowKit Go.Shelf Go.Lib
def pP(fs:List Fr)(at':List (List UInt8))(ps:List Pt):List Pt:=ps.drop (gQ fs at' ps ps.length)++ps.take (gQ fs at' ps ps.length)
def Bv(fs:List Fr)(at':List (List UInt8))(Fh:List (List Pt)):List (List Pt):=nU (ltL fs at') (Fh.map (pP fs at'))
theorem xM(fs:List Fr)(at':List (List UInt8))(ps:List Pt):(pP fs at' ps).length=ps.length:=by
 unfold pP;rw[bO,eZ,fU];have:gQ fs at' ps ps.length≤ps.length:=by
  rcases jM ps.length with e|e
  ·rw[e];simp[gQ]
  ·exact jS (qH _ _ _ _ e)
 omega
theorem rotP_mem{fs:List Fr}{at':List (List UInt8)}{ps:List Pt}{p:Pt}(h:p∈pP fs at' ps):p∈ps:=by
 unfold pP at h;rcases List.mem_append.1 h with h|h
 ·exact List.mem_of_mem_drop h
 ·exact List.mem_of_mem_take h
theorem XJ(pb po n i cap c bb:Nat)(ps:List Pt)(W:aF)(hl:ps.length=n)(hn:n≤10000)(NK:0<n)(hi:i≤n)(rp:FE W (some ⟨pb,po,none⟩) ps)(hb:bT W bb #[aD (some ⟨pb,po+i*3,none⟩) (n-i) c,aD (some ⟨pb,po,none⟩) i cap] 39):
 bE aE 45 #[aD (some ⟨bb,0,none⟩) 2 2] W fun e w'=>(∃g cap,e=bA (aD (some ⟨g,0,none⟩) n cap)∧w'.ownsRow W.heap.size 68 3 (aD (some ⟨g,0,none⟩) n cap) n (cQ (ps.drop i++ps.take i)))∧Below W.heap.size W w':=by
 have c0:=hb.cell 0;have c1:=hb.cell 1;simp only[aJ,aI,bC]at c0 c1;have hall:=C6 rp;have e:cQ ps=cQ (ps.take i)++cQ (ps.drop i):=by rw[←rE,List.take_append_drop]
 have hti:(cQ (ps.take i)).length=i*3:=by rw[nM,fU];omega
 have:=concatP (some ⟨bb,0,none⟩) 2 2 [⟨pb,po+i*3,n-i,c,cQ (ps.drop i)⟩,⟨pb,po,i,cap,cQ (ps.take i)⟩] W rfl (by decide) (by
  intro x hx;simp only[nI,wA,or_false]at hx;rcases hx with rfl|rfl
  ·exact⟨by show n-i≤10000;omega,by show _=(n-i)*3;rw[nM,eZ];omega,yS _⟩
  ·exact⟨by show i≤10000;omega,by show _=i*3;exact hti,yS _⟩)
  (by show 0<0+(n-i)+i;omega) (by
   intro j hj;have hj:j<2:=hj;match j,hj with
   |0,_=>exact⟨bb,0,rfl,c0,fun k u hu=>by
    have:=hall (i*3+k) u (by rw[e,gA (by omega),hti,Nat.add_sub_cancel_left];exact hu);rwa[←YG]at this⟩
   |1,_=>exact⟨bb,0,rfl,c1,fun k u hu=>hall k u (by
    rw[e,List.getElem?_append_left ?_]
    ·exact hu
    ·rcases fP k (cQ (ps.take i)).length with h|h
     ·exact h
     ·have hu:(cQ (ps.take i))[k]? =some u:=hu;rw[Ea h]at hu;cases hu)⟩)
 have e1:gO [⟨pb,po+i*3,n-i,c,cQ (ps.drop i)⟩,⟨pb,po,i,cap,cQ (ps.take i)⟩] 2=n:=by show 0+(n-i)+i=n;omega
 have e2:sT [⟨pb,po+i*3,n-i,c,cQ (ps.drop i)⟩,⟨pb,po,i,cap,cQ (ps.take i)⟩]=cQ (ps.drop i++ps.take i):=by
  rw[rE];simp[sT]
 rw[e1,e2]at this;exact this
theorem ins_zero(a:Option cO)(c:Nat)(f:aP)(w:aF):bE aE 187 #[aD a 0 c,aC aB 0,aC aB ((0:Nat):Int),f] w fun e w'=>(∃v,e=bA v)∧Below w.heap.size w w':=by
 go_enter func187,ntmps187;go_wp2;go_loop [8] (fun i=>i=aC aB 1) (fun _=>0);case atStart=>rfl
 case round=>
  obtain rfl:=hrel;go_wp2;go_end0;exact⟨⟨_,rfl⟩,aL _ _⟩
theorem J0 (a b2 la:Option cO) (nf ca c2 n cl:Nat) (fs:List Fr) (at' :List (List UInt8)) (los:List Lp) (w:aF) (hn:n≤19) (hl:los.length=n) (hlen:∀ l∈los,0 < l.ps.length∧l.ps.length≤10000∧l.ps.length≤l.cap)
 (Cd:∀ l∈los,∀ p∈l.ps,uS fs at' p) (rl:E5 w la los)
 (ZJ:∀ p q,uS fs at' p→uS fs at' q→∀ W,Below w.heap.size w W→bE aE 67 #[cF #[aD a nf ca,aD b2 nf c2],p.v,q.v] W (Rt (aC aB (BY fs at' p q)) W)) :
 bE aE 25 #[cF #[aD a nf ca,aD b2 nf c2],aD la n cl] w fun e w' => (∃ v mR,e=bA v∧gJ w.heap.size w' v mR∧mR.map Lp.ps=Bv fs at' (los.map Lp.ps))∧Below w.heap.size w w' :=by
 have UC:∀ k,k < n→los.getD k default∈los:=fun k hk=> bU (by omega) default;have ZK:∀ k,k < n→∀ i,i < (los.getD k default).ps.length→uS fs at' ((los.getD k default).ps.getD i default):=fun k hk i hi=> Cd _ (UC k hk) _ (bU hi default);have HMin:bK (∀ k,k < n→∀ W,Below w.heap.size w W→bE aE 66 #[aD (los.getD k default).a (los.getD k default).ps.length (los.getD k default).cap, .func (.func 67) #[cF #[aD a nf ca,aD b2 nf c2]] #[]] W (Rt (((los.getD k default).ps.getD (gQ fs at' (los.getD k default).ps (los.getD k default).ps.length) default).v) W)):=fun k hk W hW=> by
  obtain⟨h1,h2,h3⟩:=hlen _ (UC k hk);obtain⟨lb,lo, -, -,rp⟩:=(rl.below hW).at (i:=k) (by omega) rfl;exact iu _ _ _ _ fs at' _ W h1 (by omega) rfl rp (fun i j hi hj V hV=> ZJ _ _ (ZK k hk i hi) (ZK k hk j hj) V (aQ hW hV))
 have HIdx:bK (∀ k,k < n→∀ W,Below w.heap.size w W→bE aE 68 #[aD (los.getD k default).a (los.getD k default).ps.length (los.getD k default).cap,((los.getD k default).ps.getD (gQ fs at' (los.getD k default).ps (los.getD k default).ps.length) default).v] W (Rt (aC aB (gQ fs at' (los.getD k default).ps (los.getD k default).ps.length:Nat)) W)):=fun k hk W hW=> by
  obtain⟨h1,h2,h3⟩:=hlen _ (UC k hk);obtain⟨lb,lo, -, -,rp⟩:=(rl.below hW).at (i:=k) (by omega) rfl;exact UA _ _ _ _ _ W (by omega) rfl rp (qH _ _ _ _ h1) (fun j hj=> minP_ne (ZK k hk) hj h1)
 have HSort:bK (∀ g c W t,Below w.heap.size w W→0 < n→∀ XK,gJ w.heap.size W (aD (some ⟨g,0,none⟩) n c) XK→XK.map Lp.ps=(los.map Lp.ps).map (pP fs at')→bT W t #[aD a nf ca,aD b2 nf c2] 64→
  bE aE 69 #[aD (some ⟨g,0,none⟩) n c, .func (.func 70) #[] #[aY (some ⟨t,0,none⟩)]] W fun e w' => (∃ v,e=bA v)∧(∃ mR,gJ w.heap.size w' (aD (some ⟨g,0,none⟩) n c) mR∧mR.map Lp.ps=Bv fs at' (los.map Lp.ps))∧Below w.heap.size w w'):=fun g c W t hW NK XK ho hm ht=> by
  have Ox:XK.length=n:=by rw [← aZ (f:=Lp.ps),hm,aZ,aZ];exact hl
  have pF:∀ l∈XK,∃ l' ∈los,l.ps=pP fs at' l'.ps:=fun l hl=> by
   have:l.ps∈XK.map Lp.ps:=List.mem_map.2 ⟨l,hl,rfl⟩;rw [hm] at this;obtain⟨ps,nL,e⟩:=List.mem_map.1 this;obtain⟨l',qd,rfl⟩:=List.mem_map.1 nL;exact⟨l',qd,e.symm⟩
  refine(XH w.heap.size g n c t (aD a nf ca) (aD b2 nf c2) fs at' XK w W hW (aH _) NK hn Ox ho (fun l hl=> ?_) (fun l hl=> ?_) ht ZJ).mono ?_
  ·obtain⟨l',h1,h2⟩:=pF l hl;rw [h2,xM];exact(hlen l' h1).1
  ·obtain⟨l',h1,h2⟩:=pF l hl;have hp:0 < l.ps.length:=by rw [h2,xM];exact(hlen l' h1).1
   have h3:l.ps.getD 0 default∈l.ps:=bU hp default;rw [h2] at h3 ⊢;exact Cd l' h1 _ (rotP_mem h3)
  ·rintro e w' ⟨hv,⟨mR,h1,h2⟩,hg⟩;refine⟨hv,⟨mR,h1,by rw [h2,hm];rfl⟩,dO (v:=aD (some ⟨g,0,none⟩) n c) hW hg ho.1 (aH _) hW.size⟩
 have Rc:=zq (fun k (hk:k < n)=> hlen _ (UC k hk));have HR:=zq rl;have Hl:=zq hl;clear ZJ Cd hlen hl rl UC ZK;have hq:=bT.new w #[aD a nf ca,aD b2 nf c2] 64;have fE:=(aL w.heap.size w).alloc (aH _) (aN #[aD a nf ca,aD b2 nf c2] 64);obtain⟨W0,eY⟩:∃ W,w.alloc (aN #[aD a nf ca,aD b2 nf c2] 64)=W:=⟨_,rfl⟩;rw [eY] at hq fE;have ZG:=zq hq;have fV:=zq fE;clear hq fE;go_enter func25,ntmps25;go_upto_if 13 with (fail);try rw [eY]
 clear eY;go_loopw [5,12] (fun o i wr=> ∃ k:Nat,i=aC aB (k:Int)∧k≤n∧bK (bT wr w.heap.size #[aD a nf ca,aD b2 nf c2] 64)∧bK (Below w.heap.size w wr)∧bK (∃ Kq,gJ w.heap.size wr o Kq∧Kq.map Lp.ps=((los.map Lp.ps).map (pP fs at')).take k)) (fun _ i _=> n - (aK i).toNat);case atStart=> exact⟨0,rfl,by omega,ZG,fV, [],⟨World.ownsRow_nil _ _ _ _,fun l h=> by cases h⟩,by simp⟩
 case round=>
  clear ZG fV;obtain⟨k,rfl,hk,HT,HB,HO⟩:=hrel;by_cases hlt:k < n
  ·have hltI:(k:Int) < n:=by omega
   have hk0:(0:Int)≤(k:Int):=by omega
   obtain⟨lb,lo,rfl,l0,rp⟩:=(HR.out.below HB.out).at (i:=k) (by rw [Hl.out];exact hlt) rfl;obtain⟨q1,q2,q3⟩:=Rc.out k hlt;have HMk:=zq (HMin.out k hlt);have HIk:=zq (HIdx.out k hlt);have Zt:bK (((los.map Lp.ps).map (pP fs at')).take (k + 1)=((los.map Lp.ps).map (pP fs at')).take k ++ [pP fs at' (los.getD k default).ps]):=by
    show _=_;have hkl:k < los.length:=by rw [Hl.out];exact hlt
    rw [cN (by rw [aZ,aZ];exact hkl)];simp [aG,hkl]
   obtain⟨pb,po,O8, -⟩:=rp.at (i:=0) q1 rfl;have hmi:=qH fs at' (los.getD k default).ps _ q1;have hrot:pP fs at' (los.getD k default).ps=(los.getD k default).ps.drop (gQ fs at' (los.getD k default).ps (los.getD k default).ps.length) ++ (los.getD k default).ps.take (gQ fs at' (los.getD k default).ps (los.getD k default).ps.length):=rfl;rw [O8] at l0 rp HMk HIk;generalize (los.getD k default).cap=lcap at *;clear O8;generalize (los.getD k default).ps=ps at *;generalize gQ fs at' ps ps.length=mi at *;rw [hrot] at Zt;clear hrot;obtain⟨np,Uq⟩:∃ np,ps.length=np:=⟨_,rfl⟩;rw [Uq] at l0 q1 q2 q3 HMk HIk hmi;have V9:=zq Uq;clear Uq;have HRp:=zq rp;clear rp;obtain⟨PV,hPV⟩:∃ q,ps.getD mi default=q:=⟨_,rfl⟩;rw [hPV] at HMk HIk;clear hPV;unfold Pt.v Pt.cells at HMk HIk;generalize bs PV.fr=VF at *;generalize bs PV.en=VE at *;generalize PV.side=VS at *;obtain⟨t0,t1, -, -,lT⟩:=HT.out.two;go_wp2_with fail
   refine(HMk.out _ HB.out).mono ?_;rintro e W1 ⟨rfl,hb1⟩;obtain⟨W2,Re⟩:∃ W,W1.alloc (aN #[aC aB VS,aA VF,aA VE] 68)=W:=⟨_,rfl⟩;have hb2:Below wr.heap.size wr W2:=by rw [← Re];exact hb1.alloc hb1.size _
   have HBw2:=zq hb2;have eT:=zq (aQ HB.out hb2);obtain⟨x0,x1,x2,lx⟩:W2.cell? ⟨W1.heap.size,0,none⟩=some (aC aB VS)∧W2.cell? ⟨W1.heap.size,1,none⟩=some (aA VF)∧W2.cell? ⟨W1.heap.size,2,none⟩=some (aA VE)∧W1.heap.size < W2.heap.size:=by
    rw [← Re];have q:=bT.new W1 #[aC aB VS,aA VF,aA VE] 68;exact⟨q.cell 0,q.cell 1,q.cell 2,q.lt⟩
   clear hb1 hb2 t0 t1 lT l0;go_wp2_with fail
   try rw [Re]
   refine(HIk.out _ eT.out).mono ?_;rintro e W3 ⟨rfl,hb3⟩;have vL:=zq (aQ HBw2.out hb3);have HB3:=zq (aQ eT.out hb3);clear hb3 x0 x1 x2 lx Re HBw2 eT;have f0:(0:Int)≤(mi:Int):=by omega
   have f1:(mi:Int)≤np:=by omega
   have f2:(np:Int)≤lcap:=by omega
   have f3:(mi:Int)≤lcap:=by omega
   have hcf:¬ lcap=mi:=by omega
   go_wp2;obtain⟨Kq,hol,hom⟩:=HO.out;obtain⟨oa,oc,hov⟩:=nA hol.1;have hlk:Kq.length=k:=by rw [← aZ (f:=Lp.ps),hom,fU,aZ,aZ,Hl.out];omega
   rw [hlk] at hov;subst hov;have Hlk:=zq hlk;clear hlk;have HOl3:=zq (hol.below vL.out);have Hom:=zq hom;have HT3:=zq (HT.out.below vL.out HT.out.lt);have HRp3:=zq (HRp.out.below vL.out);clear hol hom HO HT HB vL HRp HMk HIk;refine wp_region_held_drew (S:=(fun _=> True)) (by kernel_rfl) trivial (fun jP=> ?_);obtain⟨Wd,hWd⟩:∃ V,W3.drew=V:=⟨_,rfl⟩;have rt:Below W3.heap.size W3 Wd:=by rw [← hWd];exact(aL _ _).drew
   rw [hWd];have HOd:=zq (HOl3.out.below rt);have HTd:=zq (HT3.out.below rt HT3.out.lt);have HRd:=zq (HRp3.out.below rt);have gu:=zq (aQ HB3.out rt);clear rt hWd HOl3 HT3 HRp3 HB3 jP;refine tH 0 rfl ?_ (hS:=trivial);try simp only [cS,aX,aR,aS,aM,aT,aW]
   refine tH 1 rfl ?_ (hS:=trivial);try simp only [cS,aX,aR,aS,aM,aT,aW]
   refine tH 2 rfl ?_ (hS:=trivial);try simp only [cS,aX,aR,aS,aM,aT,aW]
   refine tH 3 rfl ?_ (hS:=trivial);try simp only [cS,aX,aR,aS,aM,aT,aW]
   refine tH 4 rfl ?_ (hS:=trivial);try simp only [cS,aX,aR,aS,aM,aT,aW]
   refine tH 5 rfl ?_ (hS:=trivial);try simp only [cS,aX,aR,aS,aM,aT,aW]
   refine tH 6 rfl ?_ (hS:=trivial);try simp only [cS,aX,aR,aS,aM,aT,aW]
   refine fC (rs:= [7]) (by kernel_rfl) (by simp) ?_;refine dJ rfl (fun K hK=> ?_) dX;go_simp;show K _ _;obtain⟨V1,hV1⟩:∃ V,Wd.alloc (aN #[aD (some ⟨pb,po + mi * 3,none⟩) (np - mi) (lcap - mi),aD (some ⟨pb,po,none⟩) mi lcap] 39)=V:=⟨_,rfl⟩;rw [hV1];have hb1:Below Wd.heap.size Wd V1:=by rw [← hV1];exact(aL _ _).alloc (aH _) _
   have gt:bT V1 Wd.heap.size #[aD (some ⟨pb,po + mi * 3,none⟩) (np - mi) (lcap - mi),aD (some ⟨pb,po,none⟩) mi lcap] 39:=by rw [← hV1];exact bT.new _ _ _
   have JT:=zq (XJ pb po np mi lcap (lcap - mi) Wd.heap.size ps V1 V9.out q2 q1 (by omega) (HRd.out.below hb1) gt);have LC:=zq (HOd.out.below hb1);have HT1:=zq (HTd.out.below hb1 HTd.out.lt);have eC:=zq (aQ gu.out hb1);clear hb1 gt hV1 HOd HTd gu HRd;refine hK.out _ _ trivial (fun jP=> ?_);clear hK K;try simp only [cS,aX,aR,aS,aM,aT,aW]
   refine fC (rs:= [8]) (by kernel_rfl) (by simp) ?_;refine dJ rfl (fun K hK=> ?_) dX;go_simp;go_at_call 45;refine JT.out.mono ?_;rintro e V2 ⟨⟨rg,rc,rfl,dI⟩,hb2⟩;have Sn:=zq (jO dI eC.out.size);have Nr:=zq (LC.out.below hb2);have Sk:=zq (HT1.out.below hb2 HT1.out.lt);have eT:=zq (aQ eC.out hb2);clear dI hb2 LC HT1 eC JT;show K _ _;refine hK.out _ _ trivial (fun jP=> ?_);clear hK K;try simp only [cS,aX,aR,aS,aM,aT,aW]
   refine fC (rs:= [9]) (by kernel_rfl) (by simp) ?_;refine dJ rfl (fun K hK=> ?_) dX;go_simp;show K _ _;obtain⟨V3,hV3⟩:∃ V,V2.alloc (aN #[aD (some ⟨rg,0,none⟩) np rc] 39)=V:=⟨_,rfl⟩;rw [hV3];have hb3:Below V2.heap.size V2 V3:=by rw [← hV3];exact(aL _ _).alloc (aH _) _
   have HNb:bK (bT V3 V2.heap.size #[aD (some ⟨rg,0,none⟩) np rc] 39):=by rw [← hV3];exact bT.new _ _ _
   have HOw3:=zq (bJ Sn.out hb3);have QC:=zq (Nr.out.below hb3);have HT3:=zq (Sk.out.below hb3 Sk.out.lt);have HB3:=zq (aQ eT.out hb3);clear hb3 hV3 Sn Nr Sk eT;refine hK.out _ _ trivial (fun jP=> ?_);clear hK K;try simp only [cS,aX,aR,aS,aM,aT,aW]
   refine fC (rs:= [10]) (by kernel_rfl) (by simp) ?_;refine dJ rfl (fun K hK=> ?_) dX;refine DC (by rfl) _ _ (by rfl) w.heap.size (aD oa k oc) k (Kq.map Lp.v) (by rfl) (by have:=QC.out.1;rwa [Hlk.out] at this) V2.heap.size (some ⟨rg,0,none⟩) np rc (by rfl) HNb.out (by omega) HB3.out.size ?_;intro gx Xw V4 dI GE zG;have hlrow:V3.ownsRow w.heap.size 68 3 (Lp.v ⟨some ⟨rg,0,none⟩,rc,ps.drop mi ++ ps.take mi⟩) (ps.drop mi ++ ps.take mi).length (cQ (ps.drop mi ++ ps.take mi)):=by
    have e:(ps.drop mi ++ ps.take mi).length=np:=by rw [bO,eZ,fU,V9.out];omega
    unfold Lp.v;rw [e];exact HOw3.out
   have lL:V4.ownsRow w.heap.size 39 1 (aD (some ⟨gx,0,none⟩) (k + 1) Xw) (k + 1) (Kq.map Lp.v ++ [Lp.v ⟨some ⟨rg,0,none⟩,rc,ps.drop mi ++ ps.take mi⟩]):=by
    have e:(ps.drop mi ++ ps.take mi).length=np:=by rw [bO,eZ,fU,V9.out];omega
    unfold Lp.v at dI ⊢;rw [e];exact dI
   have ho4:=QC.out.grow (g:=gx) (cap:=Xw) hlrow GE (by rw [Hlk.out];exact lL);rw [Hlk.out] at ho4;have HO4:=zq ho4;clear ho4;have HT4:=zq (jQ HT3.out GE (gP HT3.out QC.out.1 (by decide)));have rT:=zq (dO HB3.out GE QC.out.1 (aH _) HB3.out.size);clear dI lL hlrow GE zG QC HT3 HB3 HNb HOw3;show K _ _;refine hK.out _ _ trivial (fun jP=> ?_);clear hK K;try simp only [cS,aX,aR,aS,aM,aT,aW]
   refine tH 11 rfl ?_ (hS:=trivial);try simp only [cS,aX,aR,aS,aM,aT,aW]
   refine wpAnyH_done (by kernel_rfl) ?_ _;go_wp2;go_roundw;case rel=>
    refine⟨k + 1,by go_num,by omega,HT4.out,rT.out,_,HO4.out, ?_⟩;rw [Zt.out,List.map_append,Hom.out];rfl
   case measure=> simp only [aK];omega
  ·obtain rfl:k=n:=by omega
   clear HMin HIdx HR Rc;obtain⟨Kq,hol,hom⟩:=HO.out;obtain⟨oa,oc,hov⟩:=nA hol.1;have hlk:Kq.length=k:=by rw [← aZ (f:=Lp.ps),hom,fU,aZ,aZ,Hl.out];omega
   rw [hlk] at hov;subst hov;have hom2:Kq.map Lp.ps=(los.map Lp.ps).map (pP fs at'):=by rw [hom,eM (by rw [aZ,aZ,Hl.out];exact aH _)]
   have HOl:=zq hol;have Hom:=zq hom2;have Hlk:=zq hlk;clear hol hom hom2 hlk HO;have HPost:bK (bE aE 69 #[aD oa k oc, .func (.func 70) #[] #[aY (some ⟨w.heap.size,0,none⟩)]] wr fun e w' => (∃ v,e=bA v)∧(∃ mR,gJ w.heap.size w' (aD oa k oc) mR∧mR.map Lp.ps=Bv fs at' (los.map Lp.ps))∧Below w.heap.size w w'):=by
    rcases jM k with h0 | h0
    ·subst h0;have hn:Kq= []:=List.length_eq_zero_iff.1 Hlk.out;have yN:los= []:=List.length_eq_zero_iff.1 Hl.out;refine(Uz oa 0 oc _ (by decide) wr (fun w' => Below wr.heap.size wr w') (ins_zero _ _ _ wr)).mono ?_;rintro e w' ⟨hv,hb⟩;refine⟨hv,⟨Kq,HOl.out.below hb, ?_⟩,aQ HB.out hb⟩;subst hn;subst yN;rfl
    ·have h1:=HOl.out.1;rw [Hlk.out] at h1;obtain⟨gg,cc,e1⟩:=oN h0 h1;injection e1 with e1 e2 e3;subst e1;exact HSort.out gg oc wr w.heap.size HB.out h0 Kq HOl.out Hom.out HT.out
   clear HSort HOl Hom Hlk;go_wp2_with fail
   refine HPost.out.mono ?_;rintro e W1 ⟨⟨v,rfl⟩,⟨mR,h1,h2⟩,hb1⟩;have H1:=zq h1;have H2:=zq h2;have eC:=zq hb1;clear h1 h2 hb1 HPost;go_wp2;go_ret;exact⟨⟨_,mR,rfl,H1.out,H2.out⟩,eC.out⟩
end
section
open Go Go.RowKit Go.Lib
theorem loops_of(fs:List Fr)(at' xs ys:List (List UInt8))(ls:List Lp)(G:Nat)(w:aF)(hX:xs.length≤100000)(hY:ys.length≤100000)(hXY:xs.length*(ys.length*4)≤10000)(h:Mw w G xs ys (C5 fs at' xs ys ls)):
 bE aE 35 #[aY (some ⟨G,0,none⟩)] w fun e w'=>(∃v los,e=bA v∧gJ w.heap.size w' v los∧los.map Lp.ps=GM fs at' xs ys ls)∧Below w.heap.size w w':=by
 obtain⟨xa,ya,gx,gy,cx,cy,m2,m3,m4,S,Nn,I,hg,hxa,hya,NO,hcy,hI,hc⟩:=h;have hin:lZ I=nB fs at' xs ys ls:=by funext i j;exact hc i j
 have tA:tS (lZ I) xs.length ys.length:=by rw[hin];exact AB fs at' xs ys ls
 have:=Xo xa ya G gx gy xs.length ys.length cx cy m2 m3 m4 S Nn I xs ys w hX hY hXY tA hxa hya hg ⟨rfl,rfl,NO,hcy⟩;rw[hin,trcP_of fun w hw=>by
  have hd:=(AC hw).1;unfold rR XE;rw[hI.sid w hd]]at this
 exact this
def N4(fs:List Fr)(z:List UInt8)(ps:List Pt)(k:Nat):Bool:=
 ((fs.getD (ps.getD k default).side.toNat default).up==(fs.getD (ps.getD ((k+1)%ps.length) default).side.toNat default).up)&&
  (WQ (fs.getD (ps.getD k default).side.toNat default) z !=WQ (fs.getD (ps.getD ((k+1)%ps.length) default).side.toNat default) z)
def jb(fs:List Fr)(z:List UInt8)(Fh:List (List Pt))(i:Nat):Bool:=anyN (N4 fs z (Fh.getD i [])) (Fh.getD i []).length
def XN(fs:List Fr)(z:List UInt8)(Fh:List (List Pt)):Bool:=anyN (jb fs z Fh) Fh.length
def Kr(fs:List Fr)(at':List (List UInt8))(ls:List Lp):List (List UInt8):=bL ((ls.flatMap Lp.ps).map fun p=>(bW fs at' p).x)
def Ks(fs:List Fr)(at':List (List UInt8))(ls:List Lp):List (List UInt8):=bL ((ls.flatMap Lp.ps).map fun p=>(bW fs at' p).y)
noncomputable def tT (fs:List Fr) (at':List (List UInt8)) (ls:List Lp):List (List Pt):=GM fs at' (Kr fs at' ls) (Ks fs at' ls) ls
noncomputable def qQ (fs:List Fr) (ls:List Lp) (z:List UInt8):Int:=
 if XN fs z (tT fs (fR fs z) ls)=true then 17 else 0
noncomputable def vJ (fs:List Fr) (ls:List Lp) (z:List UInt8):List (List Pt):=if qQ fs ls z=0 then Bv fs (fR fs z) (tT fs (fR fs z) ls)else[]
structure TrcH(fs:List Fr)(z:List UInt8)(ls:List Lp):Prop where
 g:Br fs (fR fs z) ls ((ls.flatMap Lp.ps).map fun p=>(bW fs (fR fs z) p).x) ((ls.flatMap Lp.ps).map fun p=>(bW fs (fR fs z) p).y)
 x:(Kr fs (fR fs z) ls).length≤36
 y:(Ks fs (fR fs z) ls).length≤36
 ok:TrcOk fs (fR fs z) (tT fs (fR fs z) ls)
theorem xy_36{a b:Nat}(ha:a≤36)(hb:b≤36):a*(b*4)≤10000:=by
 have h1:a*(b*4)≤36*(b*4):=pX _ ha;omega
theorem trcH_of{fs:List Fr}{z:List UInt8}{ls:List Lp}(NQ:∀f∈fs,f.Ok)(Ns:Tp ls)(hz:Lz z)(h:tO fs (fR fs z) ls false=true)(eu:fs.length≤12)(JX:ls.length≤1000)(hn:(ls.flatMap Lp.ps).length≤36):TrcH fs z ls:=by
 have hg:=Xy NQ Ns hz h JX (by omega);have hx:(Kr fs (fR fs z) ls).length≤36:=by
  refine aU (Bp _) ?_;rw[aZ];exact hn
 have hy:(Ks fs (fR fs z) ls).length≤36:=by
  refine aU (Bp _) ?_;rw[aZ];exact hn
 refine⟨hg,hx,hy,trc_ok hg h eu (fun s hs=>?_) (xy_36 hx hy)⟩;rw[ZH hs];refine Qo (NQ _ ?_) hz;rw[aG,List.getElem?_eq_getElem hs,Option.getD_some];exact gL _
theorem TrcH.at{fs:List Fr}{z:List UInt8}{ls:List Lp}(h:TrcH fs z ls){i k:Nat}(hi:i<(tT fs (fR fs z) ls).length)(hk:k<((tT fs (fR fs z) ls).getD i []).length):uS fs (fR fs z) (((tT fs (fR fs z) ls).getD i []).getD k default):=
 h.ok.ok _ (bU hi []) _ (bU hk default)
theorem By(fs:List Fr)(at':List (List UInt8))(ls:List Lp):(kH fs at' ls).length=ls.length:=by unfold kH;rw[aZ]
theorem Pf{fs:List Fr}{at':List (List UInt8)}{ls:List Lp}{i:Nat}(hi:i<ls.length):(kH fs at' ls).getD i []=xG fs at' (ls.getD i default).ps:=by
 simp[kH,aG,hi]
theorem moved_ok{fs:List Fr}{at':List (List UInt8)}{ls:List Lp}(Ns:Tp ls){nf:Nat}(zG:∀k,k<nf→Sm (at'.getD k []))
 (hsd:∀i,i<ls.length→∀j,j<(ls.getD i default).ps.length→∃s:Nat,((ls.getD i default).ps.getD j default).side=s∧s<nf){i:Nat}(hi:i<ls.length):
 ((kH fs at' ls).getD i []).length=(ls.getD i default).ps.length∧∀j,j<(ls.getD i default).ps.length→
  (∃s:Nat,(((kH fs at' ls).getD i []).getD j default).side=s∧s<nf)∧Sm (((kH fs at' ls).getD i []).getD j default).fr∧Sm (((kH fs at' ls).getD i []).getD j default).en:=by
 rw[Pf hi];refine⟨E8 _ _ _,fun j hj=>?_⟩;rw[OT hj];have hm:=Ns _ (bU hi default);have hp:=hm.2 _ (bU hj default);refine⟨hsd i hi j hj,?_,?_⟩
 ·show Sm (if _ then _ else _:List UInt8);split
  ·exact hp.1
  ·obtain⟨s,e,h⟩:=hsd i hi _ (dB (j+(ls.getD i default).ps.length-1) (by omega:0<(ls.getD i default).ps.length));rw[e];exact zG _ h
 ·show Sm (if _ then _ else _:List UInt8);split
  ·exact hp.2
  ·obtain⟨s,e,h⟩:=hsd i hi _ (dB (j+1) (by omega:0<(ls.getD i default).ps.length));rw[e];exact zG _ h
theorem any_anyN(f:Pt→Bool)(l:List Pt):l.any f=anyN (fun k=>f (l.getD k default)) l.length:=by
 rw[Bool.eq_iff_iff,List.any_eq_true,eA];constructor
 ·rintro⟨x,hx,hf⟩;obtain⟨k,hk,rfl⟩:=List.getElem_of_mem hx;exact⟨k,hk,by simpa[aG,hk]using hf⟩
 ·rintro⟨k,hk,hf⟩;exact⟨_,bU hk default,hf⟩
theorem MI{fs:List Fr}{ls:List Lp}{x y:List UInt8}(h:pO fs ls x y≠0):tP fs ls x y=[]:=iN h
theorem jc{fs:List Fr}{ls:List Lp}{x y:List UInt8}(h:pO fs ls x y=0):tP fs ls x y=kH fs (fR fs y) ls:=ip h
end
section
open Go Go.Lib
theorem Pg{xs:List (List UInt8)}(h:sI xs):xs.Nodup:=h.imp fun h e=>by subst e;exact absurd h (by grind)
theorem asc_eq{xs ys:List (List UInt8)}(hx:sI xs)(hy:sI ys)(h:∀z,z∈xs↔z∈ys):xs=ys:=
 List.Perm.eq_of_pairwise (fun a b _ _ h1 h2=>by exfalso;grind) hx hy ((List.perm_ext_iff_of_nodup (Pg hx) (Pg hy)).2 h)
theorem UD{ds es:List (List UInt8)}(hd:∀s∈ds,Nm s)(h:∀z,z∈ds↔z∈es):bL ds=bL es:=by
 obtain⟨a1,a2⟩:=mZ hd;obtain⟨b1,b2⟩:=mZ (ds:=es) fun s hs=>hd s ((h s).2 hs);exact asc_eq a1 b1 fun z=>by rw[a2,b2];exact h z
theorem tot_perm(f:Sg→Int){E F:List Sg}(h:E.Perm F):oH f E=oH f F:=by
 induction h with
 |nil=>rfl
 |cons x _ ih=>simp only[oH,ih]
 |swap x y l=>simp only[oH];omega
 |trans _ _ h1 h2=>rw[h1,h2]
theorem XO(w:Wy)(a:Option Int)(s t:Sg):yO w (yO w a s) t=yO w (yO w a t) s:=by
 unfold yO;by_cases h1:Iv s w.x w.y w.d<;>by_cases h2:Iv t w.x w.y w.d<;>simp only[h1,h2,if_true,if_false];cases a with
 |none=>simp only[];split <;>split <;>first |rfl|(exfalso;omega)|(congr 1;omega)
 |some c=>
  simp only[];by_cases c1:s.side<c<;>by_cases c2:t.side<c<;>by_cases c3:t.side<s.side<;>by_cases c4:s.side<t.side<;>simp only[c1,c2,c3,c4,if_true,if_false]<;>first |rfl|(exfalso;omega)|(congr 1;omega)
theorem UE{E F:List Sg}(h:E.Perm F)(w:Wy):tR E w=tR F w:=h.foldl_eq' (fun x _ y _ z=>XO w z x y) none
theorem UH(X Y:Int){E F:List Sg}(h:E.Perm F):gD X Y E=gD X Y F:=by
 funext i k;unfold gD dE;rw[tot_perm _ h]
theorem je{E F:List Sg}(h:E.Perm F)(X Y:Nat):Uy E X Y=Uy F X Y:=by
 unfold Uy XE;refine iX fun w _=>?_;rw[UE h]
theorem Ph{fs:List Fr}{at':List (List UInt8)}{ls ms:List Lp}(h:(ls.flatMap Lp.ps).Perm (ms.flatMap Lp.ps))(hx:∀p∈ls.flatMap Lp.ps,Nm (bW fs at' p).x∧Nm (bW fs at' p).y):tT fs at' ls=tT fs at' ms:=by
 have ex:Kr fs at' ls=Kr fs at' ms:=UD (fun s hs=>by obtain⟨p,hp,rfl⟩:=List.mem_map.1 hs;exact(hx p hp).1) fun z=>(h.map _).mem_iff;have ey:Ks fs at' ls=Ks fs at' ms:=UD (fun s hs=>by obtain⟨p,hp,rfl⟩:=List.mem_map.1 hs;exact(hx p hp).2) fun z=>(h.map _).mem_iff;unfold tT GM nB C5;rw[ex,ey,UH _ _ (h.map _),je (h.map _)]
end
section
open Go Go.RowKit
def Ja(c:Array aP):Nat→List aP→Array aP
 |_,[]=>c
 |o,v::r=>Ja (c.setIfInBounds o v) (o+1) r
theorem tU:∀(vs:List aP)(c:Array aP)(o:Nat),(Ja c o vs).size=c.size
 |[],_,_=>rfl
 |v::r,c,o=>by rw[Ja,tU r,P7]
theorem AF:∀(vs:List aP)(c:Array aP)(o j:Nat),o+vs.length≤c.size→(Ja c o vs)[j]? =if o≤j∧j<o+vs.length then vs[j-o]? else c[j]?
 |[],c,o,j,_=>by rw[Ja,iN (fun h=>by simp only[bV]at h;omega)]
 |v::r,c,o,j,h=>by
  simp only[bD]at h
  rw[Ja,AF r _ (o+1) j (by rw[P7];omega)]
  by_cases h1:o+1≤j∧j<o+1+r.length
  ·rw[ip h1,ip (by simp only[bD];omega),show j-o=(j-(o+1))+1 by omega,bC]
  ·rw[iN h1]
   by_cases h2:j=o
   ·subst h2
    rw[ip (by simp only[bD];omega),A6,aI,Array.getElem?_setIfInBounds_self_of_lt (by omega)]
   ·rw[iN (by simp only[bD];omega),Jz (by omega)]
theorem UI(c:Array aP)(vs:List aP)(h:c.size=vs.length):Ja c 0 vs=vs.toArray:=by
 apply Array.ext_getElem?;intro j;rw[AF vs c 0 j (by omega)];by_cases h1:j<vs.length
 ·rw[ip (by omega)];simp
 ·rw[iN (by omega),Sw (by omega),Sw (by simp;omega)]
theorem C7(w:aF)(T:dT):∀(vs:List aP)(c:Array aP)(o:Nat),(w.alloc (aN c T)).setCells w.heap.size o vs=w.alloc (aN (Ja c o vs) T)
 |[],_,_=>rfl
 |v::r,c,o=>by rw[World.setCells,World.setCell_alloc_new,C7 w T r,Ja]
theorem xN{F:Fence}{m:Nat}{P:Program}{id:Nat}{T:TypeId}{d s:Tmp}{o1 o2:Oper}{a:Act}{W:World}{Q:Exit→Act→World→Prop}(z cs:Array Value)(hs:a.tmps.getD s undef=.agg cs)
 (h:Q .normal (a.put (some d) (.pointer (some ⟨W.heap.size,0,none⟩))) (W.alloc (.cells cs T)))
 (e1:o1.op=.alloc T:=by rfl)(g1:o1.guard=none:=by rfl)(d1:o1.dst=some d:=by rfl)(e2:o2.op=.store T (.tmp d) (.tmp s):=by rfl)(g2:o2.guard=none:=by rfl)(d2:o2.dst=none:=by rfl)
 (iC:d≠s:=by decide)(hd:d<a.tmps.size:=by simp)(hi:(P.info? T).map (·.size)=some cs.size:=by kernel_rfl)(hzs:z.size=cs.size:=by rfl)(h1:cs.all (·.oneCell')=true:=by simp[Value.oneCell'])
 (hr:∀(ev:Operand→Value)(w:World),(execOp ev o1).run P w=.ok (.value (.pointer (some ⟨w.heap.size,0,none⟩))) (w.alloc (.cells z T)):=by(intro ev w;go_simp)):
 (Code.region id #[o1,o2] false).wpIn F m P Q a W:=by
 refine wpIn_region_lit (l:=[o1,o2]) (wpListIn_plain g1 fun K hK=>?_);refine⟨fun f hf=>?_,?_⟩
 ·unfold Oper.about at hf;rw[e1]at hf;cases hf
 ·rw[Oper.semAt_plain F _ _ (fun c=>by rw[e1];exact fun h=>by cases h),hr];show K (a.put o1.dst _) _;rw[d1];refine hK _ _ (wpListIn_plain g2 fun K' hK'=>?_);refine⟨fun f hf=>?_,?_⟩
  ·unfold Oper.about at hf;rw[e2]at hf;cases hf
  ·have q:=bT.new W z T;have e:=run_storeAt_mid (P:=P) (W.alloc (.cells z T)) W.heap.size 0 T cs (fun j hj=>⟨by rw[Nat.zero_add,q.cell];simp[hzs,hj],by rw[Nat.zero_add];exact q.fz j⟩) hi h1;rw[C7,UI z _ (by rw[hzs];simp)]at e;have x1:(a.put (some d) (.pointer (some ⟨W.heap.size,0,none⟩))).eval (.tmp d)=.pointer (some ⟨W.heap.size,0,none⟩):=by
    simp[Act.eval,Act.put,hd]
   have x2:(a.put (some d) (.pointer (some ⟨W.heap.size,0,none⟩))).eval (.tmp s)=.agg cs:=by
    have:(a.tmps.setIfInBounds d (.pointer (some ⟨W.heap.size,0,none⟩))).getD s undef=a.tmps.getD s undef:=by
     simp[Array.getD_eq_getD_getElem?,Array.getElem?_setIfInBounds_ne iC]
    simp only[Act.eval,Act.put];rw[this,hs]
   rw[Oper.semAt_plain F _ _ (fun c=>by rw[e2];exact fun h=>by cases h)];unfold execOp;simp only[e2,x1,x2,Sem.run_bind,e,Result.andThen_ok,Sem.run_pure];show K' (Act.put _ o2.dst undef) _;rw[d2];exact hK' _ _ (by rw[Array.toArray_toList];exact h)
inductive Wy3 where
 |quiet|store|made
 |alloc(z:Array aP)(T:dT)
abbrev Gm:=Nat→Option (Array aP×dT)
variable{P:dN}{cM:Array fX}{md:gU}{C:aF→Prop}{n:Nat}{A:Nat→Wy3}{b0:Nat}{G:Gm}{Q:A5→mI→aF→Prop}{m:Nat}
theorem qAtI{o:fX}{a:mI}{D:aF→Prop}{w:aF}{v:aP}(h:Oper.quietUpon P D w v ((AS a.eval o).run P w)):o.quietAt P a D w v:=h
theorem Rh{o:fX}{a:mI}{C C':aF→Prop}{w:aF}{v:aP}(h:∀w2,C w2→C' w2)(k:o.quietAt P a C w v):o.quietAt P a C' w v:=by
 unfold JA Oper.quietUpon at *;split at k
 ·exact k
 ·exact k
 ·exact⟨k.1,k.2.mono fun e w2⟨h1,h2⟩=>⟨h1,h _ h2⟩⟩
 ·exact k
def YR(P:dN)(cM:Array fX)(C:aF→Prop)(o:fX)(v:aP)(a:mI):Prop:=
 (eK o (wV cM a.tmps)=true∧∀w,C w→o.quietAt P a (fun w2=>Below w.heap.size w w2) w v)∨(eK o (wV cM a.tmps)=false∧v=aO)
theorem YR.same{o:fX}{v:aP}{a a':mI}(hy:YR P cM C o v a)(he:AS a'.eval o=AS a.eval o)(hw:eK o (wV cM a'.tmps)=eK o (wV cM a.tmps)):YR P cM C o v a':=by
 unfold YR JA at *;rw[he,hw];exact hy
def AR(P:dN)(o:fX)(z:Array aP)(T:dT):Prop:=(∀y,eK o y=true)∧∀a w,(AS a o).run P w=.ok (.value (aY (some ⟨w.heap.size,0,none⟩))) (w.alloc (aN z T))
def SR(P:dN)(o:fX)(a:mI)(g:Nat)(cs:Array aP):Prop:=(∀y,eK o y=true)∧o.dst=none∧∀w z T,bT w g z T→z.size=cs.size→(AS a.eval o).run P w=.ok (.value aO) (w.setCells g 0 cs.toList)∨(AS a.eval o).run P w=.ok .skip (w.setCells g 0 cs.toList)
def MR(P:dN)(o:fX)(a:mI)(z:Array aP)(T:dT)(vf:Nat→aP):Prop:=(∀y,eK o y=true)∧∀w,(AS a.eval o).run P w=.ok (.value (vf w.heap.size)) (w.alloc (aN z T))
def Ch(G:Gm)(g:Nat)(v:Array aP×dT):Gm:=fun k=>if k=g then some v else G k
theorem upd_comm{G:Gm}{g h:Nat}(u v:Array aP×dT)(iC:g≠h):Ch (Ch G g u) h v=Ch (Ch G h v) g u:=by
 funext k;unfold Ch;by_cases e:k=h<;>by_cases e2:k=g<;>simp[e,e2]<;>omega
def Gk(G:Gm)(w:aF):Prop:=∀k cs T,G k=some (cs,T)→bT w k cs T
theorem Gk.below{G:Gm}{w w2:aF}(h:Gk G w)(hb:Below w.heap.size w w2):Gk G w2:=fun k cs T e=>(h k cs T e).below hb (h k cs T e).lt
theorem C8(w:aF)(g:Nat):∀(vs:List aP)(o:Nat)(w:aF)(k:Nat),k≠g→(w.setCells g o vs).heap[k]? =w.heap[k]?
 |[],_,_,_,_=>rfl
 |v::r,o,w,k,h=>by rw[World.setCells,C8 w g r (o+1) _ k h];exact heap_setCell_other w ⟨g,o,none⟩ k v h
theorem Ey(g:Nat)(T:dT):∀(vs:List aP)(o:Nat)(w:aF)(z:Array aP),bT w g z T→bT (w.setCells g o vs) g (Ja z o vs) T
 |[],_,_,_,h=>h
 |v::r,o,w,z,h=>Ey g T r (o+1) _ _ (h.set o v)
theorem C9{B g:Nat}(hg:B≤g):∀(vs:List aP)(o:Nat)(w:aF),Below B w (w.setCells g o vs)
 |[],_,_=>aL _ _
 |v::r,o,w=>((aL B w).setCell (p:=⟨g,o,none⟩) hg v).trans (C9 hg r (o+1) _)
theorem Gk.store{G:Gm}{w:aF}(h:Gk G w){g:Nat}{z:Array aP}{T:dT}(hz:G g=some (z,T))(cs:Array aP)(hs:z.size=cs.size):Gk (Ch G g (cs,T)) (w.setCells g 0 cs.toList):=fun k c S e=>by
 unfold Ch at e
 by_cases hk:k=g
 ·subst hk
  rw[ip rfl]at e
  injection e with e;injection e with e1 e2;subst e1 e2
  have:=Ey k T cs.toList 0 w z (h k z T hz)
  rwa[UI z _ (by simpa using hs),Wn]at this
 ·rw[iN hk]at e
  exact(C8 w g cs.toList 0 w k hk).trans (h k c S e)
def ru(m:Nat)(P:dN)(md:gU)(cM:Array fX)(n:Nat)(A:Nat→Wy3)(Q:A5→mI→aF→Prop)(C:aF→Prop)(b0:Nat):Nat→Gm→Array Bool→mI→Prop
 |0,G,L,a=>cU md cM L=[]∧∀w,C w→Gk G w→Q .normal a w
 |f+1,G,L,a=>(cU md cM L=[]→∀w,C w→Gk G w→Q .normal a w)∧∀i∈cU md cM L,∃o,cM[i]? =some o∧
  if n≤i then∀w,C w→Gk G w→wpOpIn eP m P cM Q i (BU eP m P md cM Q f (L.setIfInBounds i true)) a w
  else match A i with
   |.alloc z T=>AR P o z T∧∀g,b0≤g→G g=none→ru m P md cM n A Q C b0 f (Ch G g (z,T)) (L.setIfInBounds i true) (a.put o.dst (aY (some ⟨g,0,none⟩)))
   |.store=>∃g cs z T,G g=some (z,T)∧z.size=cs.size∧b0≤g∧SR P o a g cs∧ru m P md cM n A Q C b0 f (Ch G g (cs,T)) (L.setIfInBounds i true) a
   |.quiet=>∃v,YR P cM C o v a∧ru m P md cM n A Q C b0 f G (L.setIfInBounds i true) (a.put o.dst v)
   |.made=>∃z T vf,MR P o a z T vf∧∀g,b0≤g→G g=none→ru m P md cM n A Q C b0 f (Ch G g (z,T)) (L.setIfInBounds i true) (a.put o.dst (vf g))
theorem AG{b0:Nat}(hQ:¬LetsOut Q)(hs:∀w w2,C w→Below b0 w w2→C w2)(hb:∀w,C w→b0≤w.heap.size):∀(f:Nat)(G:Gm)(L:Array Bool)(a:mI),ru m P md cM n A Q C b0 f G L a→∀w,C w→Gk G w→BU eP m P md cM Q f L a w
 |0,_,_,_,h,w,hw,hg=>⟨h.1,h.2 w hw hg⟩
 |f+1,G,L,a,h,w,hw,hg=>by
  refine⟨fun h0=>h.1 h0 w hw hg,fun i hi=>?_⟩
  obtain⟨o,ho,k⟩:=h.2 i hi
  split at k
  ·exact k w hw hg
  ·split at k
   ·rename_i z T _
    obtain⟨⟨k1,k2⟩,k3⟩:=k
    have hgn:G w.heap.size=none:=by
     cases e:G w.heap.size with
     |none=>rfl
     |some v=>exact absurd (hg _ v.1 v.2 e).lt (Nat.lt_irrefl _)
    have hr:=AG hQ hs hb f _ _ _ (k3 w.heap.size (hb w hw) hgn) (w.alloc (aN z T)) (hs _ _ hw ((aL _ _).alloc (hb w hw) _)) (fun k cs S e=>by
     unfold Ch at e;by_cases hk:k=w.heap.size
     ·rw[ip hk]at e;injection e with e;injection e with e1 e2;subst e1 e2 hk;exact bT.new w z T
     ·rw[iN hk]at e;exact(hg k cs S e).alloc _)
    refine FJ hQ ?_;unfold wpOp;rw[ho];simp only;rw[ip (k1 _)];left;unfold Ng;rw[k2];exact hr
   ·obtain⟨g,cs,z,T,e1,e2,e3,⟨k1,k0,k2⟩,k3⟩:=k;have hr:=AG hQ hs hb f _ _ _ k3 (w.setCells g 0 cs.toList) (hs _ _ hw (C9 e3 _ _ _)) (hg.store e1 cs e2);refine FJ hQ ?_;unfold wpOp;rw[ho];simp only;rw[ip (k1 _)];left;unfold Ng;rcases k2 w z T (hg g z T e1) e2 with k2|k2
    ·rw[k2];show BU _ _ _ _ _ _ _ _ (a.put o.dst _) _;rw[k0];exact hr
    ·rw[k2];show BU _ _ _ _ _ _ _ _ (a.put o.dst _) _;rw[k0];exact hr
   ·obtain⟨v,hy,hK⟩:=k;have hq:qOp P cM (fun w2=>Below w.heap.size w w2) i (ru m P md cM n A Q C b0 f G (L.setIfInBounds i true)) a:=by
     refine YieldsIn.qOp (v:=v) ho ?_ hK;rcases hy with⟨h1,h2⟩|h1
     ·exact .inl ⟨h1,fun w1 hw1=>Rh (fun w2 se=>hw1.trans (se.mono hw1.size)) (h2 w1 (hs _ _ hw (hw1.mono (hb w hw))))⟩
     ·exact .inr h1
    exact FJ hQ<|wpOp_of_qOp (C:=fun w2=>Below w.heap.size w w2) (aL _ _) (fun a' w' GD hk=>AG hQ hs hb f G _ _ hk w' (hs _ _ hw (GD.mono (hb w hw))) (hg.below GD)) hq
   ·obtain⟨z,T,vf,⟨k1,k2⟩,k3⟩:=k;have hgn:G w.heap.size=none:=by
     cases e:G w.heap.size with
     |none=>rfl
     |some v=>exact absurd (hg _ v.1 v.2 e).lt (Nat.lt_irrefl _)
    have hr:=AG hQ hs hb f _ _ _ (k3 w.heap.size (hb w hw) hgn) (w.alloc (aN z T)) (hs _ _ hw ((aL _ _).alloc (hb w hw) _)) (fun k cs S e=>by
     unfold Ch at e;by_cases hk:k=w.heap.size
     ·rw[ip hk]at e;injection e with e;injection e with e1 e2;subst e1 e2 hk;exact bT.new w z T
     ·rw[iN hk]at e;exact(hg k cs S e).alloc _)
    refine FJ hQ ?_;unfold wpOp;rw[ho];simp only;rw[ip (k1 _)];left;unfold Ng;rw[k2];exact hr
def cls(md:gU)(cM:Array fX):Nat→List Nat→List Nat
 |0,S=>S
 |f+1,S=>cls md cM f (S++(dD cM.size).filter fun i=> !S.contains i&&S.any fun j=>Region.waitsFor md cM j i)
def Pi(md:gU)(cM:Array fX)(n:Nat):Bool:=(dD cM.size).all fun t=>decide (t<n)||(dD n).all fun i=>(cls md cM 12 [t]).contains i
theorem MJ{L:Array Bool}(inv:EO md cM n L){t:Nat}(ht:t∈cU md cM L):∀(f:Nat)(S:List Nat),(∀j∈S,j=t∨L.getD j false=true)→∀j∈cls md cM f S,j=t∨L.getD j false=true
 |0,_,h=>h
 |f+1,S,h=>MJ inv ht f _ fun j hj=>by
  rcases List.mem_append.1 hj with hj|hj
  ·exact h j hj
  ·obtain⟨-,h1⟩:=List.mem_filter.1 hj
   rw[bQ]at h1
   obtain⟨k,hk,h2⟩:=List.any_eq_true.1 h1.2
   obtain⟨o,ho,e,he,hb,rfl⟩:=Region.waitsFor_spec h2
   refine .inr ?_
   rcases h k hk with rfl|hl
   ·obtain⟨_,ot,hot,hall⟩:=mem_ready.1 ht
    rw[hot]at ho;injection ho with ho;subst ho
    exact hall e he hb
   ·exact inv.closed k o ho hl e he hb
theorem sink_no{L:Array Bool}(hs:Pi md cM n=true)(inv:EO md cM n L){i t:Nat}(hi:i<n)(hu:L.getD i true=false)(ht:t∈cU md cM L):t<n:=by
 obtain⟨_,ot,hot,hall⟩:=mem_ready.1 ht;have hlt:=(Array.getElem?_eq_some_iff.1 hot).1;have h1:=List.all_eq_true.1 hs t (List.mem_range.2 hlt);rw[jC,decide_eq_true_eq]at h1;rcases h1 with h1|h1
 ·exact h1
 ·have h2:i∈cls md cM 12 [t]:=by simpa using List.all_eq_true.1 h1 i (List.mem_range.2 hi)
  rcases MJ inv ht 12 [t] (fun j hj=>.inl (List.mem_singleton.1 hj)) i h2 with rfl|h3
  ·exact hi
  ·rw[pv hu]at h3;cases h3
def Fre(md:gU)(cM:Array fX)(L:Array Bool)(i:Nat)(oi:fX):Prop:=∀j oj,cM[j]? =some oj→j≠i→L.getD j true=false→(∀e∈oj.after,sM md e=true→e.on≠i)→oi.apart cM oj=true
theorem Fre.set{L:Array Bool}{i j:Nat}{oi:fX}(h:Fre md cM L i oi)(hj:L.getD j true=false):Fre md cM (L.setIfInBounds j true) i oi:=fun k ok hk hki hun hno=>by
 refine h k ok hk hki ?_ hno
 by_cases hjk:j=k
 ·subst hjk;exact hj
 ·rw[getD_set_ne true hjk]at hun;exact hun
theorem Jb{L:Array Bool}{i j:Nat}(hi:i∈cU md cM L)(hj:j∈cU md cM L):∃oj,cM[j]? =some oj∧L.getD j true=false∧∀e∈oj.after,sM md e=true→e.on≠i:=by
 obtain⟨hun,-⟩:=mem_ready.1 hi;obtain⟨Fi,oj,Ny,hall⟩:=mem_ready.1 hj;refine⟨oj,Ny,Fi,fun e he hb heq=>?_⟩;have h1:=hall e he hb;rw[heq,pv hun]at h1;cases h1
theorem Pj{i:Nat}{oi:fX}{v:aP}(hi:cM[i]? =some oi)(Xs:∀(j:Nat)(o:fX)cs b,cM[j]? =some o→o.op≠.select cs b)(hs:Pi md cM n=true)(hin:i<n)(hA:A i=.quiet):
 ∀(f:Nat)(G:Gm)(L:Array Bool)(a:mI),EO md cM n L→Fre md cM L i oi→i∈cU md cM L→YR P cM C oi v a→
  ru m P md cM n A Q C b0 f G (L.setIfInBounds i true) (a.put oi.dst v)→ru m P md cM n A Q C b0 (f+1) G L a:=by
 intro f;induction f with
 |zero=>
  intro G L a inv Az hr hy H;refine⟨fun h=>(by rw[h]at hr;cases hr),fun j hj=>?_⟩;by_cases hji:j=i
  ·subst hji;exact⟨oi,hi,by rw[iN (by omega),hA];exact⟨v,hy,H⟩⟩
  ·have:=qB hj hji;rw[H.1]at this;cases this
 |succ f ih=>
  intro G L a inv Az hr hy H;refine⟨fun h=>(by rw[h]at hr;cases hr),fun j hj=>?_⟩;by_cases hji:j=i
  ·subst hji;exact⟨oi,hi,by rw[iN (by omega),hA];exact⟨v,hy,H⟩⟩
  ·have hjn:=sink_no hs inv hin (mem_ready.1 hr).1 hj;obtain⟨oj,Ny,Fi,Ue⟩:=Jb hr hj;obtain⟨h1,h2,h3⟩:=Oper.apart_spec (Az j oj Ny hji Fi Ue);obtain⟨o',jg,k⟩:=H.2 j (qB hj hji);rw[Ny]at jg;injection jg with jg;subst jg;refine⟨oj,Ny,?_⟩;rw[iN (by omega)]at k⊢;have keep:∀u,YR P cM C oi v (a.put oj.dst u):=fun u=>hy.same (Wo oi (fun cs b=>Xs i oi cs b hi) a oj.dst u h3) (wanted_put oi a oj.dst u h3);split at k
   ·rename_i z T hz;refine⟨k.1,fun g hb hg=>?_⟩;refine ih _ _ _ (inv.set hj hjn) (Az.set Fi) (qB hr (Ne.symm hji)) (keep _) ?_;have:=k.2 g hb hg;rwa[mQ _ _ hji,←Kc a v _ h2]
   ·obtain⟨g,cs,z,T,e1,e2,e3,⟨k1,k0,k2⟩,k3⟩:=k;refine⟨g,cs,z,T,e1,e2,e3,⟨k1,k0,fun w z T h4 h5=>?_⟩,?_⟩
    ·have:=k2 w z T h4 h5;rwa[Wo oj (fun cs b=>Xs j oj cs b Ny) a oi.dst v h1]at this
    ·have kp:=keep aO;rw[k0]at kp;refine ih _ _ _ (inv.set hj hjn) (Az.set Fi) (qB hr (Ne.symm hji)) kp ?_;rwa[mQ _ _ hji]
   ·obtain⟨u,hu,hK⟩:=k;refine⟨u,hu.same (Wo oj (fun cs b=>Xs j oj cs b Ny) a oi.dst v h1).symm (wanted_put oj a oi.dst v h1).symm,?_⟩;refine ih _ _ _ (inv.set hj hjn) (Az.set Fi) (qB hr (Ne.symm hji)) (keep _) ?_;rwa[mQ _ _ hji,←Kc a v _ h2]
   ·obtain⟨z,T,vf,⟨k1,k2⟩,k3⟩:=k;refine⟨z,T,vf,⟨k1,fun w=>?_⟩,fun g hb hg=>?_⟩
    ·have:=k2 w;rwa[Wo oj (fun cs b=>Xs j oj cs b Ny) a oi.dst v h1]at this
    ·refine ih _ _ _ (inv.set hj hjn) (Az.set Fi) (qB hr (Ne.symm hji)) (keep _) ?_;have:=k3 g hb hg;rwa[mQ _ _ hji,←Kc a v _ h2]
theorem jh{i:Nat}{oi:fX}{z:Array aP}{T:dT}(hi:cM[i]? =some oi)(hin:i<n)(hA:A i=.alloc z T)(hR:AR P oi z T)(al:List Nat)(hal:∀j∈al,∃y S,A j=.alloc y S∧j<n):
 ∀(f:Nat)(G:Gm)(L:Array Bool)(a:mI),(∃B,∀k,B≤k→G k=none)→EO md cM n L→Fre md cM L i oi→(∀L':Array Bool,EO md cM n L'→(∀j,L.getD j false=true→L'.getD j false=true)→L'.getD i true=false→∀j∈cU md cM L',j∈al)→i∈cU md cM L→
  (∀g,b0≤g→G g=none→ru m P md cM n A Q C b0 f (Ch G g (z,T)) (L.setIfInBounds i true) (a.put oi.dst (aY (some ⟨g,0,none⟩))))→ru m P md cM n A Q C b0 (f+1) G L a:=by
 intro f;induction f with
 |zero=>
  intro G L a hB inv Az hall hr H;refine⟨fun h=>(by rw[h]at hr;cases hr),fun j hj=>?_⟩;by_cases hji:j=i
  ·subst hji;exact⟨oi,hi,by rw[iN (by omega),hA];exact⟨hR,H⟩⟩
  ·obtain⟨oj,Ny,-⟩:=Jb hr hj;refine⟨oj,Ny,?_⟩;exfalso;have:=qB hj hji;obtain⟨B,hB⟩:=hB;rw[(H (max B b0) (Nat.le_max_right _ _) (hB _ (Nat.le_max_left _ _))).1]at this;cases this
 |succ f ih=>
  intro G L a hB inv Az hall hr H;refine⟨fun h=>(by rw[h]at hr;cases hr),fun j hj=>?_⟩;by_cases hji:j=i
  ·subst hji;exact⟨oi,hi,by rw[iN (by omega),hA];exact⟨hR,H⟩⟩
  ·obtain⟨y,S,hAj,hjn⟩:=hal j (hall L inv (fun _ h=>h) (mem_ready.1 hr).1 j hj);obtain⟨oj,Ny,Fi,Ue⟩:=Jb hr hj;obtain⟨h1,h2,h3⟩:=Oper.apart_spec (Az j oj Ny hji Fi Ue);refine⟨oj,Ny,?_⟩;rw[iN (by omega),hAj];have key:∀g,b0≤g→G g=none→AR P oj y S∧∀g',b0≤g'→Ch G g (z,T) g'=none→ru m P md cM n A Q C b0 f (Ch (Ch G g (z,T)) g' (y,S)) ((L.setIfInBounds i true).setIfInBounds j true) ((a.put oi.dst (aY (some ⟨g,0,none⟩))).put oj.dst (aY (some ⟨g',0,none⟩))):=fun g hb hg=>by
    obtain⟨o',jg,k⟩:=(H g hb hg).2 j (qB hj hji);rw[Ny]at jg;injection jg with jg;subst jg;rw[iN (by omega),hAj]at k;exact k
   obtain⟨B,hB⟩:=hB;refine⟨(key (max B b0) (Nat.le_max_right _ _) (hB _ (Nat.le_max_left _ _))).1,fun g' JG hg'=>?_⟩;refine ih _ _ _ ⟨max B (g'+1),fun k hk=>?_⟩ (inv.set hj hjn) (Az.set Fi) (fun L' inv' Qh hu=>hall L' inv' (fun k hk=>Qh k (getD_set_true hk)) hu) (qB hr (Ne.symm hji)) fun g hb hg=>?_
   ·unfold Ch;rw[iN (by omega)];exact hB k (by omega)
   ·have iC:g≠g':=fun e=>by subst e;unfold Ch at hg;rw[ip rfl]at hg;cases hg
    have hgG:G g=none:=by unfold Ch at hg;rwa[iN iC]at hg
    have hgu:Ch G g (z,T) g'=none:=by unfold Ch;rw[iN (Ne.symm iC)];exact hg'
    have:=(key g hb hgG).2 g' JG hgu;rw[mQ _ _ hji,←Kc a _ _ h2,upd_comm _ _ (Ne.symm iC)];exact this
def WF(m:Nat)(P:dN)(md:gU)(cM:Array fX)(n:Nat)(A:Nat→Wy3)(Q:A5→mI→aF→Prop)(C:aF→Prop)(b0 f:Nat)(G:Gm)(L:Array Bool)(a:mI):Prop:=
 Pi md cM n=true→qI cM=true→(∃B,∀k,B≤k→G k=none)→EO md cM n L→ru m P md cM n A Q C b0 f G L a
variable{f:Nat}{L:Array Bool}{a:mI}
theorem qS(i:Nat){oi:Oper}{v:Value}(hi:cM[i]? =some oi)(h:WF m P md cM n A Q C b0 f G (L.setIfInBounds i true) (a.put oi.dst v))(hw:Region.wanted oi (yielded cM a.tmps)=true:=by kernel_rfl)
 (hy:∀w,C w→oi.quietAt P a (fun w2=>Below w.heap.size w w2) w v:=by(intro w AX;have hSx:=AX.1;clear AX;(try dsimp only at hSx);apply qAtI;go_simp;first |done|exact⟨rfl,rfl⟩|rfl))
 (hin:i<n:=by decide)(hA:A i=.quiet:=by rfl)(hf:Region.free md cM L i=true:=by kernel_rfl)(hr:(Region.ready md cM L).contains i=true:=by kernel_rfl):WF m P md cM n A Q C b0 (f+1) G L a:=fun hs hn hB inv=>by
 have YP:i∈Region.ready md cM L:=by simpa using hr
 exact Pj hi (Region.noSelect_spec hn) hs hin hA f G L a inv (Region.free_spec hi hf) YP (.inl ⟨hw,hy⟩) (h hs hn hB (inv.set YP hin))
theorem qC(i:Nat){oi:Oper}{v:Value}{g:FuncId}{ar:Array Value}(H:∀w,C w→Calls P g ar w (Rt (v) w))(hi:cM[i]? =some oi)(h:WF m P md cM n A Q C b0 f G (L.setIfInBounds i true) (a.put oi.dst v))(hw:Region.wanted oi (yielded cM a.tmps)=true:=by kernel_rfl)
 (he:∀w,(execOp a.eval oi).run P w=.ok (.enter g ar) w:=by(intro w;go_simp;first |done|rfl))
 (hin:i<n:=by decide)(hA:A i=.quiet:=by rfl)(hf:Region.free md cM L i=true:=by kernel_rfl)(hr:(Region.ready md cM L).contains i=true:=by kernel_rfl):WF m P md cM n A Q C b0 (f+1) G L a:=
 qS i hi h hw (fun w hw=>by unfold Oper.quietAt;rw[he w];exact⟨rfl,H w hw⟩) hin hA hf hr
theorem bT.range{w:aF}{b:Nat}{arr:Array aP}{T:dT}(h:bT w b arr T)(o n:Nat){cs:List aP}(e:(arr.toList.drop o).take n=cs):w.rangeAt b o cs:=fun j v hv=>by
 subst e
 rw[h.cell]
 rw[List.getElem?_take]at hv
 split at hv
 ·rw[List.getElem?_drop]at hv
  simpa using hv
 ·cases hv
theorem qR(i:Nat){oi:Oper}(b o:Nat)(cs:Array Value)(hS:∀w,C w→w.rangeAt b o cs.toList)(hi:cM[i]? =some oi)(h:WF m P md cM n A Q C b0 f G (L.setIfInBounds i true) (a.put oi.dst (.agg cs))){ty:TypeId}{x:Operand}{d:TypeDesc}(ho:oi.op=.load ty x:=by rfl)
 (hx:a.eval x=.pointer (some ⟨b,o,none⟩):=by rfl)(hu:P.underlying ty=some d:=by rfl)(hd:d.isRow=true:=by rfl)(hz:(P.info? ty).map (·.size)=some cs.toList.length:=by kernel_rfl)(hw:Region.wanted oi (yielded cM a.tmps)=true:=by kernel_rfl)
 (hin:i<n:=by decide)(hA:A i=.quiet:=by rfl)(hf:Region.free md cM L i=true:=by kernel_rfl)(hr:(Region.ready md cM L).contains i=true:=by kernel_rfl):WF m P md cM n A Q C b0 (f+1) G L a:=
 qS i hi h hw (fun w hw=>by
  unfold Oper.quietAt execOp
  have e:=run_loadAt_mid (P:=P) w b o ty cs.toList d (hS w hw) hu hd hz
  simp only[ho,hx,Instr.loadAt,Instr.sureAddr,Sem.run_bind,Sem.run_pure,Result.andThen_ok]at e⊢
  rw[e]
  exact⟨rfl,by simp⟩) hin hA hf hr
theorem qL(i:Nat){oi:Oper}(b o:Nat)(cs:Array Value){arr:Array Value}{T:TypeId}(hS:∀w,C w→bT w b arr T)(hi:cM[i]? =some oi)(h:WF m P md cM n A Q C b0 f G (L.setIfInBounds i true) (a.put oi.dst (.agg cs))){ty:TypeId}{x:Operand}{d:TypeDesc}(ho:oi.op=.load ty x:=by rfl)
 (hx:a.eval x=.pointer (some ⟨b,o,none⟩):=by rfl)(hu:P.underlying ty=some d:=by rfl)(hd:d.isRow=true:=by rfl)(hz:(P.info? ty).map (·.size)=some cs.toList.length:=by kernel_rfl)(BM:(arr.toList.drop o).take cs.size=cs.toList:=by rfl)(hw:Region.wanted oi (yielded cM a.tmps)=true:=by kernel_rfl)
 (hin:i<n:=by decide)(hA:A i=.quiet:=by rfl)(hf:Region.free md cM L i=true:=by kernel_rfl)(hr:(Region.ready md cM L).contains i=true:=by kernel_rfl):WF m P md cM n A Q C b0 (f+1) G L a:=
 qR i b o cs (fun w hw=>(hS w hw).range o cs.size BM) hi h ho hx hu hd hz hw hin hA hf hr
theorem ZL(i:Nat){oi:Oper}(hi:cM[i]? =some oi)(h:WF m P md cM n A Q C b0 f G (L.setIfInBounds i true) (a.put oi.dst undef))(hw:Region.wanted oi (yielded cM a.tmps)=false:=by kernel_rfl)
 (hin:i<n:=by decide)(hA:A i=.quiet:=by rfl)(hf:Region.free md cM L i=true:=by kernel_rfl)(hr:(Region.ready md cM L).contains i=true:=by kernel_rfl):WF m P md cM n A Q C b0 (f+1) G L a:=fun hs hn hB inv=>by
 have YP:i∈Region.ready md cM L:=by simpa using hr
 exact Pj hi (Region.noSelect_spec hn) hs hin hA f G L a inv (Region.free_spec hi hf) YP (.inr ⟨hw,rfl⟩) (h hs hn hB (inv.set YP hin))
def upB(md:gU)(cM:Array fX)(L:Array Bool)(i:Nat)(al:List Nat):Bool:=(dD cM.size).all fun j=>L.getD j true||al.contains j||(cls md cM 12 [j]).contains i
theorem upB_spec{al:List Nat}{i:Nat}(inv0:EO md cM n L)(h:upB md cM L i al=true)(hni:i∈al)(L':Array Bool)(inv:EO md cM n L')(Qh:∀j,L.getD j false=true→L'.getD j false=true)(hu:L'.getD i true=false)(j:Nat)(hj:j∈cU md cM L'):j∈al:=by
 obtain⟨Fi,oj,Ny,hall⟩:=mem_ready.1 hj;have hlt:=(Array.getElem?_eq_some_iff.1 Ny).1;have h1:=List.all_eq_true.1 h j (List.mem_range.2 hlt);rw[jC,jC]at h1;rcases h1 with(h1|h1)|h1
 ·exfalso;by_cases hs:j<L.size
  ·have:L.getD j false=true:=by simp[hs]at h1⊢;exact h1
   have:=Qh j this;rw[pv Fi]at this;cases this
  ·rw[inv0.size]at hs;exact hs hlt
 ·simpa using h1
 ·rcases MJ inv hj 12 [j] (fun k hk=>.inl (List.mem_singleton.1 hk)) i (by simpa using h1)with rfl|h3
  ·exact hni
  ·rw[pv hu]at h3;cases h3
theorem qA(i:Nat){oi:Oper}(al:List Nat)(z:Array Value)(T:TypeId)(hi:cM[i]? =some oi)(h:∀g,b0≤g→G g=none→WF m P md cM n A Q C b0 f (Ch G g (z,T)) (L.setIfInBounds i true) (a.put oi.dst (.pointer (some ⟨g,0,none⟩))))
 (hR:AR P oi z T:=by exact⟨fun _=>rfl,fun a w=>by go_simp⟩)(hal:∀j∈al,∃y S,A j=.alloc y S∧j<n:=by simp)(hup:upB md cM L i al=true:=by kernel_rfl)(hni:i∈al:=by simp)
 (hin:i<n:=by decide)(hA:A i=.alloc z T:=by rfl)(hf:Region.free md cM L i=true:=by kernel_rfl)(hr:(Region.ready md cM L).contains i=true:=by kernel_rfl):WF m P md cM n A Q C b0 (f+1) G L a:=fun hs hn hB inv=>by
 have YP:i∈Region.ready md cM L:=by simpa using hr
 refine jh hi hin hA hR al hal f G L a hB inv (Region.free_spec hi hf) (fun L' inv' Qh hu=>upB_spec inv hup hni L' inv' Qh hu) YP fun g hb hg=>h g hb hg hs hn ?_ (inv.set YP hin)
 obtain⟨B,hB⟩:=hB
 exact⟨max B (g+1),fun k hk=>by unfold Ch;rw[iN (by omega)];exact hB k (by omega)⟩
theorem UJ{o:Oper}{g:Nat}{cs:Array Value}{T:TypeId}{x y:Operand}(e:o.op=.store T x y:=by rfl)(gd:o.guard=none:=by rfl)(d:o.dst=none:=by rfl)(hx:a.eval x=.pointer (some ⟨g,0,none⟩):=by rfl)(hy:a.eval y=.agg cs:=by rfl)(hi:(P.info? T).map (·.size)=some cs.size:=by kernel_rfl)(h1:cs.all (·.oneCell')=true:=by simp[Value.oneCell']):SR P o a g cs:=
 ⟨fun _=>by unfold Region.wanted;rw[gd],d,fun w z S hz hs=>by
  have e2:=run_storeAt_mid (P:=P) w g 0 T cs (fun j hj=>⟨by rw[Nat.zero_add,hz.cell];simp[hs,hj],by rw[Nat.zero_add];exact hz.fz j⟩) hi h1
  unfold execOp
  simp only[e,hx,hy,Sem.run_bind,e2,Result.andThen_ok,Sem.run_pure]
  simp⟩
theorem qW(i:Nat){oi:Oper}(g:Nat)(cs z:Array Value)(T:TypeId)(hi:cM[i]? =some oi)(hg:G g=some (z,T))(hb:b0≤g)(h:WF m P md cM n A Q C b0 f (Ch G g (cs,T)) (L.setIfInBounds i true) a)(hR:SR P oi a g cs)(hz:z.size=cs.size:=by rfl)
 (hin:i<n:=by decide)(hA:A i=.store:=by rfl)(hr:Region.ready md cM L=[i]:=by kernel_rfl):WF m P md cM n A Q C b0 (f+1) G L a:=fun hs hn hB inv=>by
 refine⟨fun h0=>(by rw[h0]at hr;cases hr),fun j hj=>?_⟩
 have hji:j=i:=by rw[hr]at hj;exact List.mem_singleton.1 hj
 subst hji
 refine⟨oi,hi,?_⟩
 rw[iN (by omega),hA]
 refine⟨g,cs,z,T,hg,hz,hb,hR,h hs hn ?_ (inv.set hj hin)⟩
 obtain⟨B,hB⟩:=hB
 exact⟨max B (g+1),fun k hk=>by unfold Ch;rw[iN (by omega)];exact hB k (by omega)⟩
theorem qM(i:Nat){oi:Oper}(z:Array Value)(T:TypeId)(vf:Nat→Value)(hi:cM[i]? =some oi)(h:∀g,b0≤g→G g=none→WF m P md cM n A Q C b0 f (Ch G g (z,T)) (L.setIfInBounds i true) (a.put oi.dst (vf g)))(hR:MR P oi a z T vf)
 (hin:i<n:=by decide)(hA:A i=.made:=by rfl)(hr:Region.ready md cM L=[i]:=by kernel_rfl):WF m P md cM n A Q C b0 (f+1) G L a:=fun hs hn hB inv=>by
 refine⟨fun h0=>(by rw[h0]at hr;cases hr),fun j hj=>?_⟩
 have hji:j=i:=by rw[hr]at hj;exact List.mem_singleton.1 hj
 subst hji
 refine⟨oi,hi,?_⟩
 rw[iN (by omega),hA]
 refine⟨z,T,vf,hR,fun g hb hg=>h g hb hg hs hn ?_ (inv.set hj hin)⟩
 obtain⟨B,hB⟩:=hB
 exact⟨max B (g+1),fun k hk=>by unfold Ch;rw[iN (by omega)];exact hB k (by omega)⟩
theorem qT(h:∀w,C w→Gk G w→BU eP m P md cM Q (f+1) L a w)(hn:((cU md cM L).all fun i=>decide (n≤i))=true:=by kernel_rfl):WF m P md cM n A Q C b0 (f+1) G L a:=fun _ _ _ _=>by
 refine⟨fun h0 w hw hg=>(h w hw hg).1 h0,fun i hi=>?_⟩
 have hni:=of_decide_eq_true (List.all_eq_true.1 hn i hi)
 obtain⟨-,oi,hoi,-⟩:=mem_ready.1 hi
 exact⟨oi,hoi,by rw[ip hni];exact fun w hw hg=>(h w hw hg).2 i hi⟩
theorem qE(h:∀w,C w→Gk G w→Q .normal a w)(hn:(Region.ready md cM L).isEmpty=true:=by kernel_rfl):WF m P md cM n A (iM Q) C b0 f G L a:=fun _ _ _ _=>by
 have hn:=List.isEmpty_iff.1 hn
 cases f with
 |zero=>exact⟨hn,h⟩
 |succ f=>exact⟨fun _=>h,fun i hi=>by rw[hn]at hi;cases hi⟩
theorem head0(md:gU)(cM:Array fX)(n:Nat):EO md cM n (gR cM.size false):=
 ⟨by simp,fun j oj _ hl=>(by rw[Oe]at hl;cases hl),fun t _ ht=>getD_in (by simpa using ht) (Oe _ _)⟩
def Cl(S:aF→Prop)(w:aF):aF→Prop:=fun w2=>S w2∧Below w.heap.size w w2
theorem Cl.b{S:aF→Prop}{w w2:aF}(h:Cl S w.drew w2):Below w.heap.size w w2:=(aL w.heap.size w).drew.trans h.2
theorem Pk{w:aF}{a:mI}(hQ:¬LetsOut Q)(n:Nat)(hk:Pi md cM n=true)(hn:qI cM=true)(A:Nat→Wy3)(S:aF→Prop)(hS:S w)(st:∀w1 w2,S w1→Below w.heap.size w1 w2→S w2)
 (h:WF m P md cM n A Q (Cl S w) w.heap.size cM.size (fun _=>none) (gR cM.size false) a):BU eP m P md cM Q cM.size (gR cM.size false) a w:=
 AG hQ (fun w1 w2 h1 h2=>⟨st _ _ h1.1 h2,h1.2.trans h2⟩) (fun w1 h1=>h1.2.size) cM.size _ _ _ (h hk hn ⟨0,fun _ _=>rfl⟩ (head0 md cM n)) w ⟨hS,aL _ _⟩ (fun _ _ _ e=>by cases e)
section
variable{id:Nat}{w:aF}{a:mI}(n:Nat)(A:Nat→Wy3)(S:aF→Prop)(hS:S w.drew)(h:WF m P .any cM n A (iM Q) (Cl S w.drew) w.heap.size cM.size (fun _=>none) (gR cM.size false) a)
 (st:∀w1 w2,S w1→Below w.heap.size w1 w2→S w2)(hm:P.follows .mixedOrders=true:=by kernel_rfl)(hk:Pi .any cM n=true:=by kernel_rfl)(hn:qI cM=true:=by kernel_rfl)
include hS h st hm hk hn
theorem uB:(tD id cM true).wpIn eP m P Q a w:=
 wpIn_mono (wpIn_region_any hm (Pk iM.no n hk hn A S hS st h)) iM.imp
theorem tV{l:Nat}(hd:Ba cM=true:=by kernel_rfl):(Code.region id cM true).wpIn (Fence.wide.inRound l) m P Q a w:=
 wpIn_mono (Bb hm hd (Pk iM.no n hk hn A S hS st h)) iM.imp
theorem UK:(tD id cM true).wp P Q a w:=(wpIn_wide (n:=m)).1 (uB n A S hS h st hm hk hn)
end
theorem qU{id:Nat}{w:World}{a:Act}(n:Nat)(A:Nat→Wy3)(S:World→Prop)(hS:S w.drew)(h:WF 9 P .any cM n A (iM Q) (Cl S w.drew) w.heap.size cM.size (fun _=>none) (Array.replicate cM.size false) a)
 (st:∀w1 w2,S w1→Below w.heap.size w1 w2→S w2)(hm:P.follows .mixedOrders=true:=by kernel_rfl)(hk:Pi .any cM n=true:=by kernel_rfl)(hn:Region.noSelect cM=true:=by kernel_rfl):(Code.region id cM true).wp P Q a w:=UK n A S hS h st hm hk hn
end
end Go.Proofs.YtkchhginppjaiaaGreatDoor
