import Derived.Test.YtckgmoobicmbnaaGreatDoorProg
import Derived.WalkKit
import Derived.WalkSpells
import Derived.WalkLawsBesides
import Derived.RegionTactic
import Derived.ChangeAlike
import Derived.Deep.QuietTactic
import Derived.BigQuiet
import Derived.Lib.Hide
import Derived.Deep.DeepCutAuto
import Derived.Deep.RegionHeld3
import Derived.Sort.CutIn
import Derived.Sort.QuietIn
import Derived.RegionIn
import Derived.Deep.RegionWith
import Derived.Test.YtckgmoobicmbnaaGreatDoorZ0
import Derived.Test.YtckgmoobicmbnaaGreatDoorZ1
import Derived.Test.YtckgmoobicmbnaaGreatDoorZ2
namespace Go.Proofs.YtckgmoobicmbnaaGreatDoor
set_option maxRecDepth 100000
set_option maxHeartbeats 8000000
set_option linter.all false
open Go.Proofs.Tryz
open _root_.Array renaming replicate_succ->bR,replicate_zero->bS
open _root_.Go renaming World->aF,Value->aS,Calls->aW,bodyPost_ret->cI,below_drewN->cK,Addr->cT,maxLen->dL,wpAnyIn_done->eM,run_takeDeferred->fH,KeepsFrom->gP,heap_setCell_other->nY,ownFrom_below->oA,results_cell_row->DH,belowK_b->D3
open Go.AllReadyIn renaming nil->aT,cons->eF
open Go.ByteArray renaming toList_eq->cJ
open Go.Calls renaming quiet_of_same->Eu
open Go.Ending renaming returned->aQ
open Go.Fence renaming wide->dG
open Go.IntKind renaming i64->aE
open Go.IntWalk renaming i64_in->aX
open Go.KeepsFrom renaming refl->zp
open Go.KeepsOthers renaming setCell->cG
open Go.Lib renaming trimS->kO,hasPrefix->AY
open Go.Obj renaming cells->aJ
open Go.Oper renaming semAt_some->dW
open Go.OwnFrom renaming and->cU
open Go.Proofs.Tryz renaming prog->aC,ntmps274->oG,isAgg194->oO,func274->pZ,results279->rX,underlying284->yO,results266->MK,ntmps223->QO,ntmps266->QP,func223->UL,func266->UM
open Go.RowKit renaming intOf->aK,Hid->bH
open Go.RowKit.Below renaming refl->aH,trans->lJ
open Go.Value renaming string->aA,slice->aB,int->aD,bool->aN,tuple->cC,agg->cN
open Go.World renaming size_alloc->bB,size_setCell->jN,ownsRow_nil->Ba,drew->B0,ownsRow_lit->iu,drewN_drewN->iw
open Go.World.ownsRow renaming frozenAt->fN
open _root_.Int renaming toNat_natCast->iF,tdiv_eq_ediv_of_nonneg->jB,tmod_eq_emod_of_nonneg->jI,natCast_mul->lI,natCast_nonneg->Kk,natCast_ediv->NN
open _root_.List renaming getElem?_cons_zero->aI,getElem?_toArray->aL,length_cons->bF,append_toArray->bU,replicate->bV,size_toArray->bW,length_nil->bY,cons_append->bZ,push_toArray->cD,nil_append->cL,getElem?_eq_getElem->eO,length_set->fP,eq_nil_of_length_eq_zero->fW,eq_of_mem_replicate->sC,map_append->tW,drop_of_length_le->uS,drop_zero->QK,map_singleton->it
open _root_.MonadStateOf renaming set->Vq
open _root_.Nat renaming le_refl->aG,le_trans->bE,lt_of_lt_of_le->bL,pow_le_pow_right->bO,reduceAdd->cW,reduceSub->cX,mul_comm->dJ,mul_le_mul_right->eV,pow_succ->fC,mod_eq_of_lt->fE,eq_zero_or_pos->fF,lt_or_ge->fK,mod_lt->fU,mul_assoc->fV,le_of_lt->fZ,mul_add->gD,add_mul->jH,mul_le_mul_left->lQ,zero_mul->oC,add_zero->oE,pow_add->pE,div_add_mod->pF,div_eq_of_lt->sF,mul_le_mul->tV,div_lt_iff_lt_mul->vI,div_mul_le_self->xU,one_mul->AW,le_div_iff_mul_le->DI,mul_zero->DZ,pow_pos->MM,mul_lt_mul_of_pos_right->NO,lt_of_mul_lt_mul_right->Pf
open _root_.Option.some renaming inj->dQ
open _root_.Trans renaming trans->cB
section
open Go Go.RowKit Go.Shelf
section
attribute[local go_sem] dW
theorem Jv(s:ByteArray):AY s.data.toList [45]=fT s:=by
 rw[wI];have:=Cv s;unfold Jp at this;by_cases h:s.data.toList.head? =some 45
 ·rw[ip h]at this;by_cases k:fT s=true
  ·simp[h,k]
  ·rw[iN k]at this;cases this
 ·rw[iN h]at this;by_cases k:fT s=true
  ·rw[ip k]at this;cases this
  ·simp[h,k]
theorem nR(s:ByteArray)(w:aF)(hs:s.size≤3000)(hok:DJ s.data.toList=true):
 aW aC 224 #[aA s] w fun e w'=>∃v,e=aQ (cN #[aN (fT s),v])∧tC w' w.heap.size v PB (num (mag s.data.toList))∧Below w.heap.size w w':=by
 have hdg:=nM hok
 have Ib:=mL s.data.toList
 have hcut:=zq (fun W=>zM s {data:= #[45]} W)
 have ht:bH (Lib.trimPrefix s.data.toList [45]=mag s.data.toList):=oW _
 have hp:bH (AY s.data.toList [45]=fT s):=Jv s
 obtain⟨rest,SH⟩:∃rest:ByteArray,bs (mag s.data.toList)=rest:=⟨_,rfl⟩
 have hR:rest.size≤3000:=by rw[←SH,cZ];have:s.data.toList.length=s.size:=rfl;omega
 have Hdg:bH (rest.data.toList.all eE=true):=by show _=_;rw[←SH];exact hdg
 have HN:bH (num (mag s.data.toList)=num rest.data.toList):=by show _=_;rw[←SH];rfl
 have Hrest:=zq SH
 clear hdg Ib hok SH
 generalize fT s=ng at *
 have eL:((rest.size:Int)+9-1).tdiv 9=(((rest.size+8)/9:Nat):Int):=by
  rw[show(rest.size:Int)+9-1=((rest.size+8:Nat):Int) by omega]
  exact(NN _ _).symm▸jB (by omega)
 obtain⟨L,hL⟩:=nm ((rest.size+8)/9)
 rw[hL]at eL
 have hLb:L≤400:=by omega
 have HL:=zq hL
 refine dE func224 rfl ?_
 simp only[ntmps224,bW,bF,bY,cW,cX,bR,bS,cD,bU,cL,bZ]
 go_wp2_with fail
 refine kr (hcut.out _) ?_
 rw[ht.out,hp.out,Hrest.out]
 clear hL
 go_wp2_with (at_make;refine FO rfl _ _ rfl (w.heap.size+1) _ L rfl rfl rfl (by omega) (by simp) ?_;intro w1 nC tJ)
 simp only[bB]at nC
 have mM:Below w.heap.size w w1:=((aH _ w).alloc (aG _) _).grown tJ (by simp) (fun k hk=>by cases hk)
 have b0:bT w1 w.heap.size #[aN false,aB none 0 0] 284:=(bT.new w _ _).grown tJ (by simp)
 have Ei:w.heap.size+1<w1.heap.size:=(gG nC).2.1
 clear tJ
 generalize hg1:w1.heap.size=g1 at *
 have Hg1:=zq hg1
 refine(callsIn_wide.1 (digs_in dG 9 trivial rfl _ _)).mono ?_
 rintro e w'⟨rfl,rfl⟩
 go_wp2_with fail
 obtain⟨W0,eQ⟩:=nm (((w1.alloc (aJ #[aN ng,aB (some ⟨w.heap.size+1,0,none⟩) L L] 284)).alloc (aJ #[aD aE 1] 3)).alloc (aJ #[aA rest] 9))
 have ID:Below w1.heap.size w1 W0:=by rw[←eQ];exact(((aH _ _).alloc (aG _) _).alloc (by simp) _).alloc (by simp;omega) _
 have c0:bT W0 w.heap.size #[aN false,aB none 0 0] 284:=b0.below ID b0.lt
 have c1:bT W0 g1 #[aN ng,aB (some ⟨w.heap.size+1,0,none⟩) L L] 284:=by rw[←eQ,←hg1];exact((bT.new w1 _ _).alloc _).alloc _
 have c2:bT W0 (g1+1) #[aD aE 1] 3:=by
  rw[←eQ]
  have:=(bT.new (w1.alloc (aJ #[aN ng,aB (some ⟨w.heap.size+1,0,none⟩) L L] 284)) #[aD aE 1] 3).alloc (aJ #[aA rest] 9)
  rwa[bB,hg1]at this
 have c3:bT W0 (g1+1+1) #[aA rest] 9:=by
  rw[←eQ]
  have:=bT.new ((w1.alloc (aJ #[aN ng,aB (some ⟨w.heap.size+1,0,none⟩) L L] 284)).alloc (aJ #[aD aE 1] 3)) #[aA rest] 9
  rwa[bB,bB,hg1]at this
 have ho0:=dI nC ID
 have hs0:W0.heap.size=g1+3:=by rw[←eQ,←hg1];simp
 have fA:=aR mM ID (by rw[hg1];omega)
 clear ID nC b0 mM hg1
 rw[eQ]
 clear eQ
 have PC:rest.data.toList.length=rest.size:=rfl
 refine Bn (gf:=312) (lb:= #[.pointer (some ⟨g1+1+1,0,none⟩)]) rfl (enters_of func312 (by kernel_rfl) rfl)
  (nk dG 8 trivial rfl (by decide) (g1+1+1) rest rest.size rfl (by omega) Hdg.out W0 (c3.cell 0)) cY.trans (cY.putObj (by rintro k rfl;omega)) (fun _=>rfl)
  (fun k W=>(∃(os:List Nat)(u:Nat),(os.length=L∧(∀x∈os,x<PB)∧cE PB os=IC rest.data.toList k∧(k%9≠0→u=10^(k%9)))∧W.ownsRow (w.heap.size+1) 3 1 (aB (some ⟨w.heap.size+1,0,none⟩) L L) L (os.map iv)∧
   bT W w.heap.size #[aN false,aB none 0 0] 284∧bT W g1 #[aN ng,aB (some ⟨w.heap.size+1,0,none⟩) L L] 284∧bT W (g1+1) #[iv u] 3)∧Below w.heap.size w W)
  (fun _ _ _=>False)
  (cU (Own.from (fun s A B lM hs hg hr=>by obtain⟨os,u,h1,h2,h3,h4,h5⟩:=hs;exact⟨os,u,h1,oT h2 hg hr,h3.own hg hr,h4.own hg hr,h5.own hg hr⟩) _) (oA (aG _) (by omega)))
  (fun c _ _ _ _ hs _ _=>hs)
  ⟨⟨bV L 0,1,⟨by simp,fun x hx=>by rw[sC hx];decide,by rw[Ez,ZA],fun h=>absurd rfl h⟩,ho0,c0,c1,c2⟩,fA⟩
  ?Jp ?assign ?body ?done ?stop
 case assign=>
  intro l k W K hK
  gi_wp2
  exact hK
 case body=>
  rintro l k W hk⟨⟨os,u,⟨Rs,Nh,hlv,hu⟩,hown,hb0,hb5,hb6⟩,hB⟩
  have JM:k<rest.data.toList.length:=hk
  obtain⟨d,NW⟩:=nm ((rest.data.toList.getD (rest.data.toList.length-1-k) 0).toNat-48)
  have hdx:dX rest k=d:=NW
  have h9d:d≤9:=by
   have:=ED rest Hdg.out (rest.size-1-k) (by omega)
   rw[PC,NT rest _ (by omega)]at NW
   omega
  have hkL:k/9<L:=by have:=HL.out;omega
  rw[hdx]
  clear hdx
  by_cases h9:k%9=0
  ·have k6:=hb6.ce 0
   have k7:=hb6.fz 0
   have h9':(k:Int).tmod 9=0:=by rw[jI (by omega)];omega
   gi_upto_region 9 with fail
   obtain⟨V,hV⟩:=nm (W.setCell ⟨g1+1,0,none⟩ (aD aE 1))
   rw[hV]
   obtain⟨v,yE⟩:∃v:Nat,1=v:=⟨_,rfl⟩
   have hv:v=10^(k%9):=by rw[←yE];exact nz h9
   have jC:w.heap.size+1≠g1+1:=by omega
   have gb0:bT V w.heap.size #[aN false,aB none 0 0] 284:=by rw[←hV];exact hb0.other _ (by show w.heap.size≠g1+1;omega)
   have gb5:bT V g1 #[aN ng,aB (some ⟨w.heap.size+1,0,none⟩) L L] 284:=by rw[←hV];exact hb5.other _ (by show g1≠g1+1;omega)
   have gb6:bT V (g1+1) #[iv v] 3:=by rw[←hV,←yE];exact hb6.set 0 _
   have PD:V.ownsRow (w.heap.size+1) 3 1 (aB (some ⟨w.heap.size+1,0,none⟩) L L) L (os.map iv):=by rw[←hV];exact eS hown jC _
   have gB:Below w.heap.size w V:=by rw[←hV];exact hB.setCell (p:=⟨g1+1,0,none⟩) (by show w.heap.size≤g1+1;omega) _
   have gS:cY (·=g1+1+1) W V:=by rw[←hV];intro q hq;exact nY _ _ _ _ (by subst hq;show g1+1+1≠g1+1;omega)
   have gK:gP W0.heap.size W V:=by rw[←hV];exact(cG _ _ _).from _
   have Hv1:=zq yE
   clear hV yE h9' k6 k7 jC hb0 hb5 hb6 hown hB hu
   have k5:=gb5.ce 1
   have k6:=gb6.ce 0
   have k7:=gb6.fz 0
   obtain⟨X,hX⟩:=nm (os.getD (k/9) 0)
   obtain⟨Ll,Lm⟩:=Lf rest.data.toList os k d v JM (by omega) hlv Hdg.out hv NW h9d
   rw[hX]at Ll Lm
   have k8:=nQ PD (show k/9<L by omega)
   rw[hX]at k8
   have k9:=fN PD (k/9)
   have VX:X<1000000000:=by have:=iG Nh (by decide) (k/9);rw[hX]at this;exact this
   have hv8:v≤100000000:=X9 hv
   obtain⟨m,hm⟩:=nm (d*v)
   have hm9:m≤900000000:=by rw[←hm];exact bE (tV h9d hv8) (by decide)
   have q0:((d:Int)*(v:Int))=(m:Int):=by rw[←lI,hm]
   have q1:IntKind.i64.wrap ((d:Int)*(v:Int))=(m:Int):=by rw[q0];exact aX _ (by omega)
   obtain⟨j,hj⟩:=nm (k/9)
   have q2:(k:Int).tdiv 9=(j:Int):=by rw[jB (by omega)];omega
   have q5:(k:Int)/9=(j:Int):=by omega
   have q3:(j:Int)<(L:Int):=by omega
   have q6:j<L:=by omega
   rw[hj]at hX Lm k8 k9
   have Hj:=zq hj;clear hj hkL
   rw[hm]at Ll Lm
   have hst3:X+m<1000000000:=Ll
   have q7:IntKind.i64.wrap (j:Int)=(j:Int):=aX _ (by omega)
   have q8:(0:Int)≤(j:Int):=by omega
   have q9:IntKind.i64.wrap ((X:Int)+(m:Int))=(X:Int)+(m:Int):=aX _ (by omega)
   have Vf:=zq (And.intro Ll Lm);clear Ll Lm
   have Hv:=zq hv;clear hv
   have Hm:=zq hm;clear hm
   have HX:=zq hX;clear hX
   have Hlv:=zq hlv;clear hlv
   have Hdv:=zq NW;clear NW q0
   have HF:bH (gP W0.heap.size W ((V.setCell ⟨w.heap.size+1,j,none⟩ (aD aE ((X:Int)+(m:Int)))).setCell ⟨g1+1,0,none⟩ (aD aE ((v:Int)*10)))∧
    cY (·=g1+1+1) W ((V.setCell ⟨w.heap.size+1,j,none⟩ (aD aE ((X:Int)+(m:Int)))).setCell ⟨g1+1,0,none⟩ (aD aE ((v:Int)*10)))∧
    (∃(os:List Nat)(u:Nat),(os.length=L∧(∀x∈os,x<PB)∧cE PB os=IC rest.data.toList (k+1)∧((k+1)%9≠0→u=10^((k+1)%9)))∧((V.setCell ⟨w.heap.size+1,j,none⟩ (aD aE ((X:Int)+(m:Int)))).setCell ⟨g1+1,0,none⟩ (aD aE ((v:Int)*10))).ownsRow (w.heap.size+1) 3 1 (aB (some ⟨w.heap.size+1,0,none⟩) L L) L (os.map iv)∧
     bT ((V.setCell ⟨w.heap.size+1,j,none⟩ (aD aE ((X:Int)+(m:Int)))).setCell ⟨g1+1,0,none⟩ (aD aE ((v:Int)*10))) w.heap.size #[aN false,aB none 0 0] 284∧bT ((V.setCell ⟨w.heap.size+1,j,none⟩ (aD aE ((X:Int)+(m:Int)))).setCell ⟨g1+1,0,none⟩ (aD aE ((v:Int)*10))) g1 #[aN ng,aB (some ⟨w.heap.size+1,0,none⟩) L L] 284∧bT ((V.setCell ⟨w.heap.size+1,j,none⟩ (aD aE ((X:Int)+(m:Int)))).setCell ⟨g1+1,0,none⟩ (aD aE ((v:Int)*10))) (g1+1) #[iv u] 3)∧
    Below w.heap.size w ((V.setCell ⟨w.heap.size+1,j,none⟩ (aD aE ((X:Int)+(m:Int)))).setCell ⟨g1+1,0,none⟩ (aD aE ((v:Int)*10)))):=by
    refine⟨gK.trans (((cG _ _ _).from _).trans ((cG _ _ _).from _)),gS.trans (cY.trans (cY.setCell (by rintro q rfl;show g1+1+1≠w.heap.size+1;omega) _) (cY.setCell (by rintro q rfl;show g1+1+1≠g1+1;omega) _)),⟨os.set j (X+m),v*10,⟨by rw[fP];exact Rs,Cs Nh Vf.out.1,Vf.out.2,fun h=>N7 Hv.out h⟩,?_,?_,?_,?_⟩,?_⟩
    ·exact eS (yV PD j (X+m)) (by show w.heap.size+1≠g1+1;omega) _
    ·exact(gb0.other _ (by show w.heap.size≠w.heap.size+1;omega)).other _ (by show w.heap.size≠g1+1;omega)
    ·exact(gb5.other _ (by show g1≠w.heap.size+1;omega)).other _ (by show g1≠g1+1;omega)
    ·exact(gb6.other _ (by show g1+1≠w.heap.size+1;omega)).set 0 _
    ·exact(gB.setCell (p:=⟨w.heap.size+1,j,none⟩) (by show w.heap.size≤w.heap.size+1;omega) _).setCell (p:=⟨g1+1,0,none⟩) (by show w.heap.size≤g1+1;omega) _
   gi_wp2
   refine pK (by kernel_rfl) (by kernel_rfl) ?_
   refine tI 0 rfl ?_
   refine tI 2 rfl ?_
   refine tI 3 rfl ?_
   refine tI 6 rfl ?_
   refine eI 1 [7] rfl (fun K hK=>?_) ?_
   ·go_simp
    refine hK _ _ ?_
    clear hK K
    refine tI 4 rfl ?_
    refine eI 5 [7] rfl (fun K hK=>?_) ?_
    ·go_simp
     refine hK _ _ ?_
     clear hK K
     refine eI 7 [] rfl (fun K hK=>?_) ?_
     ·go_simp
      refine hK _ _ ?_
      clear hK K
      refine tI 8 rfl ?_
      refine tI 9 rfl ?_
      refine tI 10 rfl ?_
      refine eI 11 [] rfl (fun K hK=>?_) ?_
      ·go_simp
       refine hK _ _ ?_
       clear hK K
       refine eM (by kernel_rfl) ?_ _
       gi_wp2
       exact⟨⟨HF.out.1.size,HF.out.1.same⟩,HF.out.2.1,HF.out.2.2.1,cK HF.out.2.2.2 1⟩
      exact aT
     exact aT
    refine eF rfl (fun K hK=>?_) ?_
    ·go_simp
     refine hK _ _ ?_
     clear hK K
     refine tI 8 rfl ?_
     refine eI 5 [] rfl (fun K hK=>?_) ?_
     ·go_simp
      refine hK _ _ ?_
      clear hK K
      refine tI 9 rfl ?_
      refine tI 10 rfl ?_
      refine eI 11 [] rfl (fun K hK=>?_) ?_
      ·go_simp
       refine hK _ _ ?_
       clear hK K
       refine eM (by kernel_rfl) ?_ _
       gi_wp2
       exact⟨⟨HF.out.1.size,HF.out.1.same⟩,HF.out.2.1,HF.out.2.2.1,cK HF.out.2.2.2 1⟩
      exact aT
     exact aT
    exact aT
   refine eF rfl (fun K hK=>?_) ?_
   ·go_simp
    refine hK _ _ ?_
    clear hK K
    refine tI 8 rfl ?_
    refine eI 1 [] rfl (fun K hK=>?_) ?_
    ·go_simp
     refine hK _ _ ?_
     clear hK K
     refine tI 4 rfl ?_
     refine eI 5 [] rfl (fun K hK=>?_) ?_
     ·go_simp
      refine hK _ _ ?_
      clear hK K
      refine tI 9 rfl ?_
      refine tI 10 rfl ?_
      refine eI 11 [] rfl (fun K hK=>?_) ?_
      ·go_simp
       refine hK _ _ ?_
       clear hK K
       refine eM (by kernel_rfl) ?_ _
       gi_wp2
       exact⟨⟨HF.out.1.size,HF.out.1.same⟩,HF.out.2.1,HF.out.2.2.1,cK HF.out.2.2.2 1⟩
      exact aT
     exact aT
    exact aT
   exact aT
  ·have hv:=hu h9
   have h9':((k:Int).tmod 9==0)=false:=by rw[jI (by omega)];simp;omega
   gi_upto_region 9 with fail
   obtain⟨V,hV⟩:∃V,V=W:=⟨_,rfl⟩
   obtain⟨v,yE⟩:∃v,v=u:=⟨_,rfl⟩
   have gS:cY (·=g1+1+1) W V:=by rw[hV];exact cY.refl _ _
   have gK:gP W0.heap.size W V:=by rw[hV];exact zp _ _
   rw[←hV]at hb0 hb5 hb6 hown hB⊢
   rw[←yE]at hv hb6
   have gb0:=hb0
   have gb5:=hb5
   have gb6:=hb6
   have PD:=hown
   have gB:=hB
   have Hv1:=zq yE
   clear hV yE h9' hb0 hb5 hb6 hown hB hu
   have k5:=gb5.ce 1
   have k6:=gb6.ce 0
   have k7:=gb6.fz 0
   obtain⟨X,hX⟩:=nm (os.getD (k/9) 0)
   obtain⟨Ll,Lm⟩:=Lf rest.data.toList os k d v JM (by omega) hlv Hdg.out hv NW h9d
   rw[hX]at Ll Lm
   have k8:=nQ PD (show k/9<L by omega)
   rw[hX]at k8
   have k9:=fN PD (k/9)
   have VX:X<1000000000:=by have:=iG Nh (by decide) (k/9);rw[hX]at this;exact this
   have hv8:v≤100000000:=X9 hv
   obtain⟨m,hm⟩:=nm (d*v)
   have hm9:m≤900000000:=by rw[←hm];exact bE (tV h9d hv8) (by decide)
   have q0:((d:Int)*(v:Int))=(m:Int):=by rw[←lI,hm]
   have q1:IntKind.i64.wrap ((d:Int)*(v:Int))=(m:Int):=by rw[q0];exact aX _ (by omega)
   obtain⟨j,hj⟩:=nm (k/9)
   have q2:(k:Int).tdiv 9=(j:Int):=by rw[jB (by omega)];omega
   have q5:(k:Int)/9=(j:Int):=by omega
   have q3:(j:Int)<(L:Int):=by omega
   have q6:j<L:=by omega
   rw[hj]at hX Lm k8 k9
   have Hj:=zq hj;clear hj hkL
   rw[hm]at Ll Lm
   have hst3:X+m<1000000000:=Ll
   have q7:IntKind.i64.wrap (j:Int)=(j:Int):=aX _ (by omega)
   have q8:(0:Int)≤(j:Int):=by omega
   have q9:IntKind.i64.wrap ((X:Int)+(m:Int))=(X:Int)+(m:Int):=aX _ (by omega)
   have Vf:=zq (And.intro Ll Lm);clear Ll Lm
   have Hv:=zq hv;clear hv
   have Hm:=zq hm;clear hm
   have HX:=zq hX;clear hX
   have Hlv:=zq hlv;clear hlv
   have Hdv:=zq NW;clear NW q0
   have HF:bH (gP W0.heap.size W ((V.setCell ⟨w.heap.size+1,j,none⟩ (aD aE ((X:Int)+(m:Int)))).setCell ⟨g1+1,0,none⟩ (aD aE ((v:Int)*10)))∧
    cY (·=g1+1+1) W ((V.setCell ⟨w.heap.size+1,j,none⟩ (aD aE ((X:Int)+(m:Int)))).setCell ⟨g1+1,0,none⟩ (aD aE ((v:Int)*10)))∧
    (∃(os:List Nat)(u:Nat),(os.length=L∧(∀x∈os,x<PB)∧cE PB os=IC rest.data.toList (k+1)∧((k+1)%9≠0→u=10^((k+1)%9)))∧((V.setCell ⟨w.heap.size+1,j,none⟩ (aD aE ((X:Int)+(m:Int)))).setCell ⟨g1+1,0,none⟩ (aD aE ((v:Int)*10))).ownsRow (w.heap.size+1) 3 1 (aB (some ⟨w.heap.size+1,0,none⟩) L L) L (os.map iv)∧
     bT ((V.setCell ⟨w.heap.size+1,j,none⟩ (aD aE ((X:Int)+(m:Int)))).setCell ⟨g1+1,0,none⟩ (aD aE ((v:Int)*10))) w.heap.size #[aN false,aB none 0 0] 284∧bT ((V.setCell ⟨w.heap.size+1,j,none⟩ (aD aE ((X:Int)+(m:Int)))).setCell ⟨g1+1,0,none⟩ (aD aE ((v:Int)*10))) g1 #[aN ng,aB (some ⟨w.heap.size+1,0,none⟩) L L] 284∧bT ((V.setCell ⟨w.heap.size+1,j,none⟩ (aD aE ((X:Int)+(m:Int)))).setCell ⟨g1+1,0,none⟩ (aD aE ((v:Int)*10))) (g1+1) #[iv u] 3)∧
    Below w.heap.size w ((V.setCell ⟨w.heap.size+1,j,none⟩ (aD aE ((X:Int)+(m:Int)))).setCell ⟨g1+1,0,none⟩ (aD aE ((v:Int)*10)))):=by
    refine⟨gK.trans (((cG _ _ _).from _).trans ((cG _ _ _).from _)),gS.trans (cY.trans (cY.setCell (by rintro q rfl;show g1+1+1≠w.heap.size+1;omega) _) (cY.setCell (by rintro q rfl;show g1+1+1≠g1+1;omega) _)),⟨os.set j (X+m),v*10,⟨by rw[fP];exact Rs,Cs Nh Vf.out.1,Vf.out.2,fun h=>N7 Hv.out h⟩,?_,?_,?_,?_⟩,?_⟩
    ·exact eS (yV PD j (X+m)) (by show w.heap.size+1≠g1+1;omega) _
    ·exact(gb0.other _ (by show w.heap.size≠w.heap.size+1;omega)).other _ (by show w.heap.size≠g1+1;omega)
    ·exact(gb5.other _ (by show g1≠w.heap.size+1;omega)).other _ (by show g1≠g1+1;omega)
    ·exact(gb6.other _ (by show g1+1≠w.heap.size+1;omega)).set 0 _
    ·exact(gB.setCell (p:=⟨w.heap.size+1,j,none⟩) (by show w.heap.size≤w.heap.size+1;omega) _).setCell (p:=⟨g1+1,0,none⟩) (by show w.heap.size≤g1+1;omega) _
   gi_wp2
   refine pK (by kernel_rfl) (by kernel_rfl) ?_
   refine tI 0 rfl ?_
   refine tI 2 rfl ?_
   refine tI 3 rfl ?_
   refine tI 6 rfl ?_
   refine eI 1 [7] rfl (fun K hK=>?_) ?_
   ·go_simp
    refine hK _ _ ?_
    clear hK K
    refine tI 4 rfl ?_
    refine eI 5 [7] rfl (fun K hK=>?_) ?_
    ·go_simp
     refine hK _ _ ?_
     clear hK K
     refine eI 7 [] rfl (fun K hK=>?_) ?_
     ·go_simp
      refine hK _ _ ?_
      clear hK K
      refine tI 8 rfl ?_
      refine tI 9 rfl ?_
      refine tI 10 rfl ?_
      refine eI 11 [] rfl (fun K hK=>?_) ?_
      ·go_simp
       refine hK _ _ ?_
       clear hK K
       refine eM (by kernel_rfl) ?_ _
       gi_wp2
       exact⟨⟨HF.out.1.size,HF.out.1.same⟩,HF.out.2.1,HF.out.2.2.1,cK HF.out.2.2.2 1⟩
      exact aT
     exact aT
    refine eF rfl (fun K hK=>?_) ?_
    ·go_simp
     refine hK _ _ ?_
     clear hK K
     refine tI 8 rfl ?_
     refine eI 5 [] rfl (fun K hK=>?_) ?_
     ·go_simp
      refine hK _ _ ?_
      clear hK K
      refine tI 9 rfl ?_
      refine tI 10 rfl ?_
      refine eI 11 [] rfl (fun K hK=>?_) ?_
      ·go_simp
       refine hK _ _ ?_
       clear hK K
       refine eM (by kernel_rfl) ?_ _
       gi_wp2
       exact⟨⟨HF.out.1.size,HF.out.1.same⟩,HF.out.2.1,HF.out.2.2.1,cK HF.out.2.2.2 1⟩
      exact aT
     exact aT
    exact aT
   refine eF rfl (fun K hK=>?_) ?_
   ·go_simp
    refine hK _ _ ?_
    clear hK K
    refine tI 8 rfl ?_
    refine eI 1 [] rfl (fun K hK=>?_) ?_
    ·go_simp
     refine hK _ _ ?_
     clear hK K
     refine tI 4 rfl ?_
     refine eI 5 [] rfl (fun K hK=>?_) ?_
     ·go_simp
      refine hK _ _ ?_
      clear hK K
      refine tI 9 rfl ?_
      refine tI 10 rfl ?_
      refine eI 11 [] rfl (fun K hK=>?_) ?_
      ·go_simp
       refine hK _ _ ?_
       clear hK K
       refine eM (by kernel_rfl) ?_ _
       gi_wp2
       exact⟨⟨HF.out.1.size,HF.out.1.same⟩,HF.out.2.1,HF.out.2.2.1,cK HF.out.2.2.2 1⟩
      exact aT
     exact aT
    exact aT
   exact aT
 case done=>
  rintro D W hD⟨⟨os,u,⟨Rs,Nh,hlv,-⟩,hown,hb0,hb5,hb6⟩,hB⟩hK
  have hlv':bH (cE PB os=num (mag s.data.toList)):=by show _=_;rw[HN.out,hlv];exact ny _
  have Hos:=zq Nh;clear Nh
  have Hol:=zq Rs;clear Rs hlv
  have htr:=zq (qG dB hown Hol.out Hos.out hlv'.out)
  have Ln:=zq (Rd.own hown)
  have hk5:=hb5.ce 1
  have hk5f:=hb5.fz 1
  go_wp2_with fail
  refine kr (vE (some ⟨w.heap.size+1,0,none⟩) L L os W Hol.out (aG _) (by simp only[dL];omega) Ln.out) ?_
  generalize hT:(kX os).length=T at *
  have HT:=zq hT;clear hT
  go_upto_region 12 with fail
  obtain⟨V,hV⟩:=nm (W.setCell ⟨g1,1,none⟩ (aB (some ⟨w.heap.size+1,0,none⟩) T L))
  rw[hV]
  have gb0:bT V w.heap.size #[aN false,aB none 0 0] 284:=by rw[←hV];exact hb0.other _ (by show w.heap.size≠g1;omega)
  have gb5:bT V g1 #[aN ng,aB (some ⟨w.heap.size+1,0,none⟩) T L] 284:=by rw[←hV];exact hb5.set 1 _
  have PD:tC V (w.heap.size+1) (aB (some ⟨w.heap.size+1,0,none⟩) T L) PB (num (mag s.data.toList)):=by
   rw[←hV]
   obtain⟨g,n,cap,e,h⟩:=htr.out
   injection e with e1 e2 e3
   injection e1 with e1;injection e1 with e1
   subst e1 e2 e3
   exact⟨_,_,_,rfl,eS h (by show w.heap.size+1≠g1;omega) _⟩
  have gK:V.heap[D]? =some (.deferred (some [])):=by rw[←hV];exact(cG W _ _).same D _ hK rfl
  have gB:Below w.heap.size w V:=by rw[←hV];exact hB.setCell (p:=⟨g1,1,none⟩) (by show w.heap.size≤g1;omega) _
  clear hV htr Ln hk5 hk5f hb0 hb5 hb6 hB hK hown
  have f1:=gb5.ce 0;have f2:=gb5.ce 1;have f3:=gb0.ce 0;have f4:=gb0.ce 1;have f5:=gb0.fz 0;have f6:=gb0.fz 1
  go_wp2
  obtain⟨U,hU⟩:=nm ((V.setCell ⟨w.heap.size,0,none⟩ (aN ng)).setCell ⟨w.heap.size,1,none⟩ (aB (some ⟨w.heap.size+1,0,none⟩) T L))
  rw[hU]
  have uK:U.heap[D]? =some (.deferred (some [])):=by rw[←hU];exact(cG _ _ _).same D _ ((cG V _ _).same D _ gK rfl) rfl
  have ub:bT U w.heap.size #[aN ng,aB (some ⟨w.heap.size+1,0,none⟩) T L] 284:=by rw[←hU];exact(gb0.set 0 _).set 1 _
  have uB:Below w.heap.size w U:=by rw[←hU];exact(gB.setCell (p:=⟨w.heap.size,0,none⟩) (aG _) _).setCell (p:=⟨w.heap.size,1,none⟩) (aG _) _
  have uo:tC U (w.heap.size+1) (aB (some ⟨w.heap.size+1,0,none⟩) T L) PB (num (mag s.data.toList)):=by
   rw[←hU];exact(PD.set_other (a:=⟨w.heap.size,0,none⟩) (by show w.heap.size<_;omega) _).set_other (a:=⟨w.heap.size,1,none⟩) (by show w.heap.size<_;omega) _
  refine⟨by simp,.inl ⟨_,_,rfl,fH uK,?_⟩⟩
  refine⟨_,DH Tryz.results224 _ _ w.heap.size 284 _ _ _ rfl (ub.putObj _ uK rfl) yO rfl (by kernel_rfl),_,rfl,?_,?_⟩
  ·exact(uo.mono (by omega)).putObj _ uK rfl
  ·exact uB.trans (D3 (w:=w) (aG _) U D _ _ (by omega) uK rfl rfl)
 case stop=>
  intro D c k W _ _ h _
  exact h.elim
end
end
section
open Go Go.RowKit
abbrev PH(s:ByteArray)(w:aF):Prop:=
 aW aC 274 #[aA s] w (Rt (aD aE (pW s.data.toList)) w)
theorem trim_to(s r:ByteArray)(w:aF)(h:bs (mag s.data.toList)=r):
 aW aC 144 #[aA s,aA {data:= #[45]}] w fun e w'=>e=aQ (aA r)∧w=w':=by
 refine(oU s {data:= #[45]} w).mono ?_;rintro e w'⟨rfl,rfl⟩;refine⟨?_,rfl⟩;rw[←h,←oW]
theorem IE(s:ByteArray)(w:aF)(hs:s.size≤dL):PH s w:=by
 unfold PH;have hB:=aH w.heap.size w;obtain⟨r,hr⟩:∃r:ByteArray,bs (mag s.data.toList)=r:=⟨_,rfl⟩;have PC:r.data.toList=mag s.data.toList:=by rw[←hr];rfl
 have ht:=zq (fun W=>trim_to s r W hr);have Yg:r.size≤dL:=by
  have h1:r.size=(mag s.data.toList).length:=by rw[←hr,cZ]
  rw[mL]at h1;have:s.data.toList.length=s.size:=rfl;omega
 clear hr;by_cases h0:r.size=0
 ·have hc:=zq (ZC (l:=s.data.toList) (by rw[←PC];exact fW h0));have he:(r.toList==[])=true:=by rw[cJ,fW (show r.data.toList.length=0 from h0)];rfl
  clear PC h0;go_enter pZ,oG;go_wp2_with fail
  refine kr (ht.out w) ?_;go_wp2;go_ret;exact⟨pI hc.out.symm,hB⟩
 ·have hpos:0<r.size:=by omega
  have he:(r.toList==[])=false:=by
   rw[cJ];exact beq_false_of_ne fun e=>h0 (by show r.data.toList.length=0;rw[e];rfl)
  have hh:(mag s.data.toList).head? =some r[0]:=by
   rw[←PC,List.head?_eq_getElem?,eO (show 0<r.data.toList.length from hpos)];rfl
  have VY:mag s.data.toList≠[]:=by intro e;rw[e]at hh;cases hh
  have Lr:=zq (fun W=>nh r {data:= #[48,49,50,51,52,53,54,55,56,57]} W (by unfold dL at Yg;omega) rfl);by_cases h48:r[0].toNat=48
  ·have e48:((r[0].toNat:Int)==48)=true:=by simp[h48]
   by_cases hs48:s.data.toList=[48]
   ·have es:(s.toList==[48])=true:=by rw[cJ,hs48];rfl
    have zO:(mag s.data.toList).head?≠some 48∨s.data.toList=[48]:=.inr hs48;by_cases hall:(mag s.data.toList).all eE=true
    ·have It:((bs (kO r.data.toList FZ)).toList==[])=true:=by
      rw[cJ,show(bs (kO r.data.toList FZ)).data.toList=kO r.data.toList sM from rfl,(Dp _).2 (by rw[PC];exact hall)];rfl
     have hc:=zq (Sw VY zO hall);have Ib:bH ((mag s.data.toList).length=r.size):=by show _=_;rw[←PC];rfl
     generalize bs (kO r.data.toList FZ)=T at *;unfold dL at Yg;clear PC VY hh hall zO;by_cases hlong:300<r.size
     ·clear h48 hs48;go_enter pZ,oG;go_wp2_with fail
      refine kr (ht.out w) ?_;go_wp2_with fail
      refine ka (Lr.out w) fun w' hb1=>?_;go_wp2;go_ret;exact⟨pI (by rw[hc.out,Ib.out,ip hlong]),hb1⟩
     ·clear h48 hs48;go_enter pZ,oG;go_wp2_with fail
      refine kr (ht.out w) ?_;go_wp2_with fail
      refine ka (Lr.out w) fun w' hb1=>?_;go_wp2;go_ret;exact⟨pI (by rw[hc.out,Ib.out,iN hlong]),hb1⟩
    ·have It:((bs (kO r.data.toList FZ)).toList==[])=false:=by
      rw[cJ,show(bs (kO r.data.toList FZ)).data.toList=kO r.data.toList sM from rfl];exact beq_false_of_ne fun e=>hall (by rw[←PC];exact(Dp _).1 e)
     have hc:=zq (Yb (l:=s.data.toList) (by simpa using hall));generalize bs (kO r.data.toList FZ)=T at *;clear PC VY hh hall zO;clear h48 hs48;go_enter pZ,oG;go_wp2_with fail
     refine kr (ht.out w) ?_;go_wp2_with fail
     refine ka (Lr.out w) fun w' hb1=>?_;go_wp2;go_ret;exact⟨pI hc.out.symm,hb1⟩
   ·have es:(s.toList==[48])=false:=by rw[cJ];exact beq_false_of_ne hs48
    have hc:=zq (od (l:=s.data.toList) (by rw[hh];exact congrArg some (UInt8.toNat_inj.1 h48)) hs48);clear PC VY hh h48 hs48 Lr;go_enter pZ,oG;go_wp2_with fail
    refine kr (ht.out w) ?_;go_wp2;go_ret;exact⟨pI hc.out.symm,hB⟩
  ·have e48:((r[0].toNat:Int)==48)=false:=by simp;omega
   have zO:(mag s.data.toList).head?≠some 48∨s.data.toList=[48]:=.inl (by rw[hh];intro e;exact h48 (by rw[dQ e];rfl));by_cases hall:(mag s.data.toList).all eE=true
   ·have It:((bs (kO r.data.toList FZ)).toList==[])=true:=by
     rw[cJ,show(bs (kO r.data.toList FZ)).data.toList=kO r.data.toList sM from rfl,(Dp _).2 (by rw[PC];exact hall)];rfl
    have hc:=zq (Sw VY zO hall);have Ib:bH ((mag s.data.toList).length=r.size):=by show _=_;rw[←PC];rfl
    generalize bs (kO r.data.toList FZ)=T at *;unfold dL at Yg;clear PC VY hh hall zO;by_cases hlong:300<r.size
    ·clear h48;go_enter pZ,oG;go_wp2_with fail
     refine kr (ht.out w) ?_;go_wp2_with fail
     refine ka (Lr.out w) fun w' hb1=>?_;go_wp2;go_ret;exact⟨pI (by rw[hc.out,Ib.out,ip hlong]),hb1⟩
    ·clear h48;go_enter pZ,oG;go_wp2_with fail
     refine kr (ht.out w) ?_;go_wp2_with fail
     refine ka (Lr.out w) fun w' hb1=>?_;go_wp2;go_ret;exact⟨pI (by rw[hc.out,Ib.out,iN hlong]),hb1⟩
   ·have It:((bs (kO r.data.toList FZ)).toList==[])=false:=by
     rw[cJ,show(bs (kO r.data.toList FZ)).data.toList=kO r.data.toList sM from rfl];exact beq_false_of_ne fun e=>hall (by rw[←PC];exact(Dp _).1 e)
    have hc:=zq (Yb (l:=s.data.toList) (by simpa using hall));generalize bs (kO r.data.toList FZ)=T at *;clear PC VY hh hall zO;clear h48;go_enter pZ,oG;go_wp2_with fail
    refine kr (ht.out w) ?_;go_wp2_with fail
    refine ka (Lr.out w) fun w' hb1=>?_;go_wp2;go_ret;exact⟨pI hc.out.symm,hb1⟩
theorem sO(s t:ByteArray)(w:aF)(hs:s.size≤dL)(ht:t.size≤dL):
 aW aC 222 #[aA s,aA t] w (Rt (aD aE (fX s.data.toList t.data.toList)) w):=by
 by_cases h:pW s.data.toList=0
 ·have hb:bH (fX s.data.toList t.data.toList=pW t.data.toList):=by show _=_;rw[fX,ip h]
  go_enter func222,ntmps222;go_wp2_with fail
  refine ka (IE s w hs) fun w1 hb1=>?_;rw[h];clear h;go_wp2_with fail
  refine ka (IE t w1 ht) fun w2 hb2=>?_;have hB:=aR hb1 hb2 hb1.size;go_wp2;go_ret;exact⟨pI hb.out.symm,hB⟩
 ·have hb:bH (fX s.data.toList t.data.toList=pW s.data.toList):=by show _=_;rw[fX,iN h]
  have h':(pW s.data.toList !=0)=true:=by simp[h]
  have hc:=zq (IE s w hs);unfold PH at hc;have Ch:bH (pW s.data.toList=fX s.data.toList t.data.toList):=hb.out.symm;generalize pW s.data.toList=c at *;clear h;go_enter func222,ntmps222;go_wp2_with fail
  refine ka hc.out fun w1 hb1=>?_;go_wp2;go_ret;exact⟨pI Ch.out,hb1⟩
theorem wR(s t:ByteArray)(w:aF)(h1:DJ s.data.toList=true)(h2:DJ t.data.toList=true)(hs:s.size≤18)(ht:t.size≤18):
 aW aC 223 #[aA s,aA t,aD aE 18] w (Rt (cC #[aD aE (fQ s.data.toList),aD aE (fQ t.data.toList),aN true]) w):=by
 have c1:=zq (fun W=>Sa s _ W hs (Sy h1));have c2:=zq (fun W=>Sa t _ W ht (Sy h2));clear h1 h2;go_enter UL,QO;go_wp2_with fail
 refine ka (c1.out w) fun w1 hb1=>?_;go_wp2_with fail
 refine ka (c2.out w1) fun w2 hb2=>?_;have hB:=aR hb1 hb2 hb1.size;go_wp2;go_region;go_wp2;go_ret3;exact⟨rfl,cK hB 1⟩
theorem oX(s t:ByteArray)(w:aF)(hs:s.size≤dL)(ht:t.size≤dL)(h:18<s.size∨18<t.size):
 aW aC 223 #[aA s,aA t,aD aE 18] w (Rt (cC #[aD aE 0,aD aE 0,aN false]) w):=by
 have hB:=aH w.heap.size w;unfold dL at hs ht;by_cases h1:18<s.size
 ·clear h;go_enter UL,QO;go_wp2;go_ret3;exact⟨rfl,hB⟩
 ·have h2:18<t.size:=by omega
  clear h;go_enter UL,QO;go_wp2;go_ret3;exact⟨rfl,hB⟩
theorem VZ(a1 a2:Option cT)(c1 c2 n1 n2:Nat)(xs ys:List Nat)(w:aF)(yB:xs.length=n1)(Ab:ys.length=n2)(hx:n1≤1000)(hy:n2≤1000)(h1:Rd w a1 xs)(h2:Rd w a2 ys)
 (Na:∀x∈xs,x<PB)(Ob:∀y∈ys,y<PB):
 aW aC 280 #[aB a1 n1 c1,aB a2 n2 c2] w fun e w'=>∃v,e=aQ v∧tC w' w.heap.size v PB (cE PB xs*cE PB ys)∧Below w.heap.size w w':=by
 have yX:=zq yB;clear yB;have EI:=zq Ab;clear Ab;have Vd:=zq Na;clear Na;have Hyl:=zq Ob;clear Ob;have H1:=zq h1;clear h1;have H2:=zq h2;clear h2;go_enter func280,ntmps280;go_wp2_with (at_make;refine FO rfl _ _ rfl w.heap.size _ (n1+n2+1) rfl rfl (by omega) (by omega) (aG _) ?_;intro w1 nC tJ)
 have mM:Below w.heap.size w w1:=(aH _ _).grown tJ (aG _) (by simp);generalize hg0:w.heap.size=g at *;have Hg0:=zq hg0;clear hg0;clear tJ;have HOwn:bH (∃os:List Nat,w1.ownsRow g 3 1 (aB (some ⟨g,0,none⟩) (n1+n2+1) (n1+n2+1)) (n1+n2+1) (os.map iv)∧(∀x∈os,x<PB)∧cE PB os=cE PB (xs.take 0)*cE PB ys):=
  ⟨_,nC,by intro x hx;rw[sC hx];decide,by rw[Ez];simp[cE]⟩
 clear nC;go_loopw[20] (fun i wr=>∃k:Nat,i=aD aE k∧k≤n1∧Below g w wr∧bH (∃os:List Nat,wr.ownsRow g 3 1 (aB (some ⟨g,0,none⟩) (n1+n2+1) (n1+n2+1)) (n1+n2+1) (os.map iv)∧(∀x∈os,x<PB)∧cE PB os=cE PB (xs.take k)*cE PB ys))
  (fun i _=>2000-(aK i).toNat)
 case atStart=>exact⟨0,rfl,Nat.zero_le _,mM,HOwn⟩
 clear mM HOwn;case round=>
  obtain⟨i,rfl,hi,hB,hO⟩:=hrel;obtain⟨wo,rfl⟩:∃wo:aF,wo=wr:=⟨_,rfl⟩;by_cases hlt:i<n1
  ·obtain⟨b0,f0,rfl,hc0⟩:=(H1.out.below (Hg0.out.symm▸hB)) i (by rw[yX.out];omega);have hX:xs.getD i 0≤999999999:=by have:=iG Vd.out (by decide) i;unfold PB at this;omega
   generalize jh:xs.getD i 0=X at *;have nl:=zq jh;clear jh;have IF:bH (∃os:List Nat,wo.ownsRow g 3 1 (aB (some ⟨g,0,none⟩) (n1+n2+1) (n1+n2+1)) (n1+n2+1) (os.map iv)∧(∀x∈os,x<PB)∧cE PB os+0*PB^(i+0)=cE PB (xs.take i)*cE PB ys+xs.getD i 0*cE PB (ys.take 0)*PB^i):=by
    obtain⟨os,o1,o2,o3⟩:=hO.out;exact⟨os,o1,o2,by rw[o3];simp[cE]⟩
   clear hO;go_wp2;go_loopw[8,28] (fun c i' wr=>∃(k cc:Nat),i'=aD aE k∧c=aD aE cc∧cc≤999999999∧k≤n2+1∧(k=n2+1→cc=0)∧Below g w wr∧
    bH (∃os:List Nat,wr.ownsRow g 3 1 (aB (some ⟨g,0,none⟩) (n1+n2+1) (n1+n2+1)) (n1+n2+1) (os.map iv)∧(∀x∈os,x<PB)∧cE PB os+cc*PB^(i+k)=cE PB (xs.take i)*cE PB ys+xs.getD i 0*cE PB (ys.take k)*PB^i))
    (fun _ i' _=>2000-(aK i').toNat)
   case atStart=>exact⟨0,0,rfl,rfl,by omega,by omega,fun _=>rfl,hB,IF⟩
   clear IF;case round=>
    obtain⟨k,cc,rfl,rfl,hcc,hk,hk0,hBi,hO⟩:=hrel;have Hk0:=zq hk0;clear hk0;by_cases hgo:k<n2+1
    ·have Yh:k≤n2:=by omega
     have ZS:(k:Int)<(n2:Int)+1:=by omega
     obtain⟨os,o1,o2,o3⟩:=hO.out;clear hO;have hO0:os.getD (i+k) 0≤999999999:=by have:=iG o2 (by decide) (i+k);unfold PB at this;omega
     have hY:ys.getD k 0≤999999999:=by have:=iG Hyl.out (by decide) k;unfold PB at this;omega
     have hco:=nQ o1 (show i+k<n1+n2+1 by omega);have CH:=fun nq=>xF a2 c2 n2 k ys (wr.drewN nq) EI.out ((H2.out.below (Hg0.out.symm▸hBi)).below (cK (aH _ _) nq)) (by omega);simp only[iF]at CH;have SI:=zq CH;clear CH;have hgb:g≤g:=aG g;have hfz:=fN o1 (i+k);generalize SJ:os.getD (i+k) 0=O at *;have ZU:=zq SJ;clear SJ;generalize NX:ys.getD k 0=Y at *;have XY:=zq NX;clear NX;have hp:=Pq X Y (tV hX hY);obtain⟨hp1,jk⟩:=hp;have ZV:=zq o1;clear o1;have Ho2:=zq o2;clear o2;have Ho3:=zq o3;clear o3;have e1:IntKind.i64.wrap ((i:Int)+k)=(i:Int)+k:=by(first |exact aX _ (by omega))
     have e2:(0:Int)≤(i:Int)+k:=by omega
     have e3:((i:Int)+k).toNat=i+k:=by omega
     have e4:IntKind.i64.wrap ((X:Int)*Y)=(X:Int)*Y:=by(first |exact aX _ (by omega))
     have e5:IntKind.i64.wrap ((O:Int)+(X:Int)*Y)=(O:Int)+(X:Int)*Y:=by(first |exact aX _ (by omega))
     have e6:IntKind.i64.wrap ((O:Int)+(X:Int)*Y+cc)=(O:Int)+(X:Int)*Y+cc:=by(first |exact aX _ (by omega))
     go_wp2;go_quiet ((go_at_call 286;exact Eu ((SI.out _).mono fun e w'⟨h1,h2⟩=>⟨h1,h2.symm⟩)))
     clear e1 e2 e3 e4 e5 e6;have oo:(0:Int)≤(O:Int)+(X:Int)*Y+cc:=by omega
     have pd:(O:Int)+(X:Int)*Y+cc≤999999999999999999:=by omega
     generalize hS:(O:Int)+(X:Int)*Y+cc=S at *;have hSn:S=((O+X*Y+cc:Nat):Int):=by rw[←hS];simp
     have HS:=zq hSn;clear hSn hS;have f1':IntKind.i64.wrap ((i:Int)+k)=(i:Int)+k:=by(first |exact aX _ (by omega))
     clear hp1 jk;go_wp2;go_roundw;case rel=>
      have ev:aD aE (S%1000000000)=iv ((O+X*Y+cc)%PB):=by unfold iv;rw[HS.out];unfold PB;congr 1
      have ed:(S/1000000000)=(((O+X*Y+cc)/PB:Nat):Int):=by rw[HS.out];unfold PB;omega
      have zB:=KL PB os ys i k cc X (O+X*Y+cc) _ (by rw[kP ZV.out];omega) (by rw[←nl.out];exact Ho3.out) (by rw[ZU.out,XY.out]);have hdl:(O+X*Y+cc)/PB≤999999999:=by rw[HS.out]at pd;unfold PB;omega
      refine⟨k+1,(O+X*Y+cc)/PB,by go_num,by rw[ed],hdl,by omega,?_,?_,os.set (i+k) ((O+X*Y+cc)%PB),?_,Cs Ho2.out (fU _ (by decide)),?_⟩
      ·intro hk2;exact R8 (by decide) _ xs ys i n2 (k+1) _ Vd.out Hyl.out EI.out (by rw[nl.out];exact zB) (by omega)
      ·exact(cK hBi _).setCell (p:=⟨g,i+k,none⟩) hgb _
      ·rw[ev];exact yV ZV.out (i+k) _
      ·rw[nl.out];exact zB
     case measure=>simp only[aK];omega
    ·have hge:¬(k:Int)<(n2:Int)+1:=by omega
     obtain rfl:cc=0:=Hk0.out (by omega);have oS:bH (∃os:List Nat,wr.ownsRow g 3 1 (aB (some ⟨g,0,none⟩) (n1+n2+1) (n1+n2+1)) (n1+n2+1) (os.map iv)∧(∀x∈os,x<PB)∧cE PB os=cE PB (xs.take (i+1))*cE PB ys):=by
      obtain⟨os,o1,o2,o3⟩:=hO.out;exact⟨os,o1,o2,VI PB os xs ys i n2 k EI.out (by omega) o3⟩
     clear hO;go_wp2;go_roundw;case rel=>exact⟨i+1,by go_num,by omega,hBi,oS⟩
     case measure=>simp only[aK];omega
  ·obtain rfl:n1=i:=by omega
   obtain⟨os,o1,o2,o3⟩:=hO.out;clear hO;rw[jL PB xs _ (by rw[yX.out];omega)]at o3;have SK:=kP o1;have Ln:=Rd.own o1;have Gn:=zq (qG dB o1 SK o2 o3);have Hln:=zq SK;clear SK;clear o1 o2 o3;go_wp2_with fail
   refine(vE (some ⟨g,0,none⟩) (n1+n2+1) (n1+n2+1) os wo Hln.out (aG _) (by simp only[dL];omega) Ln).mono ?_;rintro e w'⟨rfl,rfl⟩;clear Ln;go_wp2;go_ret;rw[Hg0.out];exact⟨_,rfl,Gn.out,hB⟩
theorem IG(v1 v2:aS)(M N:Nat)(w:aF)(h1:tY w v1 PB M)(h2:tY w v2 PB N)(hM:(cQ PB M).length≤1000)(hN:(cQ PB N).length≤1000):
 aW aC 280 #[v1,v2] w fun e w'=>∃v,e=aQ v∧tC w' w.heap.size v PB (M*N)∧Below w.heap.size w w':=by
 obtain⟨a1,n1,c1,rfl,q1,_,_,_,q5⟩:=h1;obtain⟨a2,n2,c2,rfl,p1,_,_,_,p5⟩:=h2;have:=VZ a1 a2 c1 c2 n1 n2 _ _ w q1 p1 (by omega) (by omega) q5 p5 (kH dB M) (kH dB N);rwa[fS dB,fS dB]at this
theorem ph(X Y c:Nat)(w:aF)(hX:X≤999999999)(hY:Y≤999999999)(hc:c≤1):
 aW aC 228 #[iv X,iv Y,iv c] w fun e w'=>e=aQ (cC #[iv ((X+Y+c)%PB),iv ((X+Y+c)/PB)])∧w=w':=by
 have h0:(0:Int)≤(X:Int)+Y+c:=by omega
 go_enter func228,ntmps228;go_wp2;go_ret2;refine⟨?_,rfl⟩;have e1:((X:Int)+Y+c)%1000000000=(((X+Y+c)%PB:Nat):Int):=by unfold PB;omega
 have e2:((X:Int)+Y+c)/1000000000=(((X+Y+c)/PB:Nat):Int):=by unfold PB;omega
 show aQ (cC #[aD aE (((X:Int)+Y+c)%1000000000),aD aE (((X:Int)+Y+c)/1000000000)])=_;rw[e1,e2]
theorem ZW(X Y c:Nat)(w:aF)(hX:X≤999999999)(hY:Y≤999999999)(hc:c≤1):
 aW aC 229 #[iv X,iv Y,iv c] w fun e w'=>e=aQ (cC #[iv (if Y+c≤X then X-Y-c else X+PB-Y-c),iv (if Y+c≤X then 0 else 1)])∧w=w':=by
 by_cases h:Y+c≤X
 ·rw[ip h,ip h];have h0:(0:Int)≤(X:Int)-Y-c:=by omega
  go_enter func229,ntmps229;go_wp2;go_ret2;refine⟨?_,rfl⟩;have e1:(X:Int)-Y-c=((X-Y-c:Nat):Int):=by omega
  show aQ (cC #[aD aE ((X:Int)-Y-c),aD aE 0])=_;rw[e1];rfl
 ·rw[iN h,iN h];have h0:¬(0:Int)≤(X:Int)-Y-c:=by omega
  go_enter func229,ntmps229;go_wp2;go_ret2;refine⟨?_,rfl⟩;have e1:(X:Int)-Y-c+1000000000=((X+PB-Y-c:Nat):Int):=by unfold PB;omega
  show aQ (cC #[aD aE ((X:Int)-Y-c+1000000000),aD aE 1])=_;rw[e1];rfl
theorem Gp(a1 a2:Option cT)(c1 c2 n1 n2 m:Nat)(xs ys:List Nat)(w:aF)(yB:xs.length=n1)(Ab:ys.length=n2)(hx:n1≤1000)(hy:n2≤1000)(hm:max n1 n2=m)(h1:Rd w a1 xs)(h2:Rd w a2 ys)
 (Na:∀x∈xs,x<PB)(Ob:∀y∈ys,y<PB)(Inv:List Nat→Nat→Nat→Prop)(hI0:Inv [] 0 0)
 (zB:∀os k c X Y,k≤m→c≤1→Inv os k c→xs.getD k 0=X→ys.getD k 0=Y→X≤999999999→Y≤999999999→Inv (os++[(X+Y+c)%PB]) (k+1) ((X+Y+c)/PB)∧(X+Y+c)/PB≤1):
 aW aC 227 #[aB a1 n1 c1,aB a2 n2 c2,.func (.func 228) #[] #[]] w fun e w'=>∃(g cap c:Nat)(os:List Nat),e=aQ (aB (some ⟨g,0,none⟩) (kX os).length cap)∧
  w'.ownsRow w.heap.size 3 1 (aB (some ⟨g,0,none⟩) (m+1) cap) (m+1) (os.map iv)∧Inv os (m+1) c∧Below w.heap.size w w':=by
 have yX:=zq yB;clear yB;have EI:=zq Ab;clear Ab;have Vd:=zq Na;clear Na;have Hyl:=zq Ob;clear Ob;have H1:=zq h1;clear h1;have H2:=zq h2;clear h2;have HI0:=zq hI0;clear hI0;have Vf:=zq zB;clear zB;have hmb:m≤1000:=by omega
 have hmi:max (n1:Int) (n2:Int)=(m:Int):=by omega
 clear hm;go_enter func227,ntmps227;go_wp2;go_loopw[7,8,18] (fun v c i wr=>∃(k cc:Nat)(os:List Nat),i=aD aE k∧c=aD aE cc∧cc≤1∧k≤m+1∧
  wr.ownsRow w.heap.size 3 1 v k (os.map iv)∧Below w.heap.size w wr∧bH (Inv os k cc))
  (fun _ _ i _=>2000-(aK i).toNat)
 case atStart=>
  refine⟨0,0,[],rfl,rfl,by omega,by omega,Ba _ _ _ _,aH _ _,HI0.out⟩
 case round=>
  obtain⟨k,cc,os,rfl,rfl,hcc,hk,hown,hB,hH⟩:=hrel;by_cases hgo:k<m+1
  ·have ZS:(k:Int)<(m:Int)+1:=by omega
   go_wp2_with fail
   refine(xF a1 c1 n1 k xs wr yX.out (H1.out.below hB) (by omega)).mono ?_;rintro e w'⟨rfl,rfl⟩;rw[iF];have hX:xs.getD k 0≤999999999:=by have:=iG Vd.out (by decide) k;unfold PB at this;omega
   generalize jh:xs.getD k 0=X at *;have nl:=zq jh;clear jh;go_wp2_with fail
   refine(xF a2 c2 n2 k ys wr EI.out (H2.out.below hB) (by omega)).mono ?_;rintro e w'⟨rfl,rfl⟩;rw[iF];have hY:ys.getD k 0≤999999999:=by have:=iG Hyl.out (by decide) k;unfold PB at this;omega
   generalize NX:ys.getD k 0=Y at *;have XY:=zq NX;clear NX;go_wp2_with fail
   refine(ph X Y cc wr hX hY hcc).mono ?_;rintro e w'⟨rfl,rfl⟩;obtain⟨hi,hc'⟩:=Vf.out os k cc X Y (by omega) hcc hH.out nl.out XY.out hX hY;have Hi:=zq hi;clear hi;generalize(X+Y+cc)%PB=Dg at *;generalize(X+Y+cc)/PB=Cg at *;have Ru:=hB.size;go_wp2_with (at_builtin;refine Pn rfl _ _ rfl w.heap.size _ _ _ rfl hown _ rfl rfl (by omega) Ru ?_;intro g1 Ni w1 nC hg1 tJ)
   have mM:Below w.heap.size w w1:=eP hB tJ hown (aG _) Ru;clear hown tJ hg1 hB;go_wp2;go_roundw;case rel=>
    refine⟨k+1,Cg,os++[Dg],by go_num,rfl,hc',by omega,?_,mM,Hi.out⟩;rw[tW,it];exact nC
   case measure=>simp only[aK];omega
  ·obtain rfl:k=m+1:=by omega
   have ZS:¬((m+1:Nat):Int)<(m:Int)+1:=by omega
   obtain⟨g,cap,rfl⟩:=Dl hown;have hc1:=gG hown;have hQ:bH (os.length=m+1):=by show _=_;have:=hown.1;simpa using this
   have Ln:=zq (Rd.own hown);have qO:=zq hown;clear hown;go_wp2_with fail
   refine(vE (some ⟨g,0,none⟩) cap (m+1) os wr hQ.out (by omega) hc1.2.2.2 Ln.out).mono ?_;rintro e w'⟨rfl,rfl⟩;clear Ln;go_wp2;go_ret;exact⟨g,cap,cc,os,rfl,qO.out,hH.out,hB⟩
theorem EV(a1 a2:Option cT)(c1 c2 n1 n2 m:Nat)(xs ys:List Nat)(w:aF)(yB:xs.length=n1)(Ab:ys.length=n2)(hx:n1≤1000)(hy:n2≤1000)(hm:max n1 n2=m)(h1:Rd w a1 xs)(h2:Rd w a2 ys)
 (Na:∀x∈xs,x<PB)(Ob:∀y∈ys,y<PB)(Inv:List Nat→Nat→Nat→Prop)(hI0:Inv [] 0 0)
 (zB:∀os k c X Y,k≤m→c≤1→Inv os k c→xs.getD k 0=X→ys.getD k 0=Y→X≤999999999→Y≤999999999→Inv (os++[(if Y+c≤X then X-Y-c else X+PB-Y-c)]) (k+1) ((if Y+c≤X then 0 else 1))∧(if Y+c≤X then 0 else 1)≤1):
 aW aC 227 #[aB a1 n1 c1,aB a2 n2 c2,.func (.func 229) #[] #[]] w fun e w'=>∃(g cap c:Nat)(os:List Nat),e=aQ (aB (some ⟨g,0,none⟩) (kX os).length cap)∧
  w'.ownsRow w.heap.size 3 1 (aB (some ⟨g,0,none⟩) (m+1) cap) (m+1) (os.map iv)∧Inv os (m+1) c∧Below w.heap.size w w':=by
 have yX:=zq yB;clear yB;have EI:=zq Ab;clear Ab;have Vd:=zq Na;clear Na;have Hyl:=zq Ob;clear Ob;have H1:=zq h1;clear h1;have H2:=zq h2;clear h2;have HI0:=zq hI0;clear hI0;have Vf:=zq zB;clear zB;have hmb:m≤1000:=by omega
 have hmi:max (n1:Int) (n2:Int)=(m:Int):=by omega
 clear hm;go_enter func227,ntmps227;go_wp2;go_loopw[7,8,18] (fun v c i wr=>∃(k cc:Nat)(os:List Nat),i=aD aE k∧c=aD aE cc∧cc≤1∧k≤m+1∧
  wr.ownsRow w.heap.size 3 1 v k (os.map iv)∧Below w.heap.size w wr∧bH (Inv os k cc))
  (fun _ _ i _=>2000-(aK i).toNat)
 case atStart=>
  refine⟨0,0,[],rfl,rfl,by omega,by omega,Ba _ _ _ _,aH _ _,HI0.out⟩
 case round=>
  obtain⟨k,cc,os,rfl,rfl,hcc,hk,hown,hB,hH⟩:=hrel;by_cases hgo:k<m+1
  ·have ZS:(k:Int)<(m:Int)+1:=by omega
   go_wp2_with fail
   refine(xF a1 c1 n1 k xs wr yX.out (H1.out.below hB) (by omega)).mono ?_;rintro e w'⟨rfl,rfl⟩;rw[iF];have hX:xs.getD k 0≤999999999:=by have:=iG Vd.out (by decide) k;unfold PB at this;omega
   generalize jh:xs.getD k 0=X at *;have nl:=zq jh;clear jh;go_wp2_with fail
   refine(xF a2 c2 n2 k ys wr EI.out (H2.out.below hB) (by omega)).mono ?_;rintro e w'⟨rfl,rfl⟩;rw[iF];have hY:ys.getD k 0≤999999999:=by have:=iG Hyl.out (by decide) k;unfold PB at this;omega
   generalize NX:ys.getD k 0=Y at *;have XY:=zq NX;clear NX;go_wp2_with fail
   refine(ZW X Y cc wr hX hY hcc).mono ?_;rintro e w'⟨rfl,rfl⟩;obtain⟨hi,hc'⟩:=Vf.out os k cc X Y (by omega) hcc hH.out nl.out XY.out hX hY;have Hi:=zq hi;clear hi;generalize(if Y+cc≤X then X-Y-cc else X+PB-Y-cc)=Dg at *;generalize(if Y+cc≤X then 0 else 1)=Cg at *;have Ru:=hB.size;go_wp2_with (at_builtin;refine Pn rfl _ _ rfl w.heap.size _ _ _ rfl hown _ rfl rfl (by omega) Ru ?_;intro g1 Ni w1 nC hg1 tJ)
   have mM:Below w.heap.size w w1:=eP hB tJ hown (aG _) Ru;clear hown tJ hg1 hB;go_wp2;go_roundw;case rel=>
    refine⟨k+1,Cg,os++[Dg],by go_num,rfl,hc',by omega,?_,mM,Hi.out⟩;rw[tW,it];exact nC
   case measure=>simp only[aK];omega
  ·obtain rfl:k=m+1:=by omega
   have ZS:¬((m+1:Nat):Int)<(m:Int)+1:=by omega
   obtain⟨g,cap,rfl⟩:=Dl hown;have hc1:=gG hown;have hQ:bH (os.length=m+1):=by show _=_;have:=hown.1;simpa using this
   have Ln:=zq (Rd.own hown);have qO:=zq hown;clear hown;go_wp2_with fail
   refine(vE (some ⟨g,0,none⟩) cap (m+1) os wr hQ.out (by omega) hc1.2.2.2 Ln.out).mono ?_;rintro e w'⟨rfl,rfl⟩;clear Ln;go_wp2;go_ret;exact⟨g,cap,cc,os,rfl,qO.out,hH.out,hB⟩
theorem An(v1 v2:aS)(M N:Nat)(w:aF)(h1:tY w v1 PB M)(h2:tY w v2 PB N)(hM:(cQ PB M).length≤1000)(hN:(cQ PB N).length≤1000):
 aW aC 227 #[v1,v2,.func (.func 228) #[] #[]] w fun e w'=>∃v,e=aQ v∧tC w' w.heap.size v PB (M+N)∧Below w.heap.size w w':=by
 obtain⟨a1,n1,c1,rfl,q1,_,_,_,q5⟩:=h1
 obtain⟨a2,n2,c2,rfl,p1,_,_,_,p5⟩:=h2
 have hc:=Gp a1 a2 c1 c2 n1 n2 (max n1 n2) (cQ PB M) (cQ PB N) w q1 p1 (by omega) (by omega) rfl q5 p5 (kH dB M) (kH dB N)
  (fun os k cc=>os.length=k∧(∀x∈os,x<PB)∧cE PB os+cc*PB^k=cE PB ((cQ PB M).take k)+cE PB ((cQ PB N).take k)) ⟨rfl,by simp,by simp[cE]⟩
  (fun os k c X Y hk hc hI hX hY VX hY9=>by
   obtain⟨i1,i2,i3⟩:=hI
   refine⟨⟨by simp[i1],yT i2 (fU _ (by decide)),Zp PB os _ _ k c (X+Y+c) i1 i3 (by rw[hX,hY])⟩,?_⟩
   unfold PB;omega)
 refine hc.mono ?_
 rintro e w'⟨g,cap,c,os,rfl,hown,⟨i1,i2,i3⟩,hB⟩
 rw[jL _ _ _ (by omega),jL _ _ _ (by omega),fS dB,fS dB]at i3
 have hlt1:M<PB^(max n1 n2):=bL (eG dB M) (bO (by decide) (by omega))
 have hlt2:N<PB^(max n1 n2):=bL (eG dB N) (bO (by decide) (by omega))
 have hc0:c=0:=by
  rcases fF c with h|h
  ·exact h
  ·have h3:1*PB^(max n1 n2+1)≤c*PB^(max n1 n2+1):=eV _ h
   rw[AW]at h3
   have h4:PB^(max n1 n2)*2≤PB^(max n1 n2+1):=by rw[fC];exact lQ _ dB
   omega
 rw[hc0,oC,oE]at i3
 exact⟨_,rfl,qG dB hown i1 i2 i3,hB⟩
theorem sP(v1 v2:aS)(M N:Nat)(w:aF)(h1:tY w v1 PB M)(h2:tY w v2 PB N)(hM:(cQ PB M).length≤1000)(hN:N≤M):
 aW aC 227 #[v1,v2,.func (.func 229) #[] #[]] w fun e w'=>∃v,e=aQ v∧tC w' w.heap.size v PB (M-N)∧Below w.heap.size w w':=by
 have hl:=iP dB hN
 obtain⟨a1,n1,c1,rfl,q1,_,_,_,q5⟩:=h1
 obtain⟨a2,n2,c2,rfl,p1,_,_,_,p5⟩:=h2
 have hc:=EV a1 a2 c1 c2 n1 n2 (max n1 n2) (cQ PB M) (cQ PB N) w q1 p1 (by omega) (by omega) rfl q5 p5 (kH dB M) (kH dB N)
  (fun os k cc=>os.length=k∧(∀x∈os,x<PB)∧cE PB os+cE PB ((cQ PB N).take k)=cE PB ((cQ PB M).take k)+cc*PB^k) ⟨rfl,by simp,by simp[cE]⟩
  (fun os k c X Y hk hc hI hX hY VX hY9=>by
   obtain⟨i1,i2,i3⟩:=hI
   by_cases h:Y+c≤X
   ·rw[ip h,ip h]
    exact⟨⟨by simp[i1],yT i2 (by unfold PB;omega),KK PB os _ _ k c _ 0 i1 i3 (by rw[hX,hY];omega)⟩,by omega⟩
   ·rw[iN h,iN h]
    exact⟨⟨by simp[i1],yT i2 (by unfold PB;omega),KK PB os _ _ k c _ 1 i1 i3 (by rw[hX,hY];unfold PB;omega)⟩,by omega⟩)
 refine hc.mono ?_
 rintro e w'⟨g,cap,c,os,rfl,hown,⟨i1,i2,i3⟩,hB⟩
 rw[jL _ _ _ (by omega),jL _ _ _ (by omega),fS dB,fS dB]at i3
 have hv:cE PB os=M-N:=Zq (by decide) os M N c (max n1 n2+1) i2 i1 hN i3
 exact⟨_,rfl,qG dB hown i1 i2 hv,hB⟩
end
section
open Go Go.RowKit Go.Lib
theorem pi{w W:aF}{a b c:Array aS}(h:((w.alloc (aJ a 284)).alloc (aJ b 284)).alloc (aJ c 284)=W):
 bT W w.heap.size a 284∧bT W (w.heap.size+1) b 284∧bT W (w.heap.size+1+1) c 284∧Below w.heap.size w W∧W.heap.size=w.heap.size+1+1+1:=by
 subst h;refine⟨((bT.new w _ _).alloc _).alloc _,?_,?_,(((aH _ _).alloc (aG _) _).alloc (by simp) _).alloc (by simp;omega) _,by simp⟩
 ·have:=(bT.new (w.alloc (aJ a 284)) b 284).alloc (aJ c 284);rwa[bB]at this
 ·have:=bT.new ((w.alloc (aJ a 284)).alloc (aJ b 284)) c 284;rwa[bB,bB]at this
theorem PI(b:Bool)(v1 v2:aS)(M N:Nat)(w:aF)(h1:tY w v1 PB M)(h2:tY w v2 PB N)(hM:(cQ PB M).length≤1000)(hN:(cQ PB N).length≤1000):
 aW aC 266 #[cN #[aN b,v1],cN #[aN b,v2]] w fun e w'=>∃(c:Bool)(v:aS)(K:Nat),e=aQ (cN #[aN c,v])∧gV c K=gV b M+gV b N∧tC w' w.heap.size v PB K∧Below w.heap.size w w':=by
 have H1:=zq h1;clear h1;have H2:=zq h2;clear h2;have Hc:=zq (fun(W:aF)(hW:Below w.heap.size w W)=>An v1 v2 M N W (H1.out.below hW) (H2.out.below hW) hM hN);clear hM hN;go_enter UM,QP;go_upto_region 2 with fail
 obtain⟨W,hW⟩:∃W,((w.alloc (aJ #[aN b,v1] 284)).alloc (aJ #[aN b,v2] 284)).alloc (aJ #[aN false,aB none 0 0] 284)=W:=⟨_,rfl⟩;rw[hW];obtain⟨q0,q1,q2,hB,DM⟩:=pi hW;clear hW;generalize hg:w.heap.size=g at *;have Hg:=zq hg;clear hg;have c0:W.cell? ⟨g,0,none⟩=some (aN b):=by rw[q0.cell];rfl
 have c1:W.cell? ⟨g,1,none⟩=some v1:=by rw[q0.cell];rfl
 have c2:W.cell? ⟨g+1,0,none⟩=some (aN b):=by rw[q1.cell];rfl
 have c3:W.cell? ⟨g+1,1,none⟩=some v2:=by rw[q1.cell];rfl
 have c4:W.cell? ⟨g+1+1,0,none⟩=some (aN false):=by rw[q2.cell];rfl
 have c5:W.cell? ⟨g+1+1,1,none⟩=some (aB none 0 0):=by rw[q2.cell];rfl
 have f4:W.frozen? ⟨g+1+1,0,none⟩=false:=q2.fz 0;have f5:W.frozen? ⟨g+1+1,1,none⟩=false:=q2.fz 1;have SN:=zq q2;clear q0 q1 q2;have n1:¬g=g+1+1:=by omega
 have n2:¬g+1+1=g:=by omega
 go_region_held3 (fun w'=>w'.cell? ⟨g,0,none⟩=some (aN b)∧w'.cell? ⟨g,1,none⟩=some v1∧w'.cell? ⟨g+1,1,none⟩=some v2) (go_keep)
  ((go_at_call 227;refine(Hc.out _ (by exact hB.drew)).mono ?_;rintro e w' ⟨v,rfl,⟨gv,nv,cv,rfl,hvo⟩,hb⟩;have:=ck hb g 0 (aN b);have:=ck hb g 1 (v1);have:=ck hb (g+1) 1 (v2);have:=ck hb (g+1+1) 0 (aN false);have:=ck hb (g+1+1) 1 (aB none 0 0);have l4:=fzk hb (p:=⟨g+1+1,0,none⟩) (by show g+1+1<W.heap.size;omega) (by simp[*]);have l5:=fzk hb (p:=⟨g+1+1,1,none⟩) (by show g+1+1<W.heap.size;omega) (by simp[*])))
 go_wp2;have PJ:w'.ownsRow W.heap.size 3 1 (aB (some ⟨gv,0,none⟩) nv cv) nv ((cQ PB (M+N)).map iv):=hvo;have hbW:Below W.heap.size W w':=(aH _ W).drew.trans hb;have hc5:=gG PJ;rw[DM]at PJ hbW hc5;have Nj:=((SN.out.below hbW (by omega)).set 0 (aN b)).set 1 (aB (some ⟨gv,0,none⟩) nv cv);refine cI (DH MK _ _ (g+1+1) 284 _ _ _ rfl Nj yO rfl (by kernel_rfl)) rfl ⟨_,_,M+N,rfl,sgn_add b M N,?_,?_⟩
 ·rw[Hg.out];exact⟨gv,nv,cv,rfl,mZ (eS (eS PJ (by show gv≠g+1+1;omega) _) (by show gv≠g+1+1;omega) _) (by omega)⟩
 ·rw[Hg.out];exact((hB.trans (hbW.mono (by omega))).setCell (p:=⟨g+1+1,0,none⟩) (by show g≤g+1+1;omega) _).setCell (p:=⟨g+1+1,1,none⟩) (by show g≤g+1+1;omega) _
theorem V0(b:Bool)(v1 v2:aS)(M N:Nat)(w:aF)(h1:tY w v1 PB M)(h2:tY w v2 PB N)(hM:(cQ PB M).length≤1000)(hN:(cQ PB N).length≤1000)(hle:N≤M):
 aW aC 266 #[cN #[aN b,v1],cN #[aN (!b),v2]] w fun e w'=>∃(c:Bool)(v:aS)(K:Nat),e=aQ (cN #[aN c,v])∧gV c K=gV b M+gV (!b) N∧tC w' w.heap.size v PB K∧Below w.heap.size w w':=by
 have H1:=zq h1;clear h1;have H2:=zq h2;clear h2;have Hc:=zq (fun(W:aF)(hW:Below w.heap.size w W)=>sP v1 v2 M N W (H1.out.below hW) (H2.out.below hW) hM hle);have pj:=zq (fun(W:aF)(hW:Below w.heap.size w W)=>vF v1 v2 M N W (H1.out.below hW) (H2.out.below hW) hM hN);clear hM hN;have Hle:=zq hle;clear hle;obtain⟨nb,IH⟩:∃nb,(!b)=nb:=⟨_,rfl⟩;have hbb:(b==nb)=false:=by rw[←IH];cases b<;>rfl
 rw[IH];have Hnb:=zq IH;clear IH;go_enter UM,QP;go_upto_region 3 with fail
 obtain⟨W,hW⟩:∃W,((w.alloc (aJ #[aN b,v1] 284)).alloc (aJ #[aN nb,v2] 284)).alloc (aJ #[aN false,aB none 0 0] 284)=W:=⟨_,rfl⟩;rw[hW];obtain⟨q0,q1,q2,hB,DM⟩:=pi hW;clear hW;have c1:W.cell? ⟨w.heap.size,1,none⟩=some v1:=by rw[q0.cell];rfl
 have c3:W.cell? ⟨w.heap.size+1,1,none⟩=some v2:=by rw[q1.cell];rfl
 go_wp2_with fail
 refine(pj.out W hB).mono ?_;rintro e W1⟨⟨v,rfl,hv⟩,hb1⟩;have hv0:(0:Int)≤v:=by have:=hv.1;have:=Hle.out;omega
 have q0:=q0.below hb1 (by omega);have q1:=q1.below hb1 (by omega);have q2:=q2.below hb1 (by omega);have hB:=aR hB hb1 hB.size;have DM:w.heap.size+1+1+1≤W1.heap.size:=by have:=hb1.size;omega
 clear c1 c3 hb1 hv;generalize hgW:W=W0 at *;clear hgW;obtain⟨W,rfl⟩:∃W,W=W1:=⟨_,rfl⟩;go_upto_region 4 with fail
 generalize hg:w.heap.size=g at *;have Hg:=zq hg;clear hg;have c0:W.cell? ⟨g,0,none⟩=some (aN b):=by rw[q0.cell];rfl
 have c1:W.cell? ⟨g,1,none⟩=some v1:=by rw[q0.cell];rfl
 have c2:W.cell? ⟨g+1,0,none⟩=some (aN nb):=by rw[q1.cell];rfl
 have c3:W.cell? ⟨g+1,1,none⟩=some v2:=by rw[q1.cell];rfl
 have c4:W.cell? ⟨g+1+1,0,none⟩=some (aN false):=by rw[q2.cell];rfl
 have c5:W.cell? ⟨g+1+1,1,none⟩=some (aB none 0 0):=by rw[q2.cell];rfl
 have f4:W.frozen? ⟨g+1+1,0,none⟩=false:=q2.fz 0;have f5:W.frozen? ⟨g+1+1,1,none⟩=false:=q2.fz 1;have SN:=zq q2;clear q0 q1 q2;have n1:¬g=g+1+1:=by omega
 have n2:¬g+1+1=g:=by omega
 go_region_held3 (fun w'=>w'.cell? ⟨g,0,none⟩=some (aN b)∧w'.cell? ⟨g,1,none⟩=some v1∧w'.cell? ⟨g+1,1,none⟩=some v2) (go_keep)
  ((go_at_call 227;refine(Hc.out _ (by exact hB.drew)).mono ?_;rintro e w' ⟨v,rfl,⟨gv,nv,cv,rfl,hvo⟩,hb⟩;have:=ck hb g 0 (aN b);have:=ck hb g 1 (v1);have:=ck hb (g+1) 1 (v2);have:=ck hb (g+1+1) 0 (aN false);have:=ck hb (g+1+1) 1 (aB none 0 0);have l4:=fzk hb (p:=⟨g+1+1,0,none⟩) (by show g+1+1<W.heap.size;omega) (by simp[*]);have l5:=fzk hb (p:=⟨g+1+1,1,none⟩) (by show g+1+1<W.heap.size;omega) (by simp[*])))
 go_wp2;have PJ:w'.ownsRow W.heap.size 3 1 (aB (some ⟨gv,0,none⟩) nv cv) nv ((cQ PB (M-N)).map iv):=hvo;have hbW:Below W.heap.size W w':=(aH _ W).drew.trans hb;have hc5:=gG PJ;have Nj:=((SN.out.below hbW (by omega)).set 0 (aN b)).set 1 (aB (some ⟨gv,0,none⟩) nv cv);refine cI (DH MK _ _ (g+1+1) 284 _ _ _ rfl Nj yO rfl (by kernel_rfl)) rfl ⟨_,_,M-N,rfl,by rw[←Hnb.out];exact XT b M N Hle.out,?_,?_⟩
 ·rw[Hg.out];exact⟨gv,nv,cv,rfl,mZ (eS (eS PJ (by show gv≠g+1+1;omega) _) (by show gv≠g+1+1;omega) _) (by omega)⟩
 ·rw[Hg.out];exact((hB.trans (hbW.mono (by omega))).setCell (p:=⟨g+1+1,0,none⟩) (by show g≤g+1+1;omega) _).setCell (p:=⟨g+1+1,1,none⟩) (by show g≤g+1+1;omega) _
theorem V5(b:Bool)(v1 v2:aS)(M N:Nat)(w:aF)(h1:tY w v1 PB M)(h2:tY w v2 PB N)(hM:(cQ PB M).length≤1000)(hN:(cQ PB N).length≤1000)(hle:M<N):
 aW aC 266 #[cN #[aN b,v1],cN #[aN (!b),v2]] w fun e w'=>∃(c:Bool)(v:aS)(K:Nat),e=aQ (cN #[aN c,v])∧gV c K=gV b M+gV (!b) N∧tC w' w.heap.size v PB K∧Below w.heap.size w w':=by
 have H1:=zq h1;clear h1;have H2:=zq h2;clear h2;have Hc:=zq (fun(W:aF)(hW:Below w.heap.size w W)=>sP v2 v1 N M W (H2.out.below hW) (H1.out.below hW) hN (fZ hle));have pj:=zq (fun(W:aF)(hW:Below w.heap.size w W)=>vF v1 v2 M N W (H1.out.below hW) (H2.out.below hW) hM hN);clear hM hN;have Hle:=zq hle;clear hle;obtain⟨nb,IH⟩:∃nb,(!b)=nb:=⟨_,rfl⟩;have hbb:(b==nb)=false:=by rw[←IH];cases b<;>rfl
 rw[IH];have Hnb:=zq IH;clear IH;go_enter UM,QP;go_upto_region 3 with fail
 obtain⟨W,hW⟩:∃W,((w.alloc (aJ #[aN b,v1] 284)).alloc (aJ #[aN nb,v2] 284)).alloc (aJ #[aN false,aB none 0 0] 284)=W:=⟨_,rfl⟩;rw[hW];obtain⟨q0,q1,q2,hB,DM⟩:=pi hW;clear hW;have c1:W.cell? ⟨w.heap.size,1,none⟩=some v1:=by rw[q0.cell];rfl
 have c3:W.cell? ⟨w.heap.size+1,1,none⟩=some v2:=by rw[q1.cell];rfl
 go_wp2_with fail
 refine(pj.out W hB).mono ?_;rintro e W1⟨⟨v,rfl,hv⟩,hb1⟩;have hv0:¬(0:Int)≤v:=by have:=hv.1;have:=Hle.out;omega
 have q0:=q0.below hb1 (by omega);have q1:=q1.below hb1 (by omega);have q2:=q2.below hb1 (by omega);have hB:=aR hB hb1 hB.size;have DM:w.heap.size+1+1+1≤W1.heap.size:=by have:=hb1.size;omega
 clear c1 c3 hb1 hv;generalize hgW:W=W0 at *;clear hgW;obtain⟨W,rfl⟩:∃W,W=W1:=⟨_,rfl⟩;go_upto_region 5 with fail
 generalize hg:w.heap.size=g at *;have Hg:=zq hg;clear hg;have c0:W.cell? ⟨g,0,none⟩=some (aN b):=by rw[q0.cell];rfl
 have c1:W.cell? ⟨g,1,none⟩=some v1:=by rw[q0.cell];rfl
 have c2:W.cell? ⟨g+1,0,none⟩=some (aN nb):=by rw[q1.cell];rfl
 have c3:W.cell? ⟨g+1,1,none⟩=some v2:=by rw[q1.cell];rfl
 have c4:W.cell? ⟨g+1+1,0,none⟩=some (aN false):=by rw[q2.cell];rfl
 have c5:W.cell? ⟨g+1+1,1,none⟩=some (aB none 0 0):=by rw[q2.cell];rfl
 have f4:W.frozen? ⟨g+1+1,0,none⟩=false:=q2.fz 0;have f5:W.frozen? ⟨g+1+1,1,none⟩=false:=q2.fz 1;have SN:=zq q2;clear q0 q1 q2;have n1:¬g=g+1+1:=by omega
 have n2:¬g+1+1=g:=by omega
 go_region_held3 (fun w'=>w'.cell? ⟨g+1,0,none⟩=some (aN nb)∧w'.cell? ⟨g+1,1,none⟩=some v2∧w'.cell? ⟨g,1,none⟩=some v1) (go_keep)
  ((go_at_call 227;refine(Hc.out _ (by exact hB.drew)).mono ?_;rintro e w' ⟨v,rfl,⟨gv,nv,cv,rfl,hvo⟩,hb⟩;have:=ck hb (g+1) 0 (aN nb);have:=ck hb (g+1) 1 (v2);have:=ck hb g 1 (v1);have:=ck hb (g+1+1) 0 (aN false);have:=ck hb (g+1+1) 1 (aB none 0 0);have l4:=fzk hb (p:=⟨g+1+1,0,none⟩) (by show g+1+1<W.heap.size;omega) (by simp[*]);have l5:=fzk hb (p:=⟨g+1+1,1,none⟩) (by show g+1+1<W.heap.size;omega) (by simp[*])))
 go_wp2;have PJ:w'.ownsRow W.heap.size 3 1 (aB (some ⟨gv,0,none⟩) nv cv) nv ((cQ PB (N-M)).map iv):=hvo;have hbW:Below W.heap.size W w':=(aH _ W).drew.trans hb;have hc5:=gG PJ;have Nj:=((SN.out.below hbW (by omega)).set 0 (aN nb)).set 1 (aB (some ⟨gv,0,none⟩) nv cv);refine cI (DH MK _ _ (g+1+1) 284 _ _ _ rfl Nj yO rfl (by kernel_rfl)) rfl ⟨_,_,N-M,rfl,by rw[←Hnb.out,XT (!b) N M (fZ Hle.out),Bool.not_not,Int.add_comm],?_,?_⟩
 ·rw[Hg.out];exact⟨gv,nv,cv,rfl,mZ (eS (eS PJ (by show gv≠g+1+1;omega) _) (by show gv≠g+1+1;omega) _) (by omega)⟩
 ·rw[Hg.out];exact((hB.trans (hbW.mono (by omega))).setCell (p:=⟨g+1+1,0,none⟩) (by show g≤g+1+1;omega) _).setCell (p:=⟨g+1+1,1,none⟩) (by show g≤g+1+1;omega) _
theorem Kq(b1 b2:Bool)(v1 v2:aS)(M N:Nat)(w:aF)(h1:tY w v1 PB M)(h2:tY w v2 PB N)(hM:(cQ PB M).length≤1000)(hN:(cQ PB N).length≤1000):
 aW aC 266 #[cN #[aN b1,v1],cN #[aN b2,v2]] w fun e w'=>∃(c:Bool)(v:aS)(K:Nat),e=aQ (cN #[aN c,v])∧gV c K=gV b1 M+gV b2 N∧tC w' w.heap.size v PB K∧Below w.heap.size w w':=by
 by_cases h:b1=b2
 ·subst h;exact PI b1 v1 v2 M N w h1 h2 hM hN
 ·obtain rfl:b2= !b1:=XW (fun e=>h e.symm);by_cases hle:N≤M
  ·exact V0 b1 v1 v2 M N w h1 h2 hM hN hle
  ·exact V5 b1 v1 v2 M N w h1 h2 hM hN (by omega)
end
section
open Go Go.RowKit Go.Shelf
section
attribute[local go_sem] dW
theorem V9(a1:Option cT)(c1 L d:Nat)(xs:List Nat)(w:aF)(yB:xs.length=L)(hx:L≤1000)(h1:Rd w a1 xs)(Na:∀x∈xs,x<PB)(hd:0<d)(hd2:d≤999999999):
 aW aC 279 #[aB a1 L c1,aD aE d] w fun e w'=>∃v u,e=aQ (cC #[v,u])∧tC w' w.heap.size v PB (cE PB xs/d)∧tC w' w.heap.size u PB (cE PB xs%d)∧Below w.heap.size w w':=by
 have yX:=zq yB;clear yB
 have Vd:=zq Na;clear Na
 have H1:=zq h1;clear h1
 refine dE func279 rfl ?_
 simp only[ntmps279,bW,bF,bY,cW,cX,bR,bS,cD,bU,cL,bZ]
 have z0:=(bT.new w #[aD aE d] 3).alloc (aJ #[aB none 0 0] 194)
 have z1:=bT.new (w.alloc (aJ #[aD aE d] 3)) #[aB none 0 0] 194
 rw[bB]at z1
 have Z0:=zq z0;have Z1:=zq z1
 clear z0 z1
 go_wp2_with (at_make;refine FO rfl _ _ rfl (w.heap.size+2) _ L rfl rfl rfl (by omega) (by simp) ?_;intro w1 nC tJ;have zz:=(Z1.out.grown tJ (by simp)).cell 0;have zf:=(Z1.out.grown tJ (by simp)).fz 0;simp only[aL,aI]at zz)
 simp only[bB]at nC
 have mM:Below w.heap.size w w1:=(((aH _ w).alloc (aG _) _).alloc (by simp) _).grown tJ (by simp;omega) (fun k hk=>by cases hk)
 have b0:bT w1 w.heap.size #[aD aE d] 3:=Z0.out.grown tJ (by simp)
 have b1:bT w1 (w.heap.size+1) #[aB none 0 0] 194:=Z1.out.grown tJ (by simp)
 have Ei:w.heap.size+1+1<w1.heap.size:=(gG nC).2.1
 clear tJ zz zf Z0 Z1
 refine(callsIn_wide.1 (FX dG 9 trivial rfl _ _ _ _)).mono ?_
 rintro e w'⟨rfl,rfl⟩
 go_wp2_with fail
 generalize hg1:w1.heap.size=g1 at *
 have Hg1:=zq hg1
 obtain⟨W0,eQ⟩:∃W0,((w1.setCell ⟨w.heap.size+1,0,none⟩ (aB (some ⟨w.heap.size+2,0,none⟩) L L)).alloc (aJ #[aD aE 0] 3)).alloc (aJ #[aB a1 L c1] 194)=W0:=⟨_,rfl⟩
 have ID:Below w.heap.size w1 W0:=by rw[←eQ];exact(((aH _ _).setCell (p:=⟨w.heap.size+1,0,none⟩) (by show w.heap.size≤w.heap.size+1;omega) _).alloc (by simp;omega) _).alloc (by simp;omega) _
 have e0:bT W0 w.heap.size #[aD aE d] 3:=by rw[←eQ];exact((b0.other _ (by show w.heap.size≠w.heap.size+1;omega)).alloc _).alloc _
 have e1:bT W0 (w.heap.size+1) #[aB (some ⟨w.heap.size+2,0,none⟩) L L] 194:=by rw[←eQ];exact((b1.set 0 _).alloc _).alloc _
 have e2:bT W0 g1 #[iv 0] 3:=by
  rw[←eQ]
  have:=(bT.new (w1.setCell ⟨w.heap.size+1,0,none⟩ (aB (some ⟨w.heap.size+2,0,none⟩) L L)) #[iv 0] 3).alloc (aJ #[aB a1 L c1] 194)
  rwa[jN,hg1]at this
 have e3:bT W0 (g1+1) #[aB a1 L c1] 194:=by
  rw[←eQ]
  have:=bT.new ((w1.setCell ⟨w.heap.size+1,0,none⟩ (aB (some ⟨w.heap.size+2,0,none⟩) L L)).alloc (aJ #[aD aE 0] 3)) #[aB a1 L c1] 194
  rwa[bB,jN,hg1]at this
 have eo:W0.ownsRow (w.heap.size+2) 3 1 (aB (some ⟨w.heap.size+2,0,none⟩) L L) L ((bV L 0).map iv):=by
  rw[←eQ];exact((eS nC (by show w.heap.size+2≠w.heap.size+1;omega) _).alloc _).alloc _
 have hs0:W0.heap.size=g1+2:=by rw[←eQ,←hg1];simp
 have fA:Below w.heap.size w W0:=mM.trans ID
 clear ID nC b0 b1 mM hg1
 rw[eQ]
 clear eQ
 have hH0:bH ((0:Nat)<d∧(∀x∈bV L 0,x<PB)∧cE PB (xs.drop (L-0))=cE PB ((bV L 0).drop (L-0))*d+0):=
  ⟨hd,fun x hx=>by rw[sC hx];decide,by rw[uS (by rw[yX.out];omega),uS (by simp)];simp[cE]⟩
 have JS:=H1.out.below fA
 refine Bn (gf:=313) (lb:= #[.pointer (some ⟨g1+1,0,none⟩)]) rfl (enters_of func313 (by kernel_rfl) rfl)
  (FV dG 8 trivial rfl (by decide) (g1+1) a1 L c1 xs yX.out (by omega) W0 (e3.cell 0) JS) cY.trans (cY.putObj (Cu JS yX.out (by omega))) (fun _=>rfl)
  (fun k W=>(∃(os:List Nat)(rr:Nat),bH (rr<d∧(∀x∈os,x<PB)∧cE PB (xs.drop (L-k))=cE PB (os.drop (L-k))*d+rr)∧W.ownsRow (w.heap.size+2) 3 1 (aB (some ⟨w.heap.size+2,0,none⟩) L L) L (os.map iv)∧
   bT W w.heap.size #[aD aE d] 3∧bT W (w.heap.size+1) #[aB (some ⟨w.heap.size+2,0,none⟩) L L] 194∧bT W g1 #[iv rr] 3)∧Below w.heap.size w W)
  (fun _ _ _=>False)
  (cU (Own.from (fun s A B lM hs hg hr=>by obtain⟨os,u,h1,h2,h3,h4,h5⟩:=hs;exact⟨os,u,h1,oT h2 hg hr,h3.own hg hr,h4.own hg hr,h5.own hg hr⟩) _) (oA (aG _) (by omega)))
  (fun c _ _ _ _ hs _ _=>hs)
  ⟨⟨bV L 0,0,hH0,eo,e0,e1,e2⟩,fA⟩
  ?Jp ?assign ?body ?done ?stop
 case assign=>
  intro l k W K hK
  gi_wp2
  exact hK
 case body=>
  rintro l k W hk⟨⟨os,rr,hH,hown,hb0,hb1,hb6⟩,hB⟩
  obtain⟨j,hj⟩:∃j,L-1-k=j:=⟨_,rfl⟩
  have VX:xs.getD j 0≤999999999:=by have:=iG Vd.out (by decide) j;unfold PB at this;omega
  obtain⟨X,hX⟩:∃X,xs.getD j 0=X:=⟨_,rfl⟩
  rw[KN yX.out hj,KO yX.out hj hX]
  rw[hX]at VX
  have hjL:j<L:=by omega
  have hrr:=hH.out.1
  obtain⟨hq1,Ic⟩:(rr*PB+X)/d<PB∧cE PB (xs.drop (L-(k+1)))=cE PB ((os.set j ((rr*PB+X)/d)).drop (L-(k+1)))*d+(rr*PB+X)%d:=by
   have h3:=hH.out.2.2
   rw[show L-k=j+1 by omega]at h3
   rw[show L-(k+1)=j by omega]
   exact⟨mw hd hrr (by unfold PB;omega),VA PB xs os j d rr _ (by rw[yX.out];omega) (by have:=kP hown;omega) h3 (by rw[hX])⟩
  have k3:=hb0.cell 0
  have k4:=hb1.cell 0
  have k6:=hb6.cell 0
  have k7:=hb6.fz 0
  have k8:=nQ hown hjL
  have k9:=fN hown j
  simp only[aL,aI]at k3 k4 k6
  generalize os.getD j 0=O at *
  gi_upto_region 7 with fail
  obtain⟨nn,hnn⟩:∃nn:Nat,(X:Int)+(rr:Int)*1000000000=(nn:Int):=⟨rr*PB+X,by unfold PB;omega⟩
  have Ab:rr*PB+X=nn:=by unfold PB;omega
  rw[hnn]
  rw[Ab]at hq1 Ic
  have IH:nn≤999999999999999999:=by omega
  obtain⟨Q,hQ⟩:∃Q,nn/d=Q:=⟨_,rfl⟩
  obtain⟨R,hR⟩:∃R,nn%d=R:=⟨_,rfl⟩
  rw[hQ]at hq1 Ic
  rw[hR]at Ic
  have hRd:R<d:=by rw[←hR];exact fU _ hd
  have r1:((nn:Int)).tdiv (d:Int)=(Q:Int):=by rw[jB (by omega),←hQ];rfl
  have r2:((nn:Int)).tmod (d:Int)=(R:Int):=by rw[jI (by omega),←hR];rfl
  have r3:((nn:Int))/(d:Int)=(Q:Int):=by rw[←hQ];rfl
  have r4:((nn:Int))%(d:Int)=(R:Int):=by rw[←hR];rfl
  have hQb:Q<1000000000:=hq1
  have r5:IntKind.i64.wrap (Q:Int)=(Q:Int):=aX _ (by omega)
  have r6:IntKind.i64.wrap (R:Int)=(R:Int):=aX _ (by omega)
  have r7:¬(d:Int)=0:=by omega
  have r7n:¬d=0:=by omega
  have r8:IntKind.i64.wrap (j:Int)=(j:Int):=aX _ (by omega)
  have r9:(0:Int)≤(j:Int):=by omega
  have r10:(j:Int)<(L:Int):=by omega
  have HF:bH (gP W0.heap.size W ((W.setCell ⟨w.heap.size+2,j,none⟩ (aD aE (Q:Int))).setCell ⟨g1,0,none⟩ (aD aE (R:Int)))∧cY (lN (g1+1) a1 L) W ((W.setCell ⟨w.heap.size+2,j,none⟩ (aD aE (Q:Int))).setCell ⟨g1,0,none⟩ (aD aE (R:Int)))∧
   (∃(os:List Nat)(rr:Nat),bH (rr<d∧(∀x∈os,x<PB)∧cE PB (xs.drop (L-(k+1)))=cE PB (os.drop (L-(k+1)))*d+rr)∧((W.setCell ⟨w.heap.size+2,j,none⟩ (aD aE (Q:Int))).setCell ⟨g1,0,none⟩ (aD aE (R:Int))).ownsRow (w.heap.size+2) 3 1 (aB (some ⟨w.heap.size+2,0,none⟩) L L) L (os.map iv)∧
    bT ((W.setCell ⟨w.heap.size+2,j,none⟩ (aD aE (Q:Int))).setCell ⟨g1,0,none⟩ (aD aE (R:Int))) w.heap.size #[aD aE d] 3∧bT ((W.setCell ⟨w.heap.size+2,j,none⟩ (aD aE (Q:Int))).setCell ⟨g1,0,none⟩ (aD aE (R:Int))) (w.heap.size+1) #[aB (some ⟨w.heap.size+2,0,none⟩) L L] 194∧bT ((W.setCell ⟨w.heap.size+2,j,none⟩ (aD aE (Q:Int))).setCell ⟨g1,0,none⟩ (aD aE (R:Int))) g1 #[iv rr] 3)∧Below w.heap.size w ((W.setCell ⟨w.heap.size+2,j,none⟩ (aD aE (Q:Int))).setCell ⟨g1,0,none⟩ (aD aE (R:Int)))):=by
   have jC:∀q,lN (g1+1) a1 L q→q≠w.heap.size+2∧q≠g1:=by
    intro q hq
    rcases hq with rfl|hq
    ·omega
    ·have:=Cu H1.out yX.out (Bs:=0) (by obtain⟨b,off,_,hc⟩:=H1.out 0 (by rw[yX.out];omega);have:=World.block_lt_of_cell? w _ hc;omega) q (.inr hq)
     omega
   refine⟨((cG _ _ _).from _).trans ((cG _ _ _).from _),cY.trans (cY.setCell (fun q hq=>(jC q hq).1) _) (cY.setCell (fun q hq=>(jC q hq).2) _),⟨os.set j Q,R,⟨hRd,Cs hH.out.2.1 hq1,Ic⟩,?_,?_,?_,?_⟩,?_⟩
   ·exact eS (yV hown j Q) (by show w.heap.size+2≠g1;omega) _
   ·exact(hb0.other _ (by show w.heap.size≠w.heap.size+2;omega)).other _ (by show w.heap.size≠g1;omega)
   ·exact(hb1.other _ (by show w.heap.size+1≠w.heap.size+2;omega)).other _ (by show w.heap.size+1≠g1;omega)
   ·exact(hb6.other _ (by show g1≠w.heap.size+2;omega)).set 0 _
   ·exact(hB.setCell (p:=⟨w.heap.size+2,j,none⟩) (by show w.heap.size≤w.heap.size+2;omega) _).setCell (p:=⟨g1,0,none⟩) (by show w.heap.size≤g1;omega) _
  have Hj:=zq hj
  clear hj hX hH hq1 Ic hnn Ab hQ hR hown hb0 hb1 hb6 hB
  refine pK (by kernel_rfl) (by kernel_rfl) ?_
  refine tI 1 rfl ?_
  refine tI 2 rfl ?_
  refine tI 5 rfl ?_
  refine eI 0 [3,6] rfl (fun K hK=>?_) ?_
  ·go_simp
   refine hK _ _ ?_
   clear hK K
   refine eI 3 [6] rfl (fun K hK=>?_) ?_
   ·go_simp
    refine hK _ _ ?_
    clear hK K
    refine tI 4 rfl ?_
    refine tI 8 rfl ?_
    refine eI 6 [9] rfl (fun K hK=>?_) ?_
    ·go_simp
     refine hK _ _ ?_
     clear hK K
     refine tI 7 rfl ?_
     refine eI 9 [] rfl (fun K hK=>?_) ?_
     ·go_simp
      refine hK _ _ ?_
      clear hK K
      refine eI 10 [] rfl (fun K hK=>?_) ?_
      ·go_simp
       refine hK _ _ ?_
       clear hK K
       refine eM (by kernel_rfl) ?_ _
       gi_wp2
       exact⟨⟨HF.out.1.size,HF.out.1.same⟩,HF.out.2.1,HF.out.2.2.1,cK HF.out.2.2.2 1⟩
      exact aT
     exact aT
    refine eF rfl (fun K hK=>?_) ?_
    ·go_simp
     refine hK _ _ ?_
     clear hK K
     refine eI 6 [] rfl (fun K hK=>?_) ?_
     ·go_simp
      refine hK _ _ ?_
      clear hK K
      refine tI 7 rfl ?_
      refine eI 10 [] rfl (fun K hK=>?_) ?_
      ·go_simp
       refine hK _ _ ?_
       clear hK K
       refine eM (by kernel_rfl) ?_ _
       gi_wp2
       exact⟨⟨HF.out.1.size,HF.out.1.same⟩,HF.out.2.1,HF.out.2.2.1,cK HF.out.2.2.2 1⟩
      exact aT
     exact aT
    exact aT
   refine eF rfl (fun K hK=>?_) ?_
   ·go_simp
    refine hK _ _ ?_
    clear hK K
    refine tI 7 rfl ?_
    refine eI 3 [] rfl (fun K hK=>?_) ?_
    ·go_simp
     refine hK _ _ ?_
     clear hK K
     refine tI 4 rfl ?_
     refine tI 8 rfl ?_
     refine eI 9 [] rfl (fun K hK=>?_) ?_
     ·go_simp
      refine hK _ _ ?_
      clear hK K
      refine eI 10 [] rfl (fun K hK=>?_) ?_
      ·go_simp
       refine hK _ _ ?_
       clear hK K
       refine eM (by kernel_rfl) ?_ _
       gi_wp2
       exact⟨⟨HF.out.1.size,HF.out.1.same⟩,HF.out.2.1,HF.out.2.2.1,cK HF.out.2.2.2 1⟩
      exact aT
     exact aT
    exact aT
   exact aT
  refine eF rfl (fun K hK=>?_) ?_
  ·go_simp
   refine hK _ _ ?_
   clear hK K
   refine tI 4 rfl ?_
   refine eI 0 [6] rfl (fun K hK=>?_) ?_
   ·go_simp
    refine hK _ _ ?_
    clear hK K
    refine tI 8 rfl ?_
    refine eI 6 [9] rfl (fun K hK=>?_) ?_
    ·go_simp
     refine hK _ _ ?_
     clear hK K
     refine tI 7 rfl ?_
     refine eI 9 [] rfl (fun K hK=>?_) ?_
     ·go_simp
      refine hK _ _ ?_
      clear hK K
      refine eI 10 [] rfl (fun K hK=>?_) ?_
      ·go_simp
       refine hK _ _ ?_
       clear hK K
       refine eM (by kernel_rfl) ?_ _
       gi_wp2
       exact⟨⟨HF.out.1.size,HF.out.1.same⟩,HF.out.2.1,HF.out.2.2.1,cK HF.out.2.2.2 1⟩
      exact aT
     exact aT
    refine eF rfl (fun K hK=>?_) ?_
    ·go_simp
     refine hK _ _ ?_
     clear hK K
     refine eI 6 [] rfl (fun K hK=>?_) ?_
     ·go_simp
      refine hK _ _ ?_
      clear hK K
      refine tI 7 rfl ?_
      refine eI 10 [] rfl (fun K hK=>?_) ?_
      ·go_simp
       refine hK _ _ ?_
       clear hK K
       refine eM (by kernel_rfl) ?_ _
       gi_wp2
       exact⟨⟨HF.out.1.size,HF.out.1.same⟩,HF.out.2.1,HF.out.2.2.1,cK HF.out.2.2.2 1⟩
      exact aT
     exact aT
    exact aT
   refine eF rfl (fun K hK=>?_) ?_
   ·go_simp
    refine hK _ _ ?_
    clear hK K
    refine tI 7 rfl ?_
    refine eI 0 [] rfl (fun K hK=>?_) ?_
    ·go_simp
     refine hK _ _ ?_
     clear hK K
     refine tI 8 rfl ?_
     refine eI 9 [] rfl (fun K hK=>?_) ?_
     ·go_simp
      refine hK _ _ ?_
      clear hK K
      refine eI 10 [] rfl (fun K hK=>?_) ?_
      ·go_simp
       refine hK _ _ ?_
       clear hK K
       refine eM (by kernel_rfl) ?_ _
       gi_wp2
       exact⟨⟨HF.out.1.size,HF.out.1.same⟩,HF.out.2.1,HF.out.2.2.1,cK HF.out.2.2.2 1⟩
      exact aT
     exact aT
    exact aT
   exact aT
  refine eF rfl (fun K hK=>?_) ?_
  ·go_simp
   refine hK _ _ ?_
   clear hK K
   refine tI 7 rfl ?_
   refine eI 0 [3] rfl (fun K hK=>?_) ?_
   ·go_simp
    refine hK _ _ ?_
    clear hK K
    refine eI 3 [] rfl (fun K hK=>?_) ?_
    ·go_simp
     refine hK _ _ ?_
     clear hK K
     refine tI 4 rfl ?_
     refine tI 8 rfl ?_
     refine eI 9 [] rfl (fun K hK=>?_) ?_
     ·go_simp
      refine hK _ _ ?_
      clear hK K
      refine eI 10 [] rfl (fun K hK=>?_) ?_
      ·go_simp
       refine hK _ _ ?_
       clear hK K
       refine eM (by kernel_rfl) ?_ _
       gi_wp2
       exact⟨⟨HF.out.1.size,HF.out.1.same⟩,HF.out.2.1,HF.out.2.2.1,cK HF.out.2.2.2 1⟩
      exact aT
     exact aT
    exact aT
   refine eF rfl (fun K hK=>?_) ?_
   ·go_simp
    refine hK _ _ ?_
    clear hK K
    refine tI 4 rfl ?_
    refine eI 0 [] rfl (fun K hK=>?_) ?_
    ·go_simp
     refine hK _ _ ?_
     clear hK K
     refine tI 8 rfl ?_
     refine eI 9 [] rfl (fun K hK=>?_) ?_
     ·go_simp
      refine hK _ _ ?_
      clear hK K
      refine eI 10 [] rfl (fun K hK=>?_) ?_
      ·go_simp
       refine hK _ _ ?_
       clear hK K
       refine eM (by kernel_rfl) ?_ _
       gi_wp2
       exact⟨⟨HF.out.1.size,HF.out.1.same⟩,HF.out.2.1,HF.out.2.2.1,cK HF.out.2.2.2 1⟩
      exact aT
     exact aT
    exact aT
   exact aT
  exact aT
 case done=>
  rintro D W hD⟨⟨os,rr,hH,hown,hb0,hb1,hb6⟩,hB⟩hK
  obtain⟨hrr,hlt,hv⟩:=hH.out
  rw[Nat.sub_self,QK,QK]at hv
  obtain⟨p1,p2⟩:=mx hrr hv
  have Rs:=kP hown
  have hs:=hB.size
  have hownA:=hown
  have t1:=qG dB hown Rs hlt p1.symm.symm
  have hnew:(W.drew.alloc (aJ #[iv rr] 3)).ownsRow w.heap.size 3 1 (aB (some ⟨W.heap.size,0,none⟩) 1 1) 1 ([rr].map iv):=by
   have:=iu W.drew (base:=w.heap.size) (e:=3) (size:=1) #[iv rr] 1 hs (by simp[dL]) rfl
   exact this
  have t2:=qG dB hnew (os:=[rr]) rfl (by simp;unfold PB;omega) (show cE PB [rr]=cE PB xs%d by simp[cE];exact p2)
  have rA:Rd W (some ⟨w.heap.size+2,0,none⟩) os:=Rd.own hown
  have rB:=Rd.own hnew
  obtain⟨T,hT⟩:∃T,(kX os).length=T:=⟨_,rfl⟩
  obtain⟨T2,jl⟩:∃T2,(kX [rr]).length=T2:=⟨_,rfl⟩
  rw[hT]at t1
  rw[jl]at t2
  have tA:bH (∀W',Below W.heap.size W W'→aW aC 277 #[aB (some ⟨w.heap.size+2,0,none⟩) L L] W' fun e w'=>e=aQ (aB (some ⟨w.heap.size+2,0,none⟩) T L)∧W'=w'):=by
   intro W' hW'
   have:=vE (some ⟨w.heap.size+2,0,none⟩) L L os W' Rs (aG _) (by simp only[dL];omega) (rA.below hW')
   rwa[hT]at this
  have tB:bH (aW aC 277 #[aB (some ⟨W.heap.size,0,none⟩) 1 1] (W.alloc (aJ #[iv rr] 3)).drew fun e w'=>e=aQ (aB (some ⟨W.heap.size,0,none⟩) T2 1)∧(W.alloc (aJ #[iv rr] 3)).drew=w'):=by
   have:=vE (some ⟨W.heap.size,0,none⟩) 1 1 [rr] (W.drew.alloc (aJ #[iv rr] 3)) rfl (aG _) (by simp[dL]) rB
   rwa[jl]at this
  have k1:=hb1.cell 0
  have k2:=hb1.fz 0
  have k6:=hb6.cell 0
  simp only[aL,aI]at k1 k6
  have l1:=hb1.lt
  have l6:=hb6.lt
  obtain⟨U,hU⟩:∃U,(W.setCell ⟨w.heap.size+1,0,none⟩ (aB (some ⟨w.heap.size+2,0,none⟩) T L)).alloc (aJ #[iv rr] 3)=U:=⟨_,rfl⟩
  have hlA:=(gG hown).2.1
  have u1:bT U (w.heap.size+1) #[aB (some ⟨w.heap.size+2,0,none⟩) T L] 194:=by rw[←hU];exact(hb1.set 0 _).alloc _
  have u2:tC U w.heap.size (aB (some ⟨w.heap.size+2,0,none⟩) T L) PB (cE PB xs/d):=by
   rw[←hU]
   obtain⟨g,n,cap,e,h⟩:=t1
   injection e with e1 e2 e3
   injection e1 with e1;injection e1 with e1
   subst e1 e2 e3
   exact⟨_,_,_,rfl,mZ ((eS h (by show w.heap.size+2≠w.heap.size+1;omega) _).alloc _) (by omega)⟩
  have u3:tC U w.heap.size (aB (some ⟨W.heap.size,0,none⟩) T2 1) PB (cE PB xs%d):=by
   rw[←hU]
   have hnew3:((W.setCell ⟨w.heap.size+1,0,none⟩ (aB (some ⟨w.heap.size+2,0,none⟩) T L)).alloc (aJ #[iv rr] 3)).ownsRow w.heap.size 3 1 (aB (some ⟨W.heap.size,0,none⟩) 1 1) 1 ([rr].map iv):=by
    have:=iu (W.setCell ⟨w.heap.size+1,0,none⟩ (aB (some ⟨w.heap.size+2,0,none⟩) T L)) (base:=w.heap.size) (e:=3) (size:=1) #[iv rr] 1 (by simpa using hs) (by simp[dL]) rfl
    rwa[jN]at this
   have t3:=qG dB hnew3 (os:=[rr]) rfl (by simp;unfold PB;omega) (show cE PB [rr]=cE PB xs%d by simp[cE];exact p2)
   rwa[jl]at t3
  have uK:U.heap[D]? =some (.deferred (some [])):=by rw[←hU];exact(KeepsOthers.alloc _ _).same D _ ((cG W _ _).same D _ hK rfl) rfl
  have uB:Below w.heap.size w U:=by rw[←hU];exact(hB.setCell (p:=⟨w.heap.size+1,0,none⟩) (by show w.heap.size≤w.heap.size+1;omega) _).alloc (by simpa using hs) _
  have HU:=zq hU
  clear hU t1 t2 rA rB hnew hownA hown hb0 hb1 hb6 hB hK hH hlt hv p1 p2 Rs hT jl
  go_wp2
  refine Cx (by kernel_rfl) ?_
  refine eI 0 [2] rfl (fun K hK=>?_) ?_
  ·go_simp
   refine hK _ _ ?_
   clear hK K
   refine eI 1 [2] rfl (fun K hK=>?_) ?_
   ·go_simp
    refine⟨trivial,callsIn_wide.2 ((tA.out _ ?_).mono ?_)⟩
    ·first |exact(aH _ W).drew|exact((aH _ W).alloc (aG _) _).drew
    rintro e w'⟨rfl,rfl⟩
    refine hK _ _ ?_
    clear hK K
    refine eI 2 [] rfl (fun K hK=>?_) ?_
    ·go_simp
     refine hK _ _ ?_
     clear hK K
     refine eI 3 [] rfl (fun K hK=>?_) ?_
     ·go_simp
      refine hK _ _ ?_
      clear hK K
      refine eI 4 [] rfl (fun K hK=>?_) ?_
      ·go_simp
       refine⟨trivial,callsIn_wide.2 (tB.out.mono ?_)⟩
       rintro e w'⟨rfl,rfl⟩
       refine hK _ _ ?_
       clear hK K
       refine eI 5 [] rfl (fun K hK=>?_) ?_
       ·go_simp
        refine hK _ _ ?_
        clear hK K
        refine eI 6 [] rfl (fun K hK=>?_) ?_
        ·go_simp
         refine hK _ _ ?_
         clear hK K
         refine eM (by kernel_rfl) ?_ _
         go_wp2
         obtain rfl:=HU.out
         refine⟨by simp,.inl ⟨_,_,rfl,fH uK,?_⟩⟩
         refine⟨_,gA rX _ _ (w.heap.size+1) _ rfl ((u1.putObj _ uK rfl).cell 0) (oO _),_,_,rfl,u2.putObj _ uK rfl,u3.putObj _ uK rfl,?_⟩
         refine lJ (show Below w.heap.size w (B0 _)from cK uB 1) ?_
         exact D3 (w:=w) (aG _) _ D _ _ (by omega) uK rfl rfl
        exact aT
       exact aT
      exact aT
     exact aT
    exact aT
   refine eF rfl (fun K hK=>?_) ?_
   ·go_simp
    refine hK _ _ ?_
    clear hK K
    refine eI 1 [3] rfl (fun K hK=>?_) ?_
    ·go_simp
     refine⟨trivial,callsIn_wide.2 ((tA.out _ ?_).mono ?_)⟩
     ·first |exact(aH _ W).drew|exact((aH _ W).alloc (aG _) _).drew
     rintro e w'⟨rfl,rfl⟩
     refine hK _ _ ?_
     clear hK K
     refine eI 3 [] rfl (fun K hK=>?_) ?_
     ·go_simp
      refine hK _ _ ?_
      clear hK K
      refine eI 4 [] rfl (fun K hK=>?_) ?_
      ·go_simp
       refine⟨trivial,callsIn_wide.2 (tB.out.mono ?_)⟩
       rintro e w'⟨rfl,rfl⟩
       refine hK _ _ ?_
       clear hK K
       refine eI 5 [] rfl (fun K hK=>?_) ?_
       ·go_simp
        refine hK _ _ ?_
        clear hK K
        refine eI 6 [] rfl (fun K hK=>?_) ?_
        ·go_simp
         refine hK _ _ ?_
         clear hK K
         refine eM (by kernel_rfl) ?_ _
         go_wp2
         obtain rfl:=HU.out
         refine⟨by simp,.inl ⟨_,_,rfl,fH uK,?_⟩⟩
         refine⟨_,gA rX _ _ (w.heap.size+1) _ rfl ((u1.putObj _ uK rfl).cell 0) (oO _),_,_,rfl,u2.putObj _ uK rfl,u3.putObj _ uK rfl,?_⟩
         refine lJ (show Below w.heap.size w (B0 _)from cK uB 1) ?_
         exact D3 (w:=w) (aG _) _ D _ _ (by omega) uK rfl rfl
        exact aT
       exact aT
      exact aT
     exact aT
    refine eF rfl (fun K hK=>?_) ?_
    ·go_simp
     refine hK _ _ ?_
     clear hK K
     refine eI 1 [] rfl (fun K hK=>?_) ?_
     ·go_simp
      refine⟨trivial,callsIn_wide.2 ((tA.out _ ?_).mono ?_)⟩
      ·first |exact(aH _ W).drew|exact((aH _ W).alloc (aG _) _).drew
      rintro e w'⟨rfl,rfl⟩
      refine hK _ _ ?_
      clear hK K
      refine eI 4 [] rfl (fun K hK=>?_) ?_
      ·go_simp
       refine⟨trivial,callsIn_wide.2 (tB.out.mono ?_)⟩
       rintro e w'⟨rfl,rfl⟩
       refine hK _ _ ?_
       clear hK K
       refine eI 5 [] rfl (fun K hK=>?_) ?_
       ·go_simp
        refine hK _ _ ?_
        clear hK K
        refine eI 6 [] rfl (fun K hK=>?_) ?_
        ·go_simp
         refine hK _ _ ?_
         clear hK K
         refine eM (by kernel_rfl) ?_ _
         go_wp2
         obtain rfl:=HU.out
         refine⟨by simp,.inl ⟨_,_,rfl,fH uK,?_⟩⟩
         refine⟨_,gA rX _ _ (w.heap.size+1) _ rfl ((u1.putObj _ uK rfl).cell 0) (oO _),_,_,rfl,u2.putObj _ uK rfl,u3.putObj _ uK rfl,?_⟩
         refine lJ (show Below w.heap.size w (B0 _)from cK uB 1) ?_
         exact D3 (w:=w) (aG _) _ D _ _ (by omega) uK rfl rfl
        exact aT
       exact aT
      exact aT
     exact aT
    exact aT
   exact aT
  refine eF rfl (fun K hK=>?_) ?_
  ·go_simp
   refine hK _ _ ?_
   clear hK K
   refine eI 0 [3] rfl (fun K hK=>?_) ?_
   ·go_simp
    refine hK _ _ ?_
    clear hK K
    refine eI 1 [3] rfl (fun K hK=>?_) ?_
    ·go_simp
     refine⟨trivial,callsIn_wide.2 ((tA.out _ ?_).mono ?_)⟩
     ·first |exact(aH _ W).drew|exact((aH _ W).alloc (aG _) _).drew
     rintro e w'⟨rfl,rfl⟩
     refine hK _ _ ?_
     clear hK K
     refine eI 3 [] rfl (fun K hK=>?_) ?_
     ·go_simp
      refine hK _ _ ?_
      clear hK K
      refine eI 4 [] rfl (fun K hK=>?_) ?_
      ·go_simp
       refine⟨trivial,callsIn_wide.2 (tB.out.mono ?_)⟩
       rintro e w'⟨rfl,rfl⟩
       refine hK _ _ ?_
       clear hK K
       refine eI 5 [] rfl (fun K hK=>?_) ?_
       ·go_simp
        refine hK _ _ ?_
        clear hK K
        refine eI 6 [] rfl (fun K hK=>?_) ?_
        ·go_simp
         refine hK _ _ ?_
         clear hK K
         refine eM (by kernel_rfl) ?_ _
         go_wp2
         obtain rfl:=HU.out
         refine⟨by simp,.inl ⟨_,_,rfl,fH uK,?_⟩⟩
         refine⟨_,gA rX _ _ (w.heap.size+1) _ rfl ((u1.putObj _ uK rfl).cell 0) (oO _),_,_,rfl,u2.putObj _ uK rfl,u3.putObj _ uK rfl,?_⟩
         refine lJ (show Below w.heap.size w (B0 _)from cK uB 1) ?_
         exact D3 (w:=w) (aG _) _ D _ _ (by omega) uK rfl rfl
        exact aT
       exact aT
      exact aT
     exact aT
    refine eF rfl (fun K hK=>?_) ?_
    ·go_simp
     refine hK _ _ ?_
     clear hK K
     refine eI 1 [] rfl (fun K hK=>?_) ?_
     ·go_simp
      refine⟨trivial,callsIn_wide.2 ((tA.out _ ?_).mono ?_)⟩
      ·first |exact(aH _ W).drew|exact((aH _ W).alloc (aG _) _).drew
      rintro e w'⟨rfl,rfl⟩
      refine hK _ _ ?_
      clear hK K
      refine eI 4 [] rfl (fun K hK=>?_) ?_
      ·go_simp
       refine⟨trivial,callsIn_wide.2 (tB.out.mono ?_)⟩
       rintro e w'⟨rfl,rfl⟩
       refine hK _ _ ?_
       clear hK K
       refine eI 5 [] rfl (fun K hK=>?_) ?_
       ·go_simp
        refine hK _ _ ?_
        clear hK K
        refine eI 6 [] rfl (fun K hK=>?_) ?_
        ·go_simp
         refine hK _ _ ?_
         clear hK K
         refine eM (by kernel_rfl) ?_ _
         go_wp2
         obtain rfl:=HU.out
         refine⟨by simp,.inl ⟨_,_,rfl,fH uK,?_⟩⟩
         refine⟨_,gA rX _ _ (w.heap.size+1) _ rfl ((u1.putObj _ uK rfl).cell 0) (oO _),_,_,rfl,u2.putObj _ uK rfl,u3.putObj _ uK rfl,?_⟩
         refine lJ (show Below w.heap.size w (B0 _)from cK uB 1) ?_
         exact D3 (w:=w) (aG _) _ D _ _ (by omega) uK rfl rfl
        exact aT
       exact aT
      exact aT
     exact aT
    exact aT
   refine eF rfl (fun K hK=>?_) ?_
   ·go_simp
    refine hK _ _ ?_
    clear hK K
    refine eI 0 [] rfl (fun K hK=>?_) ?_
    ·go_simp
     refine hK _ _ ?_
     clear hK K
     refine eI 1 [] rfl (fun K hK=>?_) ?_
     ·go_simp
      refine⟨trivial,callsIn_wide.2 ((tA.out _ ?_).mono ?_)⟩
      ·first |exact(aH _ W).drew|exact((aH _ W).alloc (aG _) _).drew
      rintro e w'⟨rfl,rfl⟩
      refine hK _ _ ?_
      clear hK K
      refine eI 4 [] rfl (fun K hK=>?_) ?_
      ·go_simp
       refine⟨trivial,callsIn_wide.2 (tB.out.mono ?_)⟩
       rintro e w'⟨rfl,rfl⟩
       refine hK _ _ ?_
       clear hK K
       refine eI 5 [] rfl (fun K hK=>?_) ?_
       ·go_simp
        refine hK _ _ ?_
        clear hK K
        refine eI 6 [] rfl (fun K hK=>?_) ?_
        ·go_simp
         refine hK _ _ ?_
         clear hK K
         refine eM (by kernel_rfl) ?_ _
         go_wp2
         obtain rfl:=HU.out
         refine⟨by simp,.inl ⟨_,_,rfl,fH uK,?_⟩⟩
         refine⟨_,gA rX _ _ (w.heap.size+1) _ rfl ((u1.putObj _ uK rfl).cell 0) (oO _),_,_,rfl,u2.putObj _ uK rfl,u3.putObj _ uK rfl,?_⟩
         refine lJ (show Below w.heap.size w (B0 _)from cK uB 1) ?_
         exact D3 (w:=w) (aG _) _ D _ _ (by omega) uK rfl rfl
        exact aT
       exact aT
      exact aT
     exact aT
    exact aT
   exact aT
  exact aT
 case stop=>
  intro D c k W _ _ h _
  exact h.elim
end
end
section
open Go Go.RowKit
theorem Oc(v1:aS)(M d:Nat)(w:aF)(h1:tY w v1 PB M)(hM:(cQ PB M).length≤1000)(hd:0<d)(hd2:d<PB):
 aW aC 279 #[v1,aD aE d] w fun e w'=>∃v u,e=aQ (cC #[v,u])∧tC w' w.heap.size v PB (M/d)∧tC w' w.heap.size u PB (M%d)∧Below w.heap.size w w':=by
 obtain⟨a1,n1,c1,rfl,q1,_,_,_,q5⟩:=h1;have:=V9 a1 c1 n1 d _ w q1 (by omega) q5 (kH dB M) hd (by unfold PB at hd2;omega);rwa[fS dB]at this
def pT(g:Nat)(w w':aF):Prop:=Below g w w'∧(∀k,k≠g→w'.heap[k]? =w.heap[k]?)∧w'.heap.size=w.heap.size
theorem pT.refl(g:Nat)(w:aF):pT g w w:=⟨aH _ _,fun _ _=>rfl,rfl⟩
theorem pT.drewN{g:Nat}{a b:aF}(h:pT g a b)(n:Nat):pT g a (b.drewN n):=⟨cK h.1 n,h.2.1,h.2.2⟩
theorem pT.set{g:Nat}{a b:aF}(h:pT g a b)(j:Nat)(v:aS):pT g a (b.setCell ⟨g,j,none⟩ v):=
 ⟨h.1.setCell (p:=⟨g,j,none⟩) (aG _) v,fun k hk=>(nY b ⟨g,j,none⟩ k v hk).trans (h.2.1 k hk),by rw[jN];exact h.2.2⟩
theorem Rd.but{g:Nat}{w w':aF}{a:Option cT}{xs:List Nat}(h:Rd w a xs)(hb:pT g w w')(jC:∀p,a=some p→p.block≠g):Rd w' a xs:=by
 intro i hi;obtain⟨b,off,rfl,hc⟩:=h i hi;exact⟨b,off,rfl,(World.cell?_of_block (hb.2.1 b (jC _ rfl))).trans hc⟩
theorem SO(g nu cap:Nat)(a2:Option cT)(c2 n2 j q base:Nat)(Fz ys:List Nat)(w:aF)(hown:w.ownsRow base 3 1 (aB (some ⟨g,0,none⟩) nu cap) nu (Fz.map iv))(Nh:∀x∈Fz,x<PB)
 (Ab:ys.length=n2)(hy:n2≤1000)(jn:nu≤3000)(h2:Rd w a2 ys)(Ob:∀y∈ys,y<PB)(hj:j+n2+1≤nu)(hq:q≤999999999)(jC:∀p,a2=some p→p.block≠g):
 aW aC 284 #[aB (some ⟨g,0,none⟩) nu cap,aB a2 n2 c2,aD aE j,aD aE q] w fun e w'=>e=aQ (aB (some ⟨g,0,none⟩) nu cap)∧pT g w w'∧
  ∃(os:List Nat)(cc:Nat),w'.ownsRow base 3 1 (aB (some ⟨g,0,none⟩) nu cap) nu (os.map iv)∧(∀x∈os,x<PB)∧(∀i,j+n2+1≤i→os.getD i 0=Fz.getD i 0)∧cE PB os+cc*PB^(j+(n2+1))=cE PB Fz+q*cE PB ys*PB^j:=by
 have EI:=zq Ab;clear Ab;have Hyl:=zq Ob;clear Ob;have H2:=zq h2;clear h2;have Hne:=zq jC;clear jC;have HO0:bH (∃os:List Nat,w.ownsRow base 3 1 (aB (some ⟨g,0,none⟩) nu cap) nu (os.map iv)∧(∀x∈os,x<PB)∧(∀i,j+n2+1≤i→os.getD i 0=Fz.getD i 0)∧cE PB os+0*PB^(j+0)=cE PB Fz+q*cE PB (ys.take 0)*PB^j):=
  ⟨Fz,hown,Nh,fun _ _=>rfl,by simp[cE]⟩
 clear hown Nh;go_enter func284,ntmps284;go_wp2;go_loopw[9,15] (fun c i' wr=>∃(k cc:Nat),i'=aD aE k∧c=aD aE cc∧cc≤999999999∧k≤n2+1∧pT g w wr∧
  bH (∃os:List Nat,wr.ownsRow base 3 1 (aB (some ⟨g,0,none⟩) nu cap) nu (os.map iv)∧(∀x∈os,x<PB)∧(∀i,j+n2+1≤i→os.getD i 0=Fz.getD i 0)∧cE PB os+cc*PB^(j+k)=cE PB Fz+q*cE PB (ys.take k)*PB^j))
  (fun _ i' _=>2000-(aK i').toNat)
 case atStart=>exact⟨0,0,rfl,rfl,by omega,by omega,pT.refl _ _,HO0⟩
 clear HO0;case round=>
  obtain⟨k,cc,rfl,rfl,hcc,hk,hB,hO⟩:=hrel;by_cases hgo:k<n2+1
  ·have Yh:k≤n2:=by omega
   have ZS:(k:Int)<(n2:Int)+1:=by omega
   obtain⟨os,o1,o2,o4,o3⟩:=hO.out;clear hO;have hO0:os.getD (j+k) 0≤999999999:=by have:=iG o2 (by decide) (j+k);unfold PB at this;omega
   have hY:ys.getD k 0≤999999999:=by have:=iG Hyl.out (by decide) k;unfold PB at this;omega
   have hco:=nQ o1 (show j+k<nu by omega);have CH:=fun nq=>xF a2 c2 n2 k ys (wr.drewN nq) EI.out (H2.out.but (hB.drewN nq) Hne.out) (by omega);simp only[iF]at CH;have SI:=zq CH;clear CH;have hfz:=fN o1 (j+k);generalize SJ:os.getD (j+k) 0=O at *;have ZU:=zq SJ;clear SJ;generalize NX:ys.getD k 0=Y at *;have XY:=zq NX;clear NX;have hp:=Pq q Y (tV hq hY);obtain⟨hp1,jk⟩:=hp;have ZV:=zq o1;clear o1;have Ho2:=zq o2;clear o2;have Ho3:=zq o3;clear o3;have Ho4:=zq o4;clear o4;have e1:IntKind.i64.wrap ((j:Int)+k)=(j:Int)+k:=by(first |exact aX _ (by omega))
   have e2:(0:Int)≤(j:Int)+k:=by omega
   have e3:((j:Int)+k).toNat=j+k:=by omega
   have e4:IntKind.i64.wrap ((q:Int)*Y)=(q:Int)*Y:=by(first |exact aX _ (by omega))
   have e5:IntKind.i64.wrap ((O:Int)+(q:Int)*Y)=(O:Int)+(q:Int)*Y:=by(first |exact aX _ (by omega))
   have e6:IntKind.i64.wrap ((O:Int)+(q:Int)*Y+cc)=(O:Int)+(q:Int)*Y+cc:=by(first |exact aX _ (by omega))
   go_wp2;go_quiet ((go_at_call 286;exact Eu ((SI.out _).mono fun e w'⟨h1,h2⟩=>⟨h1,h2.symm⟩)))
   clear e1 e2 e3 e4 e5 e6;have oo:(0:Int)≤(O:Int)+(q:Int)*Y+cc:=by omega
   have pd:(O:Int)+(q:Int)*Y+cc≤999999999999999999:=by omega
   generalize hS:(O:Int)+(q:Int)*Y+cc=S at *;have hSn:S=((O+q*Y+cc:Nat):Int):=by rw[←hS];simp
   have HS:=zq hSn;clear hSn hS;have f1':IntKind.i64.wrap ((j:Int)+k)=(j:Int)+k:=by(first |exact aX _ (by omega))
   clear hp1 jk;go_wp2;go_roundw;case rel=>
    have ev:aD aE (S%1000000000)=iv ((O+q*Y+cc)%PB):=by unfold iv;rw[HS.out];unfold PB;congr 1
    have ed:(S/1000000000)=(((O+q*Y+cc)/PB:Nat):Int):=by rw[HS.out];unfold PB;omega
    have zB:=KL PB os ys j k cc q (O+q*Y+cc) _ (by rw[kP ZV.out];omega) Ho3.out (by rw[ZU.out,XY.out]);have hdl:(O+q*Y+cc)/PB≤999999999:=by rw[HS.out]at pd;unfold PB;omega
    refine⟨k+1,(O+q*Y+cc)/PB,by go_num,by rw[ed],hdl,by omega,(hB.drewN _).set _ _,os.set (j+k) ((O+q*Y+cc)%PB),?_,Cs Ho2.out (fU _ (by decide)),fun i hi=>(xD _ _ _ _ (by omega)).trans (Ho4.out i hi),zB⟩;rw[ev];exact yV ZV.out (j+k) _
   case measure=>simp only[aK];omega
  ·have hge:¬(k:Int)<(n2:Int)+1:=by omega
   obtain rfl:k=n2+1:=by omega
   obtain⟨os,o1,o2,o4,o3⟩:=hO.out;have Nj:bH (∃(os:List Nat)(cc:Nat),wr.ownsRow base 3 1 (aB (some ⟨g,0,none⟩) nu cap) nu (os.map iv)∧(∀x∈os,x<PB)∧(∀i,j+n2+1≤i→os.getD i 0=Fz.getD i 0)∧cE PB os+cc*PB^(j+(n2+1))=cE PB Fz+q*cE PB ys*PB^j):=
    ⟨os,cc,o1,o2,o4,by rw[o3,jL PB ys _ (by rw[EI.out];omega)]⟩
   clear hO o1 o2 o3 o4;go_wp2;go_ret;obtain⟨os,c3,h1,h2,h3⟩:=Nj.out;exact⟨rfl,hB,os,h1,h2,h3.1,c3,h3.2⟩
theorem Od(B:Nat)(os ys:List Nat)(j k c c' q O o' T:Nat)(hi:j+k<os.length)
 (h:cE B os+q*cE B (ys.take k)*B^j=T+c*B^(j+k))(hO:os.getD (j+k) 0=O)(ho:o'+c+q*ys.getD k 0=O+c'*B):
 cE B (os.set (j+k) o')+q*cE B (ys.take (k+1))*B^j=T+c'*B^(j+(k+1)):=by
 have h1:=FM B os (j+k) o' hi;rw[hO]at h1;rw[gI,gD,jH];have e1:q*(B^k*ys.getD k 0)*B^j=B^(j+k)*(q*ys.getD k 0):=by
  rw[pE];ac_rfl
 have e2:c'*B^(j+(k+1))=B^(j+k)*(c'*B):=by
  rw[←Nat.add_assoc,fC];ac_rfl
 have e3:c*B^(j+k)=B^(j+k)*c:=dJ _ _;rw[e1,e2];rw[e3]at h;have e4:=congrArg (B^(j+k)*·) ho;simp only[gD]at e4;omega
theorem pk(g nu cap:Nat)(a2:Option cT)(c2 n2 j q base:Nat)(Fz ys:List Nat)(w:aF)(hown:w.ownsRow base 3 1 (aB (some ⟨g,0,none⟩) nu cap) nu (Fz.map iv))(Nh:∀x∈Fz,x<PB)
 (Ab:ys.length=n2)(hy:n2≤1000)(jn:nu≤3000)(h2:Rd w a2 ys)(Ob:∀y∈ys,y<PB)(hj:j+n2+1≤nu)(hq:q≤999999999)(jC:∀p,a2=some p→p.block≠g):
 aW aC 283 #[aB (some ⟨g,0,none⟩) nu cap,aB a2 n2 c2,aD aE j,aD aE q] w fun e w'=>pT g w w'∧
  ∃(os:List Nat)(cc:Nat),e=aQ (aN (decide (0<cc)))∧w'.ownsRow base 3 1 (aB (some ⟨g,0,none⟩) nu cap) nu (os.map iv)∧(∀x∈os,x<PB)∧(∀i,j+n2+1≤i→os.getD i 0=Fz.getD i 0)∧cE PB os+q*cE PB ys*PB^j=cE PB Fz+cc*PB^(j+(n2+1)):=by
 have EI:=zq Ab;clear Ab;have Hyl:=zq Ob;clear Ob;have H2:=zq h2;clear h2;have Hne:=zq jC;clear jC;have HO0:bH (∃os:List Nat,w.ownsRow base 3 1 (aB (some ⟨g,0,none⟩) nu cap) nu (os.map iv)∧(∀x∈os,x<PB)∧(∀i,j+n2+1≤i→os.getD i 0=Fz.getD i 0)∧cE PB os+q*cE PB (ys.take 0)*PB^j=cE PB Fz+0*PB^(j+0)):=
  ⟨Fz,hown,Nh,fun _ _=>rfl,by simp[cE]⟩
 clear hown Nh;go_enter func283,ntmps283;go_wp2;go_loopw[9,15] (fun c i' wr=>∃(k cc:Nat),i'=aD aE k∧c=aD aE cc∧cc≤999999999∧k≤n2+1∧pT g w wr∧
  bH (∃os:List Nat,wr.ownsRow base 3 1 (aB (some ⟨g,0,none⟩) nu cap) nu (os.map iv)∧(∀x∈os,x<PB)∧(∀i,j+n2+1≤i→os.getD i 0=Fz.getD i 0)∧cE PB os+q*cE PB (ys.take k)*PB^j=cE PB Fz+cc*PB^(j+k)))
  (fun _ i' _=>2000-(aK i').toNat)
 case atStart=>exact⟨0,0,rfl,rfl,by omega,by omega,pT.refl _ _,HO0⟩
 clear HO0;case round=>
  obtain⟨k,cc,rfl,rfl,hcc,hk,hB,hO⟩:=hrel;by_cases hgo:k<n2+1
  ·have Yh:k≤n2:=by omega
   have ZS:(k:Int)<(n2:Int)+1:=by omega
   obtain⟨os,o1,o2,o4,o3⟩:=hO.out;clear hO;have hO0:os.getD (j+k) 0≤999999999:=by have:=iG o2 (by decide) (j+k);unfold PB at this;omega
   have hY:ys.getD k 0≤999999999:=by have:=iG Hyl.out (by decide) k;unfold PB at this;omega
   have hco:=nQ o1 (show j+k<nu by omega);have CH:=fun nq=>xF a2 c2 n2 k ys (wr.drewN nq) EI.out (H2.out.but (hB.drewN nq) Hne.out) (by omega);simp only[iF]at CH;have SI:=zq CH;clear CH;have hfz:=fN o1 (j+k);generalize SJ:os.getD (j+k) 0=O at *;have ZU:=zq SJ;clear SJ;generalize NX:ys.getD k 0=Y at *;have XY:=zq NX;clear NX;have hp:=Pq q Y (tV hq hY);obtain⟨hp1,jk⟩:=hp;have ZV:=zq o1;clear o1;have Ho2:=zq o2;clear o2;have Ho3:=zq o3;clear o3;have Ho4:=zq o4;clear o4;have e1:IntKind.i64.wrap ((j:Int)+k)=(j:Int)+k:=by(first |exact aX _ (by omega))
   have e2:(0:Int)≤(j:Int)+k:=by omega
   have e3:((j:Int)+k).toNat=j+k:=by omega
   have e4:IntKind.i64.wrap ((q:Int)*Y)=(q:Int)*Y:=by(first |exact aX _ (by omega))
   have e5:IntKind.i64.wrap ((O:Int)-cc)=(O:Int)-cc:=by(first |exact aX _ (by omega))
   have e6:IntKind.i64.wrap ((O:Int)-cc-(q:Int)*Y)=(O:Int)-cc-(q:Int)*Y:=by(first |exact aX _ (by omega))
   go_wp2;go_quiet ((go_at_call 286;exact Eu ((SI.out _).mono fun e w'⟨h1,h2⟩=>⟨h1,h2.symm⟩)))
   clear e1 e2 e3 e4 e5 e6;obtain⟨p,hp⟩:∃p,q*Y=p:=⟨_,rfl⟩;have hpi:(q:Int)*Y=(p:Int):=by rw[←lI,hp]
   rw[hpi]at hp1 jk;rw[hpi];have hp3:p≤999999998000000001:=by omega
   have Hp:=zq hp;clear hp hpi hp1 jk;have f1':IntKind.i64.wrap ((j:Int)+k)=(j:Int)+k:=by(first |exact aX _ (by omega))
   generalize hS:(O:Int)-cc-(p:Int)=S at *;have hS1: -999999999000000000≤S:=by omega
   have hS2:S≤999999999:=by omega
   have HS:=zq hS;clear hS;by_cases hneg:S<0
   ·have rG:(0:Int)≤-S+1000000000-1:=by omega
    go_wp2;go_roundw;case rel=>
     obtain⟨C,hC⟩:∃C:Nat,(-S+1000000000-1)/1000000000=(C:Int):=⟨((-S+1000000000-1)/1000000000).toNat,by omega⟩;obtain⟨o',ZX⟩:∃o':Nat,S+(C:Int)*1000000000=(o':Int):=⟨(S+(C:Int)*1000000000).toNat,by omega⟩;have hob:o'<PB:=by unfold PB;omega
     have zB:=Od PB os ys j k cc C q O o' _ (by rw[kP ZV.out];omega) Ho3.out ZU.out (by rw[XY.out,Hp.out];unfold PB;have:=HS.out;omega);refine⟨k+1,C,by go_num,by rw[hC],by omega,by omega,(hB.drewN _).set _ _,os.set (j+k) o',?_,Cs Ho2.out hob,fun i hi=>(xD _ _ _ _ (by omega)).trans (Ho4.out i hi),zB⟩;rw[hC,ZX];exact yV ZV.out (j+k) o'
    case measure=>simp only[aK];omega
   ·go_wp2;go_roundw;case rel=>
     obtain⟨o',ZX⟩:∃o':Nat,S=(o':Int):=⟨S.toNat,by omega⟩;have hob:o'<PB:=by unfold PB;omega
     have zB:=Od PB os ys j k cc 0 q O o' _ (by rw[kP ZV.out];omega) Ho3.out ZU.out (by rw[XY.out,Hp.out];have:=HS.out;omega);refine⟨k+1,0,by go_num,rfl,by omega,by omega,(hB.drewN _).set _ _,os.set (j+k) o',?_,Cs Ho2.out hob,fun i hi=>(xD _ _ _ _ (by omega)).trans (Ho4.out i hi),zB⟩;rw[ZX];exact yV ZV.out (j+k) o'
    case measure=>simp only[aK];omega
  ·have hge:¬(k:Int)<(n2:Int)+1:=by omega
   obtain rfl:k=n2+1:=by omega
   obtain⟨os,o1,o2,o4,o3⟩:=hO.out;have Nj:bH (cE PB os+q*cE PB ys*PB^j=cE PB Fz+cc*PB^(j+(n2+1))):=by
    show _=_;rw[←o3,jL PB ys _ (by rw[EI.out];omega)]
   have ZV:=zq o1;have Ho2:=zq o2;have Ho4:=zq o4;clear hO o1 o2 o3 o4;by_cases h0:0<cc
   ·go_wp2;go_ret;exact⟨hB,os,cc,by simp[h0],ZV.out,Ho2.out,Ho4.out,Nj.out⟩
   ·go_wp2;go_ret;exact⟨hB,os,cc,by simp[h0],ZV.out,Ho2.out,Ho4.out,Nj.out⟩
theorem pm{B q r v1 v0 top u0 Q:Nat}(h:q*v1+r=top)(hQ:Q*(v1*B+v0)≤top*B+u0)(hc:r*B+u0<q*v0):Q<q:=by
 rcases fK Q q with h1|h1
 ·exact h1
 ·exfalso;have h2:q*(v1*B+v0)≤Q*(v1*B+v0):=eV _ h1;rw[gD,←fV]at h2;have h3:top*B=q*v1*B+r*B:=by rw[←h,jH]
  omega
theorem ZY{B v1 v0 top u0 Q:Nat}(hv:0<v1)(hu:u0<B)(hQ:Q*(v1*B+v0)≤top*B+u0):Q≤top/v1:=by
 rw[DI hv];rcases fK top (Q*v1)with h|h
 ·exfalso;have h1:(top+1)*B≤Q*v1*B:=eV _ h;rw[gD,←fV]at hQ;rw[jH,AW]at h1;omega
 ·exact h
theorem PL(bu ou nu cu bv ov n cv j u2 u1 u0 v1 v0:Nat)(w:aF)(hn:2≤n)(IH:n≤1000)(jn:nu≤3000)(hj:j+n<nu)
 (k2:w.cell? ⟨bu,ou+(j+n),none⟩=some (iv u2))(k1:w.cell? ⟨bu,ou+(j+n-1),none⟩=some (iv u1))(k0:w.cell? ⟨bu,ou+(j+n-2),none⟩=some (iv u0))
 (l1:w.cell? ⟨bv,ov+(n-1),none⟩=some (iv v1))(l0:w.cell? ⟨bv,ov+(n-2),none⟩=some (iv v0))
 (hu2:u2≤v1)(yE:v1≤999999999)(hv:0<v1)(hu1:u1≤999999999)(hu0:u0≤999999999)(hv0:v0≤999999999):
 aW aC 282 #[aB (some ⟨bu,ou,none⟩) nu cu,aB (some ⟨bv,ov,none⟩) n cv,aD aE j] w fun e w'=>(∃q:Nat,e=aQ (iv q)∧q≤999999999∧
  ∀Q,Q<PB→Q*(v1*PB+v0)≤(u2*PB+u1)*PB+u0→Q≤q)∧∃nd,w'=w.drewN nd:=by
 obtain⟨top,Rv⟩:∃top:Nat,u2*PB+u1=top:=⟨_,rfl⟩;have ZZ:(u2:Int)*1000000000+u1=(top:Int):=by rw[←Rv];unfold PB;omega
 have htb:top≤v1*1000000000+999999999:=by unfold PB at Rv;omega
 have ht18:top≤999999999999999999:=by omega
 obtain⟨Q0,hQ0⟩:∃Q0,top/v1=Q0:=⟨_,rfl⟩;obtain⟨R0,VW⟩:∃R0,top%v1=R0:=⟨_,rfl⟩;have hdm:Q0*v1+R0=top:=by rw[←hQ0,←VW,dJ];exact pF top v1
 have hRv:R0<v1:=by rw[←VW];exact fU _ hv
 have hQb:Q0≤1999999999:=by
  have h2:Q0<2000000000:=by
   rw[←hQ0,vI hv];omega
  omega
 have hst:bH (∀Q,Q<PB→Q*(v1*PB+v0)≤(u2*PB+u1)*PB+u0→Q≤Q0):=by
  intro Q _ h;rw[Rv]at h;rw[←hQ0];exact ZY hv (by unfold PB;omega) h
 have r5:IntKind.i64.wrap (Q0:Int)=(Q0:Int):=aX _ (by omega);have r6:IntKind.i64.wrap (R0:Int)=(R0:Int):=aX _ (by omega);have q1:IntKind.i64.wrap ((j:Int)+n)=(j:Int)+n:=by exact aX _ (by omega)
 have q2:(0:Int)≤(j:Int)+n:=by omega
 have q3:((j:Int)+n).toNat=j+n:=by omega
 have q4:(j:Int)+n<nu:=by omega
 have q5:IntKind.i64.wrap ((j:Int)+n-1)=(j:Int)+n-1:=by exact aX _ (by omega)
 have q6:(0:Int)≤(j:Int)+n-1:=by omega
 have q7:((j:Int)+n-1).toNat=j+n-1:=by omega
 have q8:(j:Int)+n-1<nu:=by omega
 have q9:IntKind.i64.wrap ((u2:Int)*1000000000)=(u2:Int)*1000000000:=by exact aX _ (by omega)
 have q10:IntKind.i64.wrap ((u2:Int)*1000000000+u1)=(u2:Int)*1000000000+u1:=by exact aX _ (by omega)
 have r3:((top:Int))/(v1:Int)=(Q0:Int):=by rw[←hQ0,NN]
 have r4:((top:Int))%(v1:Int)=(R0:Int):=by rw[←VW,Int.natCast_emod]
 have r1:((top:Int)).tdiv (v1:Int)=(Q0:Int):=(jB (Kk _)).trans r3;have r2:((top:Int)).tmod (v1:Int)=(R0:Int):=(jI (Kk _)).trans r4;have Hdm:=zq hdm;have HRv:=zq hRv;have HQb:=zq hQb;have Htb:=zq htb;have Hr:=zq (And.intro r1 (And.intro r2 (And.intro r3 (And.intro r4 (And.intro r5 r6)))));have Htop:=zq ZZ;have Htn:=zq Rv;have HU:=zq (And.intro hu2 (And.intro hu1 (And.intro hu0 hv0)));clear hQ0 VW hdm hRv hQb htb r1 r2 r3 r4 r5 r6 ZZ Rv ht18;go_enter func282,ntmps282;go_wp2;go_quiet (fail)
 rw[Htop.out];clear q1 q2 q3 q4 q5 q6 q7 q8 q9 q10;have p1:IntKind.i64.wrap ((n:Int)-1)=(n:Int)-1:=by exact aX _ (by omega)
 have p2:(0:Int)≤(n:Int)-1:=by omega
 have p3:((n:Int)-1).toNat=n-1:=by omega
 have p4:(n:Int)-1<n:=by omega
 have r7:¬(v1:Int)=0:=by omega
 have r7n:¬v1=0:=by omega
 obtain⟨r1,r2,r3,r4,r5,r6⟩:=Hr.out;have l1n:(w.drewN nq).cell? ⟨bv,ov+(n-1),none⟩=some (iv v1):=l1;go_wp2;go_quiet (fail)
 clear p1 p2 p3 p4 r1 r2 r3 r4 r5 r6 r7 r7n l1n;go_wp2;go_loopw[9,10] (fun q r wr=>∃(Q R:Nat),q=aD aE Q∧r=aD aE R∧Q≤1999999999∧R≤999999999∧bH (Q*v1+R=top∧∀Q',Q'<PB→Q'*(v1*PB+v0)≤(u2*PB+u1)*PB+u0→Q'≤Q)∧∃nd,wr=w.drewN nd)
  (fun q _ _=>(aK q).toNat)
 case atStart=>exact⟨Q0,R0,rfl,rfl,HQb.out,by have:=HRv.out;omega,⟨Hdm.out,hst.out⟩,_,iw _ _ _⟩
 case round=>
  clear hst Hdm HRv HQb Hr Htop;obtain⟨Q,R,rfl,rfl,hQ,hR,hH,nd,rfl⟩:=hrel;have e1:IntKind.i64.wrap ((n:Int)-1)=(n:Int)-1:=by exact aX _ (by omega)
  have e2:(0:Int)≤(n:Int)-1:=by omega
  have e3:((n:Int)-1).toNat=n-1:=by omega
  have e4:(n:Int)-1<n:=by omega
  have l1n:(w.drewN nd).cell? ⟨bv,ov+(n-1),none⟩=some (iv v1):=l1;by_cases hA:1000000000≤Q
  ·have hg:decide ((1000000000:Int)≤(Q:Int))=true:=by simp;omega
   have hlt:∀Q',Q'<PB→Q'*(v1*PB+v0)≤(u2*PB+u1)*PB+u0→Q'≤Q-1:=by
    intro Q' h1 _;unfold PB at h1;omega
   have hQ1:1≤Q:=by omega
   obtain⟨P,hP⟩:∃P,Q=P+1:=⟨Q-1,by omega⟩;obtain⟨S,hS⟩:∃S,R+v1=S:=⟨_,rfl⟩;have hS2:S≤1999999998:=by omega
   have s1:IntKind.i64.wrap ((R:Int)+v1)=(S:Int):=by rw[←hS];exact aX _ (by omega)
   have s2:IntKind.i64.wrap ((Q:Int)-1)=(P:Int):=by rw[hP];rw[show((P+1:Nat):Int)-1=(P:Int) by omega];exact aX _ (by omega)
   have HD:bH (P*v1+S=top):=by
    show _=_;have:=hH.out.1;rw[hP,jH,AW]at this;omega
   have HLT:=zq hlt;have HP:=zq hP;have HS:=zq hS;clear hP hS hlt;by_cases hbr:1000000000≤S
   ·have hbri:(1000000000:Int)≤(S:Int):=by omega
    go_wp2;go_quiet (fail)
    go_wp2;go_quiet (fail)
    go_wp2;go_ret;clear e1 e2 e3 e4;refine⟨⟨P,rfl,?_,fun Q' h1 h2=>by have:=HLT.out Q' h1 h2;have:=HP.out;omega⟩,_,rfl⟩;have h1:=HD.out;have h2:=Htb.out;have h3:P*v1<1000000000*v1:=by rw[dJ 1000000000];omega
    have:=Pf h3;omega
   ·have hbd:decide ((1000000000:Int)≤(S:Int))=false:=by simp;omega
    have Hbr:=zq hbr;clear hbr;go_wp2;go_quiet (fail)
    go_wp2;go_quiet (fail)
    go_wp2;clear e1 e2 e3 e4;go_roundw;case rel=>exact⟨P,S,rfl,rfl,by have:=HP.out;omega,by have:=Hbr.out;omega,⟨HD.out,fun Q' h1 h2=>by have:=HLT.out Q' h1 h2;have:=HP.out;omega⟩,_,rfl⟩
    case measure=>have:=HP.out;simp only[aK];omega
  ·have hQ9:Q≤999999999:=by omega
   have hg:decide ((1000000000:Int)≤(Q:Int))=false:=by simp;omega
   have hg2:decide ((R:Int)<1000000000)=true:=by simp;omega
   obtain⟨p,jo⟩:∃p,Q*v0=p:=⟨_,rfl⟩;have hpi:(Q:Int)*v0=(p:Int):=by rw[←lI,jo]
   have hp3:p≤999999998000000001:=by rw[←jo];exact bE (tV hQ9 hv0) (by decide)
   have g12:IntKind.i64.wrap ((Q:Int)*v0)=(p:Int):=by rw[hpi];exact aX _ (by omega)
   have Hdec:bH (R*1000000000+u0<p↔(R:Int)*1000000000+u0<(p:Int)):=by show _↔_;omega
   have G12:=zq g12;have Hp0:=zq jo;clear hpi jo g12;have g1:IntKind.i64.wrap ((n:Int)-2)=(n:Int)-2:=by exact aX _ (by omega)
   have g2:(0:Int)≤(n:Int)-2:=by omega
   have g3:((n:Int)-2).toNat=n-2:=by omega
   have g4:(n:Int)-2<n:=by omega
   have g5:IntKind.i64.wrap ((j:Int)+n)=(j:Int)+n:=by exact aX _ (by omega)
   have g6:IntKind.i64.wrap ((j:Int)+n-2)=(j:Int)+n-2:=by exact aX _ (by omega)
   have g7:(0:Int)≤(j:Int)+n-2:=by omega
   have g8:((j:Int)+n-2).toNat=j+n-2:=by omega
   have g9:(j:Int)+n-2<nu:=by omega
   have g10:IntKind.i64.wrap ((R:Int)*1000000000)=(R:Int)*1000000000:=by exact aX _ (by omega)
   have g11:IntKind.i64.wrap ((R:Int)*1000000000+u0)=(R:Int)*1000000000+u0:=by exact aX _ (by omega)
   have l0n:(w.drewN nd).cell? ⟨bv,ov+(n-2),none⟩=some (iv v0):=l0;have k0n:(w.drewN nd).cell? ⟨bu,ou+(j+n-2),none⟩=some (iv u0):=k0;have HG:=zq (And.intro g1 (And.intro g2 (And.intro g3 (And.intro g4 (And.intro g5 (And.intro g6 (And.intro g7 (And.intro g8 (And.intro g9 (And.intro g10 (And.intro g11 (And.intro l0n k0n))))))))))));have HE:=zq (And.intro e1 (And.intro e2 (And.intro e3 (And.intro e4 l1n))));clear g1 g2 g3 g4 g5 g6 g7 g8 g9 g10 g11 l0n k0n e1 e2 e3 e4 l1n;by_cases hc:R*1000000000+u0<p
   ·have hci:(R:Int)*1000000000+u0<(p:Int):=Hdec.out.1 hc;have hcd:decide ((R:Int)*1000000000+u0<(p:Int))=true:=decide_eq_true hci;have hlt:∀Q',Q'<PB→Q'*(v1*PB+v0)≤(u2*PB+u1)*PB+u0→Q'≤Q-1:=by
     intro Q' h1 h2;have:=pm hH.out.1 (by rw[Htn.out]at h2;exact h2) (by rw[Hp0.out];exact hc);omega
    have hQ1:1≤Q:=by
     rcases fF Q with h|h
     ·exfalso;have h0:=Hp0.out;rw[h,oC]at h0;rw[←h0]at hc;exact Nat.not_lt_zero _ hc
     ·exact h
    obtain⟨P,hP⟩:∃P,Q=P+1:=⟨Q-1,by omega⟩;obtain⟨S,hS⟩:∃S,R+v1=S:=⟨_,rfl⟩;have hS2:S≤1999999998:=by omega
    have s1:IntKind.i64.wrap ((R:Int)+v1)=(S:Int):=by rw[←hS];exact aX _ (by omega)
    have s2:IntKind.i64.wrap ((Q:Int)-1)=(P:Int):=by rw[hP];rw[show((P+1:Nat):Int)-1=(P:Int) by omega];exact aX _ (by omega)
    have HD:bH (P*v1+S=top):=by
     show _=_;have:=hH.out.1;rw[hP,jH,AW]at this;omega
    have HLT:=zq hlt;have HP:=zq hP;have HS:=zq hS;clear hP hS hlt;by_cases hbr:1000000000≤S
    ·have hbri:(1000000000:Int)≤(S:Int):=by omega
     obtain⟨g1,g2,g3,g4,g5,g6,g7,g8,g9,g10,g11,l0n,k0n⟩:=HG.out;obtain⟨e1,e2,e3,e4,l1n⟩:=HE.out;have g12:=G12.out;go_wp2;go_quiet (fail)
     clear g1 g2 g3 g4 g5 g6 g7 g8 g9 g10 g11 g12;go_wp2;go_quiet (fail)
     go_wp2;go_ret;clear e1 e2 e3 e4;refine⟨⟨P,rfl,?_,fun Q' h1 h2=>by have:=HLT.out Q' h1 h2;have:=HP.out;omega⟩,_,rfl⟩;have h1:=HD.out;have h2:=Htb.out;have h3:P*v1<1000000000*v1:=by rw[dJ 1000000000];omega
     have:=Pf h3;omega
    ·have hbd:decide ((1000000000:Int)≤(S:Int))=false:=by simp;omega
     have Hbr:=zq hbr;clear hbr;obtain⟨g1,g2,g3,g4,g5,g6,g7,g8,g9,g10,g11,l0n,k0n⟩:=HG.out;obtain⟨e1,e2,e3,e4,l1n⟩:=HE.out;have g12:=G12.out;go_wp2;go_quiet (fail)
     clear g1 g2 g3 g4 g5 g6 g7 g8 g9 g10 g11 g12;go_wp2;go_quiet (fail)
     go_wp2;clear e1 e2 e3 e4;go_roundw;case rel=>exact⟨P,S,rfl,rfl,by have:=HP.out;omega,by have:=Hbr.out;omega,⟨HD.out,fun Q' h1 h2=>by have:=HLT.out Q' h1 h2;have:=HP.out;omega⟩,_,rfl⟩
     case measure=>have:=HP.out;simp only[aK];omega
   ·have hci:¬(R:Int)*1000000000+u0<(p:Int):=fun h=>hc (Hdec.out.2 h);have hcd:decide ((R:Int)*1000000000+u0<(p:Int))=false:=decide_eq_false hci;obtain⟨g1,g2,g3,g4,g5,g6,g7,g8,g9,g10,g11,l0n,k0n⟩:=HG.out;obtain⟨e1,e2,e3,e4,l1n⟩:=HE.out;have g12:=G12.out;go_wp2;go_quiet (fail)
    go_wp2;go_ret;exact⟨⟨Q,rfl,hQ9,hH.out.2⟩,_,iw _ _ _⟩
end
section
open Go
theorem zP{B:Nat}(hB:1≤B)(xs:List Nat)(hx:∀x∈xs,x<B)(k:Nat)(hk:k≤xs.length):cE B (xs.drop k)=cE B xs/B^k:=by
 have h1:=mY B xs k hk;have h2:=wE hB hx k;rw[h1,Nat.add_mul_div_left _ _ (MM (by omega)),sF h2,Nat.zero_add]
theorem Yi{B:Nat}(hB:2≤B)(os ys:List Nat)(ho:∀x∈os,x<B)(hy:∀y∈ys,y<B)(n j:Nat)(hn:ys.length=n)(h2:2≤n)(hj:j+n<os.length)
 (hU:cE B os<cE B ys*B^(j+1)):
 os.getD (j+n) 0≤ys.getD (n-1) 0∧0<cE B ys∧cE B os<B^(j+(n+1))∧cE B os/(cE B ys*B^j)<B∧
 cE B os/(cE B ys*B^j)*(ys.getD (n-1) 0*B+ys.getD (n-2) 0)≤(os.getD (j+n) 0*B+os.getD (j+n-1) 0)*B+os.getD (j+n-2) 0:=by
 obtain⟨m,rfl⟩:∃m,n=m+2:=⟨n-2,by omega⟩;rw[show m+2-1=m+1 by omega,show m+2-2=m by omega,show j+(m+2)-1=j+m+1 by omega,show j+(m+2)-2=j+m by omega,show j+(m+2)=j+m+2 by omega];rw[show j+(m+2)=j+m+2 by omega]at hj;have hV:=yS (by omega:1≤B) ys hy;rw[hn]at hV;have hV0:0<cE B ys:=by
  rcases fF (cE B ys)with h|h
  ·rw[h,oC]at hU;omega
  ·exact h
 have hUW:cE B os<B^(j+m+3):=by
  refine bL hU ?_;rw[show j+m+3=(m+2)+(j+1) by omega,pE B (m+2)];exact eV _ (fZ hV)
 have d0:=gF B os (j+m) (by omega);have d1:=gF B os (j+m+1) (by omega);have d2:=gF B os (j+m+2) (by omega);have d3:cE B (os.drop (j+m+2+1))=0:=by
  rw[zP (by omega) os ho _ (by omega)];exact sF hUW
 rw[d3,DZ]at d2;rw[d2]at d1;rw[d1]at d0;rw[zP (by omega) os ho _ (by omega)]at d0 d2;have e0:=gF B ys m (by omega);have e1:=gF B ys (m+1) (by omega);have e2:cE B (ys.drop (m+1+1))=0:=by rw[uS (by omega)];rfl
 rw[e2,DZ]at e1;rw[e1]at e0;rw[zP (by omega) ys hy _ (by omega)]at e0 e1;generalize os.getD (j+m) 0=u0 at *;generalize os.getD (j+m+1) 0=u1 at *;generalize os.getD (j+m+2) 0=u2 at *;generalize ys.getD (m+1) 0=y1 at *;generalize ys.getD m 0=y0 at *;generalize cE B os=U at *;generalize cE B ys=V at *;simp only[oE]at d0 d1 d2 e0 e1;have hBp:∀k,0<B^k:=fun k=>MM (by omega);refine⟨?_,hV0,by rw[show j+(m+2+1)=j+m+3 by omega];exact hUW,?_,?_⟩
 ·rcases fK y1 u2 with h|h
  ·exfalso;have k1:u2*B^(j+m+2)≤U:=by rw[←d2];exact xU _ _
   have k2:V<(y1+1)*B^(m+1):=by
    rw[←e1,jH,AW];have:=pF V (B^(m+1));have h3:=fU V (hBp (m+1));rw[dJ]at this;omega
   have k3:V*B^(j+1)<(y1+1)*B^(m+1)*B^(j+1):=NO k2 (hBp _);have k4:(y1+1)*B^(m+1)*B^(j+1)≤u2*B^(j+m+2):=by
    rw[fV,←pE,show m+1+(j+1)=j+m+2 by omega];exact eV _ h
   omega
  ·exact h
 ·rw[vI (Nat.mul_pos hV0 (hBp _))];rw[fC]at hU;rw[dJ B,fV];exact hU
 ·have hT:U/B^(j+m)=(u2*B+u1)*B+u0:=by
   rw[d0,gD,jH];have:B*(B*u2)=u2*B*B:=by rw[dJ B u2,dJ B]
   rw[this,dJ B u1];omega
  have hE:V/B^m=y1*B+y0:=by rw[e0,dJ B y1];omega
  rw[←hT,←hE,DI (hBp _)];have k1:V/B^m*B^m≤V:=xU _ _;have k2:U/(V*B^j)*(V*B^j)≤U:=xU _ _;refine bE ?_ k2;rw[fV];refine lQ _ ?_;rw[show j+m=m+j by omega,pE,←fV];exact eV _ k1
theorem take_zero{U V P q X:Nat}(hV:0<V*P)(h:X+q*V*P=U)(hle:U/(V*P)≤q):q=U/(V*P)∧X<V*P:=by
 have h1:=pF U (V*P);have h2:=fU U hV;have h3:q≤U/(V*P):=by rw[DI hV,←fV];omega
 have h4:q=U/(V*P):=by omega
 refine⟨h4,?_⟩;rw[←h4,dJ,←fV]at h1;omega
theorem pn{U V P W q X cc:Nat}(hV:0<V*P)(h:X+q*V*P=U+cc*W)(hX:X<W)(hc:0<cc):U/(V*P)<q:=by
 rw[vI hV,←fV];have:W≤cc*W:=Nat.le_mul_of_pos_left _ hc;omega
theorem PN{U T X c2 cc W:Nat}(h1:X+c2*W=T)(h2:T=U+cc*W)(hX:X<W)(hU:U<W):X=U:=by
 have h:=h1.trans h2;have h3:=congrArg (·%W) h;simp only[Nat.add_mul_mod_self_right]at h3;rwa[fE hX,fE hU]at h3
theorem SQ{B:Nat}(hB:1≤B)(xs:List Nat)(hx:∀x∈xs,x<B)(k:Nat)(h:∀i,k≤i→xs.getD i 0=0):cE B xs<B^k:=by
 rcases fK k xs.length with hk|hk
 ·rw[mY B xs k (by omega)];have:cE B (xs.drop k)=0:=by
   have hz:xs.drop k=bV (xs.length-k) 0:=by
    apply List.ext_getElem
    ·simp
    ·intro i h1 h2;simp only[List.length_drop]at h1;have:=h (k+i) (by omega);rw[List.getD_eq_getElem?_getD,eO (by omega)]at this;simpa using this
   rw[hz,Ez]
  rw[this,DZ,oE];exact wE hB hx k
 ·exact bL (yS hB xs hx) (bO hB hk)
theorem Z2{B:Nat}(qs:List Nat)(j Q U X V U0:Nat)(hj:j<qs.length)(h:U+V*cE B (qs.drop (j+1))*B^(j+1)=U0)(hX:X+Q*V*B^j=U):
 X+V*cE B ((qs.set j Q).drop j)*B^j=U0:=by
 have h1:=gF B (qs.set j Q) j (by rw[fP];exact hj);rw[D9 _ _ _ hj]at h1;have h2:(qs.set j Q).drop (j+1)=qs.drop (j+1):=by
  rw[List.drop_set];simp
 rw[h2]at h1;rw[h1,←h,←hX,fC,gD,jH];have e1:V*Q*B^j=Q*V*B^j:=by rw[dJ V Q]
 have e2:V*(B*cE B (qs.drop (j+1)))*B^j=V*cE B (qs.drop (j+1))*(B^j*B):=by ac_rfl
 omega
theorem Wa{M N f U Q:Nat}(hf:0<f)(h:U+N*f*Q=M*f)(hU:U<N*f):Q=M/N∧U=M%N*f:=by
 have hN:0<N:=by
  rcases fF N with h0|h0
  ·subst h0;simp at hU
  ·exact h0
 have h1:=mx (d:=N*f) (m:=M*f) (q:=Q) (r:=U) hU (by rw[dJ Q];omega);rw[Nat.mul_div_mul_right _ _ hf,Nat.mul_mod_mul_right]at h1;exact h1
theorem PO{B N n t:Nat}(hB:2≤B)(hn:(cQ B N).length=n)(h1:1≤n)(ht:(cQ B N).getD (n-1) 0=t):
 0<t∧t<B∧0<B/(t+1)∧B/(t+1)<B∧(cQ B (N*(B/(t+1)))).length=n:=by
 have jC:cQ B N≠[]:=by intro e;rw[e]at hn;simp at hn;omega
 have ht0:t≠0:=by have:=EA hB N jC;rw[hn]at this;rwa[ht]at this
 have htB:t<B:=by rw[←ht];exact iG (kH hB N) (by omega) _
 have hf0:0<B/(t+1):=Nat.div_pos (by omega) (by omega);have hN0:N≠0:=fun e=>jC ((iO hB).2 e);have ZZ:N/B^(n-1)=t:=by
  have h:=VC hB N (n-1);rw[ht]at h;have hlt:=eG hB N;rw[hn,show n=n-1+1 by omega,fC]at hlt;have:N/B^(n-1)<B:=by rw[vI (MM (by omega)),dJ];exact hlt
  rw[fE this]at h;exact h.symm
 have hNlt:N<(t+1)*B^(n-1):=by
  have:=pF N (B^(n-1));have h3:=fU N (MM (n:=n-1) (show 0<B by omega));rw[ZZ,dJ]at this;rw[jH,AW];omega
 have hup:N*(B/(t+1))<B^n:=by
  have k1:N*(B/(t+1))<(t+1)*B^(n-1)*(B/(t+1)):=NO hNlt hf0;have k2:(t+1)*B^(n-1)*(B/(t+1))=B^(n-1)*(B/(t+1)*(t+1)):=by ac_rfl
  have k3:B^(n-1)*(B/(t+1)*(t+1))≤B^(n-1)*B:=lQ _ (xU _ _);rw[show n=n-1+1 by omega,fC];omega
 refine⟨by omega,htB,hf0,Nat.div_lt_self (by omega) (by omega),?_⟩;refine Nat.le_antisymm (gH hB hup) ?_;rw[←hn];exact iP hB (Nat.le_mul_of_pos_right _ hf0)
theorem pq{B A V n nu:Nat}(hB:2≤B)(hA:(cQ B A).length+1≤nu)(hV:(cQ B V).length=n)(hn:1≤n)(hle:n≤nu):A<V*B^(nu-n):=by
 have h1:=eG hB A;have hV0:V≠0:=by rintro rfl;rw[eY]at hV;simp at hV;omega
 have h2:=JN hB hV0;rw[hV]at h2;have h3:B^(cQ B A).length≤B^(nu-1):=bO (by omega) (by omega);have h4:B^(n-1)*B^(nu-n)≤V*B^(nu-n):=eV _ h2;rw[←pE,show n-1+(nu-n)=nu-1 by omega]at h4;omega
end
end Go.Proofs.YtckgmoobicmbnaaGreatDoor
