import Derived.Test.YtcimoodjlopdaaaGreatDoorProg
import Derived.WalkKit
import Derived.WalkSpells
import Derived.WalkLawsBesides
import Derived.RegionTactic
import Derived.ChangeAlike
import Derived.Deep.QuietTactic
import Derived.BigQuiet
import Derived.Lib.Hide
import Derived.Deep.DeepCutAuto
import Derived.Deep.RegionHeld3
import Derived.Sort.CutIn
import Derived.Sort.QuietIn
import Derived.RegionIn
import Derived.Deep.RegionWith
import Derived.Test.YtcimoodjlopdaaaGreatDoorZ0
import Derived.Test.YtcimoodjlopdaaaGreatDoorZ6
import Derived.Test.YtcimoodjlopdaaaGreatDoorZ8
namespace Go.Proofs.YtcimoodjlopdaaaGreatDoor
set_option maxRecDepth 100000
set_option maxHeartbeats 8000000
set_option linter.all false
open Go.Proofs.Tryz
open Go renaming World->aE,Calls->aQ,Value->bB,below_drewN->bH,maxLen->cA,bodyPost_ret->cD,wpAnyIn_done->eK,run_takeDeferred->gE,results_cell_row->lH,belowK_b->EL
open Go.AllReadyIn renaming nil->aR,cons->dV
open Go.Calls renaming quiet_of_same->Wn
open Go.Ending renaming returned->aO
open Go.Fence renaming wide->dW
open Go.IntKind renaming i64->aG
open Go.IntWalk renaming i64_in->aP
open Go.KeepsOthers renaming setCell->cE
open Go.Obj renaming cells->aL
open Go.OwnFrom renaming and->tE
open Go.Proofs.Tryz renaming prog->aC,results258->sU,isAgg179->tC,underlying181->Ie,results149->MJ,ntmps149->Qw,func149->T7
open Go.RowKit renaming Below->aJ,intOf->aK,Hid->aY
open Go.RowKit.Below renaming refl->aI,trans->iD
open Go.Value renaming slice->aB,int->aF,bool->aM,agg->dM
open Go.World renaming size_alloc->aS,ownsRow_lit->jJ,size_setCell->mO,drew->Ci
open Go.World.ownsRow renaming frozenAt->eO
open Int renaming toNat_natCast->gX
open List renaming getElem?_cons_zero->bD,getElem?_toArray->bJ,replicate->bY,drop_of_length_le->jK,drop_zero->H4
open MonadStateOf renaming set->UI
open Nat renaming le_refl->aD,mod_lt->fW,mul_add->fY,mul_le_mul->H7,le_of_lt->I4
open Trans renaming trans->cL
section
open Go Go.RowKit Go.Lib
theorem im{w W:aE}{a b c:Array bB}(h:((w.alloc (aL a 181)).alloc (aL b 181)).alloc (aL c 181)=W):
 bZ W w.heap.size a 181∧bZ W (w.heap.size+1) b 181∧bZ W (w.heap.size+1+1) c 181∧aJ w.heap.size w W∧W.heap.size=w.heap.size+1+1+1:=by
 subst h;refine⟨((bZ.new w _ _).alloc _).alloc _,?_,?_,(((aI _ _).alloc (aD _) _).alloc (by simp) _).alloc (by simp;omega) _,by simp⟩
 ·have:=(bZ.new (w.alloc (aL a 181)) b 181).alloc (aL c 181);rwa[aS]at this
 ·have:=bZ.new ((w.alloc (aL a 181)).alloc (aL b 181)) c 181;rwa[aS,aS]at this
theorem Pn(b:Bool)(v1 v2:bB)(M N:Nat)(w:aE)(h1:nR w v1 PB M)(h2:nR w v2 PB N)(hM:(bM PB M).length≤1000)(hN:(bM PB N).length≤1000):
 aQ aC 149 #[dM #[aM b,v1],dM #[aM b,v2]] w fun e w'=>∃(c:Bool)(v:bB)(K:Nat),e=aO (dM #[aM c,v])∧eE c K=eE b M+eE b N∧mI w' w.heap.size v PB K∧aJ w.heap.size w w':=by
 have H1:=zq h1;clear h1;have H2:=zq h2;clear h2;have Hc:=zq (fun(W:aE)(hW:aJ w.heap.size w W)=>AV v1 v2 M N W (H1.out.below hW) (H2.out.below hW) hM hN);clear hM hN;go_enter T7,Qw;go_upto_region 2 with fail
 obtain⟨W,hW⟩:∃W,((w.alloc (aL #[aM b,v1] 181)).alloc (aL #[aM b,v2] 181)).alloc (aL #[aM false,aB none 0 0] 181)=W:=⟨_,rfl⟩;rw[hW];obtain⟨q0,q1,q2,hB,oB⟩:=im hW;clear hW;generalize hg:w.heap.size=g at *;have Hg:=zq hg;clear hg;have c0:W.cell? ⟨g,0,none⟩=some (aM b):=by rw[q0.cell];rfl
 have c1:W.cell? ⟨g,1,none⟩=some v1:=by rw[q0.cell];rfl
 have c2:W.cell? ⟨g+1,0,none⟩=some (aM b):=by rw[q1.cell];rfl
 have c3:W.cell? ⟨g+1,1,none⟩=some v2:=by rw[q1.cell];rfl
 have c4:W.cell? ⟨g+1+1,0,none⟩=some (aM false):=by rw[q2.cell];rfl
 have c5:W.cell? ⟨g+1+1,1,none⟩=some (aB none 0 0):=by rw[q2.cell];rfl
 have f4:W.frozen? ⟨g+1+1,0,none⟩=false:=q2.fz 0;have f5:W.frozen? ⟨g+1+1,1,none⟩=false:=q2.fz 1;have OX:=zq q2;clear q0 q1 q2;have n1:¬g=g+1+1:=by omega
 have n2:¬g+1+1=g:=by omega
 go_region_held3 (fun w'=>w'.cell? ⟨g,0,none⟩=some (aM b)∧w'.cell? ⟨g,1,none⟩=some v1∧w'.cell? ⟨g+1,1,none⟩=some v2) (go_keep)
  ((go_at_call 206;refine(Hc.out _ (by exact hB.drew)).mono ?_;rintro e w' ⟨v,rfl,⟨gv,nv,cv,rfl,Ld⟩,hb⟩;have:=ck hb g 0 (aM b);have:=ck hb g 1 (v1);have:=ck hb (g+1) 1 (v2);have:=ck hb (g+1+1) 0 (aM false);have:=ck hb (g+1+1) 1 (aB none 0 0);have l4:=fzk hb (p:=⟨g+1+1,0,none⟩) (by show g+1+1<W.heap.size;omega) (by simp[*]);have l5:=fzk hb (p:=⟨g+1+1,1,none⟩) (by show g+1+1<W.heap.size;omega) (by simp[*])))
 go_wp2;have tK:w'.ownsRow W.heap.size 3 1 (aB (some ⟨gv,0,none⟩) nv cv) nv ((bM PB (M+N)).map iv):=Ld;have Is:aJ W.heap.size W w':=(aI _ W).drew.trans hb;have NE:=dJ tK;rw[oB]at tK Is NE;have pW:=((OX.out.below Is (by omega)).set 0 (aM b)).set 1 (aB (some ⟨gv,0,none⟩) nv cv);refine cD (lH MJ _ _ (g+1+1) 181 _ _ _ rfl pW Ie rfl (by kernel_rfl)) rfl ⟨_,_,M+N,rfl,WO b M N,?_,?_⟩
 ·rw[Hg.out];exact⟨gv,nv,cv,rfl,gN (cX (cX tK (by show gv≠g+1+1;omega) _) (by show gv≠g+1+1;omega) _) (by omega)⟩
 ·rw[Hg.out];exact((hB.trans (Is.mono (by omega))).setCell (p:=⟨g+1+1,0,none⟩) (by show g≤g+1+1;omega) _).setCell (p:=⟨g+1+1,1,none⟩) (by show g≤g+1+1;omega) _
theorem Vk(b:Bool)(v1 v2:bB)(M N:Nat)(w:aE)(h1:nR w v1 PB M)(h2:nR w v2 PB N)(hM:(bM PB M).length≤1000)(hN:(bM PB N).length≤1000)(hle:N≤M):
 aQ aC 149 #[dM #[aM b,v1],dM #[aM (!b),v2]] w fun e w'=>∃(c:Bool)(v:bB)(K:Nat),e=aO (dM #[aM c,v])∧eE c K=eE b M+eE (!b) N∧mI w' w.heap.size v PB K∧aJ w.heap.size w w':=by
 have H1:=zq h1;clear h1;have H2:=zq h2;clear h2;have Hc:=zq (fun(W:aE)(hW:aJ w.heap.size w W)=>tW v1 v2 M N W (H1.out.below hW) (H2.out.below hW) hM hle);have io:=zq (fun(W:aE)(hW:aJ w.heap.size w W)=>wC v1 v2 M N W (H1.out.below hW) (H2.out.below hW) hM hN);clear hM hN;have Hle:=zq hle;clear hle;obtain⟨nb,FH⟩:∃nb,(!b)=nb:=⟨_,rfl⟩;have hbb:(b==nb)=false:=by rw[←FH];cases b<;>rfl
 rw[FH];have Hnb:=zq FH;clear FH;go_enter T7,Qw;go_upto_region 3 with fail
 obtain⟨W,hW⟩:∃W,((w.alloc (aL #[aM b,v1] 181)).alloc (aL #[aM nb,v2] 181)).alloc (aL #[aM false,aB none 0 0] 181)=W:=⟨_,rfl⟩;rw[hW];obtain⟨q0,q1,q2,hB,oB⟩:=im hW;clear hW;have c1:W.cell? ⟨w.heap.size,1,none⟩=some v1:=by rw[q0.cell];rfl
 have c3:W.cell? ⟨w.heap.size+1,1,none⟩=some v2:=by rw[q1.cell];rfl
 go_wp2_with fail
 refine(io.out W hB).mono ?_;rintro e W1⟨⟨v,rfl,hv⟩,hb1⟩;have hv0:(0:Int)≤v:=by have:=hv.1;have:=Hle.out;omega
 have q0:=q0.below hb1 (by omega);have q1:=q1.below hb1 (by omega);have q2:=q2.below hb1 (by omega);have hB:=aH hB hb1 hB.size;have oB:w.heap.size+1+1+1≤W1.heap.size:=by have:=hb1.size;omega
 clear c1 c3 hb1 hv;generalize hgW:W=W0 at *;clear hgW;obtain⟨W,rfl⟩:∃W,W=W1:=⟨_,rfl⟩;go_upto_region 4 with fail
 generalize hg:w.heap.size=g at *;have Hg:=zq hg;clear hg;have c0:W.cell? ⟨g,0,none⟩=some (aM b):=by rw[q0.cell];rfl
 have c1:W.cell? ⟨g,1,none⟩=some v1:=by rw[q0.cell];rfl
 have c2:W.cell? ⟨g+1,0,none⟩=some (aM nb):=by rw[q1.cell];rfl
 have c3:W.cell? ⟨g+1,1,none⟩=some v2:=by rw[q1.cell];rfl
 have c4:W.cell? ⟨g+1+1,0,none⟩=some (aM false):=by rw[q2.cell];rfl
 have c5:W.cell? ⟨g+1+1,1,none⟩=some (aB none 0 0):=by rw[q2.cell];rfl
 have f4:W.frozen? ⟨g+1+1,0,none⟩=false:=q2.fz 0;have f5:W.frozen? ⟨g+1+1,1,none⟩=false:=q2.fz 1;have OX:=zq q2;clear q0 q1 q2;have n1:¬g=g+1+1:=by omega
 have n2:¬g+1+1=g:=by omega
 go_region_held3 (fun w'=>w'.cell? ⟨g,0,none⟩=some (aM b)∧w'.cell? ⟨g,1,none⟩=some v1∧w'.cell? ⟨g+1,1,none⟩=some v2) (go_keep)
  ((go_at_call 206;refine(Hc.out _ (by exact hB.drew)).mono ?_;rintro e w' ⟨v,rfl,⟨gv,nv,cv,rfl,Ld⟩,hb⟩;have:=ck hb g 0 (aM b);have:=ck hb g 1 (v1);have:=ck hb (g+1) 1 (v2);have:=ck hb (g+1+1) 0 (aM false);have:=ck hb (g+1+1) 1 (aB none 0 0);have l4:=fzk hb (p:=⟨g+1+1,0,none⟩) (by show g+1+1<W.heap.size;omega) (by simp[*]);have l5:=fzk hb (p:=⟨g+1+1,1,none⟩) (by show g+1+1<W.heap.size;omega) (by simp[*])))
 go_wp2;have tK:w'.ownsRow W.heap.size 3 1 (aB (some ⟨gv,0,none⟩) nv cv) nv ((bM PB (M-N)).map iv):=Ld;have Is:aJ W.heap.size W w':=(aI _ W).drew.trans hb;have NE:=dJ tK;have pW:=((OX.out.below Is (by omega)).set 0 (aM b)).set 1 (aB (some ⟨gv,0,none⟩) nv cv);refine cD (lH MJ _ _ (g+1+1) 181 _ _ _ rfl pW Ie rfl (by kernel_rfl)) rfl ⟨_,_,M-N,rfl,by rw[←Hnb.out];exact OY b M N Hle.out,?_,?_⟩
 ·rw[Hg.out];exact⟨gv,nv,cv,rfl,gN (cX (cX tK (by show gv≠g+1+1;omega) _) (by show gv≠g+1+1;omega) _) (by omega)⟩
 ·rw[Hg.out];exact((hB.trans (Is.mono (by omega))).setCell (p:=⟨g+1+1,0,none⟩) (by show g≤g+1+1;omega) _).setCell (p:=⟨g+1+1,1,none⟩) (by show g≤g+1+1;omega) _
theorem Vl(b:Bool)(v1 v2:bB)(M N:Nat)(w:aE)(h1:nR w v1 PB M)(h2:nR w v2 PB N)(hM:(bM PB M).length≤1000)(hN:(bM PB N).length≤1000)(hle:M<N):
 aQ aC 149 #[dM #[aM b,v1],dM #[aM (!b),v2]] w fun e w'=>∃(c:Bool)(v:bB)(K:Nat),e=aO (dM #[aM c,v])∧eE c K=eE b M+eE (!b) N∧mI w' w.heap.size v PB K∧aJ w.heap.size w w':=by
 have H1:=zq h1;clear h1;have H2:=zq h2;clear h2;have Hc:=zq (fun(W:aE)(hW:aJ w.heap.size w W)=>tW v2 v1 N M W (H2.out.below hW) (H1.out.below hW) hN (I4 hle));have io:=zq (fun(W:aE)(hW:aJ w.heap.size w W)=>wC v1 v2 M N W (H1.out.below hW) (H2.out.below hW) hM hN);clear hM hN;have Hle:=zq hle;clear hle;obtain⟨nb,FH⟩:∃nb,(!b)=nb:=⟨_,rfl⟩;have hbb:(b==nb)=false:=by rw[←FH];cases b<;>rfl
 rw[FH];have Hnb:=zq FH;clear FH;go_enter T7,Qw;go_upto_region 3 with fail
 obtain⟨W,hW⟩:∃W,((w.alloc (aL #[aM b,v1] 181)).alloc (aL #[aM nb,v2] 181)).alloc (aL #[aM false,aB none 0 0] 181)=W:=⟨_,rfl⟩;rw[hW];obtain⟨q0,q1,q2,hB,oB⟩:=im hW;clear hW;have c1:W.cell? ⟨w.heap.size,1,none⟩=some v1:=by rw[q0.cell];rfl
 have c3:W.cell? ⟨w.heap.size+1,1,none⟩=some v2:=by rw[q1.cell];rfl
 go_wp2_with fail
 refine(io.out W hB).mono ?_;rintro e W1⟨⟨v,rfl,hv⟩,hb1⟩;have hv0:¬(0:Int)≤v:=by have:=hv.1;have:=Hle.out;omega
 have q0:=q0.below hb1 (by omega);have q1:=q1.below hb1 (by omega);have q2:=q2.below hb1 (by omega);have hB:=aH hB hb1 hB.size;have oB:w.heap.size+1+1+1≤W1.heap.size:=by have:=hb1.size;omega
 clear c1 c3 hb1 hv;generalize hgW:W=W0 at *;clear hgW;obtain⟨W,rfl⟩:∃W,W=W1:=⟨_,rfl⟩;go_upto_region 5 with fail
 generalize hg:w.heap.size=g at *;have Hg:=zq hg;clear hg;have c0:W.cell? ⟨g,0,none⟩=some (aM b):=by rw[q0.cell];rfl
 have c1:W.cell? ⟨g,1,none⟩=some v1:=by rw[q0.cell];rfl
 have c2:W.cell? ⟨g+1,0,none⟩=some (aM nb):=by rw[q1.cell];rfl
 have c3:W.cell? ⟨g+1,1,none⟩=some v2:=by rw[q1.cell];rfl
 have c4:W.cell? ⟨g+1+1,0,none⟩=some (aM false):=by rw[q2.cell];rfl
 have c5:W.cell? ⟨g+1+1,1,none⟩=some (aB none 0 0):=by rw[q2.cell];rfl
 have f4:W.frozen? ⟨g+1+1,0,none⟩=false:=q2.fz 0;have f5:W.frozen? ⟨g+1+1,1,none⟩=false:=q2.fz 1;have OX:=zq q2;clear q0 q1 q2;have n1:¬g=g+1+1:=by omega
 have n2:¬g+1+1=g:=by omega
 go_region_held3 (fun w'=>w'.cell? ⟨g+1,0,none⟩=some (aM nb)∧w'.cell? ⟨g+1,1,none⟩=some v2∧w'.cell? ⟨g,1,none⟩=some v1) (go_keep)
  ((go_at_call 206;refine(Hc.out _ (by exact hB.drew)).mono ?_;rintro e w' ⟨v,rfl,⟨gv,nv,cv,rfl,Ld⟩,hb⟩;have:=ck hb (g+1) 0 (aM nb);have:=ck hb (g+1) 1 (v2);have:=ck hb g 1 (v1);have:=ck hb (g+1+1) 0 (aM false);have:=ck hb (g+1+1) 1 (aB none 0 0);have l4:=fzk hb (p:=⟨g+1+1,0,none⟩) (by show g+1+1<W.heap.size;omega) (by simp[*]);have l5:=fzk hb (p:=⟨g+1+1,1,none⟩) (by show g+1+1<W.heap.size;omega) (by simp[*])))
 go_wp2;have tK:w'.ownsRow W.heap.size 3 1 (aB (some ⟨gv,0,none⟩) nv cv) nv ((bM PB (N-M)).map iv):=Ld;have Is:aJ W.heap.size W w':=(aI _ W).drew.trans hb;have NE:=dJ tK;have pW:=((OX.out.below Is (by omega)).set 0 (aM nb)).set 1 (aB (some ⟨gv,0,none⟩) nv cv);refine cD (lH MJ _ _ (g+1+1) 181 _ _ _ rfl pW Ie rfl (by kernel_rfl)) rfl ⟨_,_,N-M,rfl,by rw[←Hnb.out,OY (!b) N M (I4 Hle.out),Bool.not_not,Int.add_comm],?_,?_⟩
 ·rw[Hg.out];exact⟨gv,nv,cv,rfl,gN (cX (cX tK (by show gv≠g+1+1;omega) _) (by show gv≠g+1+1;omega) _) (by omega)⟩
 ·rw[Hg.out];exact((hB.trans (Is.mono (by omega))).setCell (p:=⟨g+1+1,0,none⟩) (by show g≤g+1+1;omega) _).setCell (p:=⟨g+1+1,1,none⟩) (by show g≤g+1+1;omega) _
theorem KE(b1 b2:Bool)(v1 v2:bB)(M N:Nat)(w:aE)(h1:nR w v1 PB M)(h2:nR w v2 PB N)(hM:(bM PB M).length≤1000)(hN:(bM PB N).length≤1000):
 aQ aC 149 #[dM #[aM b1,v1],dM #[aM b2,v2]] w fun e w'=>∃(c:Bool)(v:bB)(K:Nat),e=aO (dM #[aM c,v])∧eE c K=eE b1 M+eE b2 N∧mI w' w.heap.size v PB K∧aJ w.heap.size w w':=by
 by_cases h:b1=b2
 ·subst h;exact Pn b1 v1 v2 M N w h1 h2 hM hN
 ·obtain rfl:b2= !b1:=Pa (fun e=>h e.symm);by_cases hle:N≤M
  ·exact Vk b1 v1 v2 M N w h1 h2 hM hN hle
  ·exact Vl b1 v1 v2 M N w h1 h2 hM hN (by omega)
end
section
open Go Go.RowKit Go.Shelf
section
attribute[local go_sem] Oper.semAt_some
theorem Vm(a1:Option Addr)(c1 L d:Nat)(xs:List Nat)(w:aE)(hn1:xs.length=L)(hx:L≤1000)(h1:Rd w a1 xs)(hxl:∀x∈xs,x<PB)(hd:0<d)(MY:d≤999999999):
 aQ aC 258 #[aB a1 L c1,aF aG d] w fun e w'=>∃v u,e=aO (.tuple #[v,u])∧mI w' w.heap.size v PB (bS PB xs/d)∧mI w' w.heap.size u PB (bS PB xs%d)∧aJ w.heap.size w w':=by
 have pI:=zq hn1;clear hn1
 have J5:=zq hxl;clear hxl
 have H1:=zq h1;clear h1
 refine jT func258 rfl ?_
 simp only[ntmps258,List.size_toArray,List.length_cons,List.length_nil,Nat.reduceAdd,Nat.reduceSub,Array.replicate_succ,Array.replicate_zero,List.push_toArray,List.append_toArray,List.nil_append,List.cons_append]
 have z0:=(bZ.new w #[aF aG d] 3).alloc (aL #[aB none 0 0] 179)
 have z1:=bZ.new (w.alloc (aL #[aF aG d] 3)) #[aB none 0 0] 179
 rw[aS]at z1
 have Z0:=zq z0;have Z1:=zq z1
 clear z0 z1
 go_wp2_with (at_make;refine yG rfl _ _ rfl (w.heap.size+2) _ L rfl rfl rfl (by omega) (by simp) ?_;intro w1 eF gH;have zz:=(Z1.out.grown gH (by simp)).cell 0;have zf:=(Z1.out.grown gH (by simp)).fz 0;simp only[bJ,bD]at zz)
 simp only[aS]at eF
 have gG:aJ w.heap.size w w1:=(((aI _ w).alloc (aD _) _).alloc (by simp) _).grown gH (by simp;omega) (fun k hk=>by cases hk)
 have b0:bZ w1 w.heap.size #[aF aG d] 3:=Z0.out.grown gH (by simp)
 have b1:bZ w1 (w.heap.size+1) #[aB none 0 0] 179:=Z1.out.grown gH (by simp)
 have Dx:w.heap.size+1+1<w1.heap.size:=(dJ eF).2.1
 clear gH zz zf Z0 Z1
 refine(callsIn_wide.1 (GC dW 9 trivial rfl _ _ _ _)).mono ?_
 rintro e w'⟨rfl,rfl⟩
 go_wp2_with fail
 generalize hg1:w1.heap.size=g1 at *
 have Hg1:=zq hg1
 obtain⟨W0,iU⟩:∃W0,((w1.setCell ⟨w.heap.size+1,0,none⟩ (aB (some ⟨w.heap.size+2,0,none⟩) L L)).alloc (aL #[aF aG 0] 3)).alloc (aL #[aB a1 L c1] 179)=W0:=⟨_,rfl⟩
 have ER:aJ w.heap.size w1 W0:=by rw[←iU];exact(((aI _ _).setCell (p:=⟨w.heap.size+1,0,none⟩) (by show w.heap.size≤w.heap.size+1;omega) _).alloc (by simp;omega) _).alloc (by simp;omega) _
 have e0:bZ W0 w.heap.size #[aF aG d] 3:=by rw[←iU];exact((b0.other _ (by show w.heap.size≠w.heap.size+1;omega)).alloc _).alloc _
 have e1:bZ W0 (w.heap.size+1) #[aB (some ⟨w.heap.size+2,0,none⟩) L L] 179:=by rw[←iU];exact((b1.set 0 _).alloc _).alloc _
 have e2:bZ W0 g1 #[iv 0] 3:=by
  rw[←iU]
  have:=(bZ.new (w1.setCell ⟨w.heap.size+1,0,none⟩ (aB (some ⟨w.heap.size+2,0,none⟩) L L)) #[iv 0] 3).alloc (aL #[aB a1 L c1] 179)
  rwa[mO,hg1]at this
 have e3:bZ W0 (g1+1) #[aB a1 L c1] 179:=by
  rw[←iU]
  have:=bZ.new ((w1.setCell ⟨w.heap.size+1,0,none⟩ (aB (some ⟨w.heap.size+2,0,none⟩) L L)).alloc (aL #[aF aG 0] 3)) #[aB a1 L c1] 179
  rwa[aS,mO,hg1]at this
 have eo:W0.ownsRow (w.heap.size+2) 3 1 (aB (some ⟨w.heap.size+2,0,none⟩) L L) L ((bY L 0).map iv):=by
  rw[←iU];exact((cX eF (by show w.heap.size+2≠w.heap.size+1;omega) _).alloc _).alloc _
 have Yt:W0.heap.size=g1+2:=by rw[←iU,←hg1];simp
 have fP:aJ w.heap.size w W0:=gG.trans ER
 clear ER eF b0 b1 gG hg1
 rw[iU]
 clear iU
 have hH0:aY ((0:Nat)<d∧(∀x∈bY L 0,x<PB)∧bS PB (xs.drop (L-0))=bS PB ((bY L 0).drop (L-0))*d+0):=
  ⟨hd,fun x hx=>by rw[List.eq_of_mem_replicate hx];decide,by rw[jK (by rw[pI.out];omega),jK (by simp)];simp[bS]⟩
 have Kf:=H1.out.below fP
 refine BH (gf:=289) (lb:= #[.pointer (some ⟨g1+1,0,none⟩)]) rfl (enters_of func289 (by kernel_rfl) rfl)
  (GB dW 8 trivial rfl (by decide) (g1+1) a1 L c1 xs pI.out (by omega) W0 (e3.cell 0) Kf) dA.trans (dA.putObj (CV Kf pI.out (by omega))) (fun _=>rfl)
  (fun k W=>(∃(os:List Nat)(rr:Nat),aY (rr<d∧(∀x∈os,x<PB)∧bS PB (xs.drop (L-k))=bS PB (os.drop (L-k))*d+rr)∧W.ownsRow (w.heap.size+2) 3 1 (aB (some ⟨w.heap.size+2,0,none⟩) L L) L (os.map iv)∧
   bZ W w.heap.size #[aF aG d] 3∧bZ W (w.heap.size+1) #[aB (some ⟨w.heap.size+2,0,none⟩) L L] 179∧bZ W g1 #[iv rr] 3)∧aJ w.heap.size w W)
  (fun _ _ _=>False)
  (tE (Own.from (fun s A B uJ hs hg hr=>by obtain⟨os,u,h1,h2,h3,h4,h5⟩:=hs;exact⟨os,u,h1,tU h2 hg hr,h3.own hg hr,h4.own hg hr,h5.own hg hr⟩) _) (ownFrom_below (aD _) (by omega)))
  (fun c _ _ _ _ hs _ _=>hs)
  ⟨⟨bY L 0,0,hH0,eo,e0,e1,e2⟩,fP⟩
  ?rF ?assign ?body ?done ?stop
 case assign=>
  intro l k W K hK
  gi_wp2
  exact hK
 case body=>
  rintro l k W hk⟨⟨os,rr,hH,hown,hb0,hb1,hb6⟩,hB⟩
  obtain⟨j,hj⟩:∃j,L-1-k=j:=⟨_,rfl⟩
  have Vh:xs.getD j 0≤999999999:=by have:=eJ J5.out (by decide) j;unfold PB at this;omega
  obtain⟨X,hX⟩:∃X,xs.getD j 0=X:=⟨_,rfl⟩
  rw[LD pI.out hj,LH pI.out hj hX]
  rw[hX]at Vh
  have hjL:j<L:=by omega
  have vo:=hH.out.1
  obtain⟨hq1,hq2⟩:(rr*PB+X)/d<PB∧bS PB (xs.drop (L-(k+1)))=bS PB ((os.set j ((rr*PB+X)/d)).drop (L-(k+1)))*d+(rr*PB+X)%d:=by
   have h3:=hH.out.2.2
   rw[show L-k=j+1 by omega]at h3
   rw[show L-(k+1)=j by omega]
   exact⟨Re hd vo (by unfold PB;omega),KX PB xs os j d rr _ (by rw[pI.out];omega) (by have:=iE hown;omega) h3 (by rw[hX])⟩
  have k3:=hb0.cell 0
  have k4:=hb1.cell 0
  have k6:=hb6.cell 0
  have k7:=hb6.fz 0
  have k8:=lL hown hjL
  have k9:=eO hown j
  simp only[bJ,bD]at k3 k4 k6
  generalize os.getD j 0=O at *
  gi_upto_region 7 with fail
  obtain⟨nn,hnn⟩:∃nn:Nat,(X:Int)+(rr:Int)*1000000000=(nn:Int):=⟨rr*PB+X,by unfold PB;omega⟩
  have hn2:rr*PB+X=nn:=by unfold PB;omega
  rw[hnn]
  rw[hn2]at hq1 hq2
  have FH:nn≤999999999999999999:=by omega
  obtain⟨Q,hQ⟩:∃Q,nn/d=Q:=⟨_,rfl⟩
  obtain⟨R,hR⟩:∃R,nn%d=R:=⟨_,rfl⟩
  rw[hQ]at hq1 hq2
  rw[hR]at hq2
  have xy:R<d:=by rw[←hR];exact fW _ hd
  have r1:((nn:Int)).tdiv (d:Int)=(Q:Int):=by rw[Int.tdiv_eq_ediv_of_nonneg (by omega),←hQ];rfl
  have r2:((nn:Int)).tmod (d:Int)=(R:Int):=by rw[Int.tmod_eq_emod_of_nonneg (by omega),←hR];rfl
  have r3:((nn:Int))/(d:Int)=(Q:Int):=by rw[←hQ];rfl
  have r4:((nn:Int))%(d:Int)=(R:Int):=by rw[←hR];rfl
  have hQb:Q<1000000000:=hq1
  have r5:IntKind.i64.wrap (Q:Int)=(Q:Int):=aP _ (by omega)
  have r6:IntKind.i64.wrap (R:Int)=(R:Int):=aP _ (by omega)
  have r7:¬(d:Int)=0:=by omega
  have r7n:¬d=0:=by omega
  have r8:IntKind.i64.wrap (j:Int)=(j:Int):=aP _ (by omega)
  have r9:(0:Int)≤(j:Int):=by omega
  have r10:(j:Int)<(L:Int):=by omega
  have HF:aY (KeepsFrom W0.heap.size W ((W.setCell ⟨w.heap.size+2,j,none⟩ (aF aG (Q:Int))).setCell ⟨g1,0,none⟩ (aF aG (R:Int)))∧dA (JD (g1+1) a1 L) W ((W.setCell ⟨w.heap.size+2,j,none⟩ (aF aG (Q:Int))).setCell ⟨g1,0,none⟩ (aF aG (R:Int)))∧
   (∃(os:List Nat)(rr:Nat),aY (rr<d∧(∀x∈os,x<PB)∧bS PB (xs.drop (L-(k+1)))=bS PB (os.drop (L-(k+1)))*d+rr)∧((W.setCell ⟨w.heap.size+2,j,none⟩ (aF aG (Q:Int))).setCell ⟨g1,0,none⟩ (aF aG (R:Int))).ownsRow (w.heap.size+2) 3 1 (aB (some ⟨w.heap.size+2,0,none⟩) L L) L (os.map iv)∧
    bZ ((W.setCell ⟨w.heap.size+2,j,none⟩ (aF aG (Q:Int))).setCell ⟨g1,0,none⟩ (aF aG (R:Int))) w.heap.size #[aF aG d] 3∧bZ ((W.setCell ⟨w.heap.size+2,j,none⟩ (aF aG (Q:Int))).setCell ⟨g1,0,none⟩ (aF aG (R:Int))) (w.heap.size+1) #[aB (some ⟨w.heap.size+2,0,none⟩) L L] 179∧bZ ((W.setCell ⟨w.heap.size+2,j,none⟩ (aF aG (Q:Int))).setCell ⟨g1,0,none⟩ (aF aG (R:Int))) g1 #[iv rr] 3)∧aJ w.heap.size w ((W.setCell ⟨w.heap.size+2,j,none⟩ (aF aG (Q:Int))).setCell ⟨g1,0,none⟩ (aF aG (R:Int)))):=by
   have lE:∀q,JD (g1+1) a1 L q→q≠w.heap.size+2∧q≠g1:=by
    intro q hq
    rcases hq with rfl|hq
    ·omega
    ·have:=CV H1.out pI.out (Bs:=0) (by obtain⟨b,off,_,hc⟩:=H1.out 0 (by rw[pI.out];omega);have:=World.block_lt_of_cell? w _ hc;omega) q (.inr hq)
     omega
   refine⟨((cE _ _ _).from _).trans ((cE _ _ _).from _),dA.trans (dA.setCell (fun q hq=>(lE q hq).1) _) (dA.setCell (fun q hq=>(lE q hq).2) _),⟨os.set j Q,R,⟨xy,yC hH.out.2.1 hq1,hq2⟩,?_,?_,?_,?_⟩,?_⟩
   ·exact cX (tJ hown j Q) (by show w.heap.size+2≠g1;omega) _
   ·exact(hb0.other _ (by show w.heap.size≠w.heap.size+2;omega)).other _ (by show w.heap.size≠g1;omega)
   ·exact(hb1.other _ (by show w.heap.size+1≠w.heap.size+2;omega)).other _ (by show w.heap.size+1≠g1;omega)
   ·exact(hb6.other _ (by show g1≠w.heap.size+2;omega)).set 0 _
   ·exact(hB.setCell (p:=⟨w.heap.size+2,j,none⟩) (by show w.heap.size≤w.heap.size+2;omega) _).setCell (p:=⟨g1,0,none⟩) (by show w.heap.size≤g1;omega) _
  have Hj:=zq hj
  clear hj hX hH hq1 hq2 hnn hn2 hQ hR hown hb0 hb1 hb6 hB
  refine xJ (by kernel_rfl) (by kernel_rfl) ?_
  refine tI 1 rfl ?_
  refine tI 2 rfl ?_
  refine tI 5 rfl ?_
  refine eI 0 [3,6] rfl (fun K hK=>?_) ?_
  ·go_simp
   refine hK _ _ ?_
   clear hK K
   refine eI 3 [6] rfl (fun K hK=>?_) ?_
   ·go_simp
    refine hK _ _ ?_
    clear hK K
    refine tI 4 rfl ?_
    refine tI 8 rfl ?_
    refine eI 6 [9] rfl (fun K hK=>?_) ?_
    ·go_simp
     refine hK _ _ ?_
     clear hK K
     refine tI 7 rfl ?_
     refine eI 9 [] rfl (fun K hK=>?_) ?_
     ·go_simp
      refine hK _ _ ?_
      clear hK K
      refine eI 10 [] rfl (fun K hK=>?_) ?_
      ·go_simp
       refine hK _ _ ?_
       clear hK K
       refine eK (by kernel_rfl) ?_ _
       gi_wp2
       exact⟨⟨HF.out.1.size,HF.out.1.same⟩,HF.out.2.1,HF.out.2.2.1,bH HF.out.2.2.2 1⟩
      exact aR
     exact aR
    refine dV rfl (fun K hK=>?_) ?_
    ·go_simp
     refine hK _ _ ?_
     clear hK K
     refine eI 6 [] rfl (fun K hK=>?_) ?_
     ·go_simp
      refine hK _ _ ?_
      clear hK K
      refine tI 7 rfl ?_
      refine eI 10 [] rfl (fun K hK=>?_) ?_
      ·go_simp
       refine hK _ _ ?_
       clear hK K
       refine eK (by kernel_rfl) ?_ _
       gi_wp2
       exact⟨⟨HF.out.1.size,HF.out.1.same⟩,HF.out.2.1,HF.out.2.2.1,bH HF.out.2.2.2 1⟩
      exact aR
     exact aR
    exact aR
   refine dV rfl (fun K hK=>?_) ?_
   ·go_simp
    refine hK _ _ ?_
    clear hK K
    refine tI 7 rfl ?_
    refine eI 3 [] rfl (fun K hK=>?_) ?_
    ·go_simp
     refine hK _ _ ?_
     clear hK K
     refine tI 4 rfl ?_
     refine tI 8 rfl ?_
     refine eI 9 [] rfl (fun K hK=>?_) ?_
     ·go_simp
      refine hK _ _ ?_
      clear hK K
      refine eI 10 [] rfl (fun K hK=>?_) ?_
      ·go_simp
       refine hK _ _ ?_
       clear hK K
       refine eK (by kernel_rfl) ?_ _
       gi_wp2
       exact⟨⟨HF.out.1.size,HF.out.1.same⟩,HF.out.2.1,HF.out.2.2.1,bH HF.out.2.2.2 1⟩
      exact aR
     exact aR
    exact aR
   exact aR
  refine dV rfl (fun K hK=>?_) ?_
  ·go_simp
   refine hK _ _ ?_
   clear hK K
   refine tI 4 rfl ?_
   refine eI 0 [6] rfl (fun K hK=>?_) ?_
   ·go_simp
    refine hK _ _ ?_
    clear hK K
    refine tI 8 rfl ?_
    refine eI 6 [9] rfl (fun K hK=>?_) ?_
    ·go_simp
     refine hK _ _ ?_
     clear hK K
     refine tI 7 rfl ?_
     refine eI 9 [] rfl (fun K hK=>?_) ?_
     ·go_simp
      refine hK _ _ ?_
      clear hK K
      refine eI 10 [] rfl (fun K hK=>?_) ?_
      ·go_simp
       refine hK _ _ ?_
       clear hK K
       refine eK (by kernel_rfl) ?_ _
       gi_wp2
       exact⟨⟨HF.out.1.size,HF.out.1.same⟩,HF.out.2.1,HF.out.2.2.1,bH HF.out.2.2.2 1⟩
      exact aR
     exact aR
    refine dV rfl (fun K hK=>?_) ?_
    ·go_simp
     refine hK _ _ ?_
     clear hK K
     refine eI 6 [] rfl (fun K hK=>?_) ?_
     ·go_simp
      refine hK _ _ ?_
      clear hK K
      refine tI 7 rfl ?_
      refine eI 10 [] rfl (fun K hK=>?_) ?_
      ·go_simp
       refine hK _ _ ?_
       clear hK K
       refine eK (by kernel_rfl) ?_ _
       gi_wp2
       exact⟨⟨HF.out.1.size,HF.out.1.same⟩,HF.out.2.1,HF.out.2.2.1,bH HF.out.2.2.2 1⟩
      exact aR
     exact aR
    exact aR
   refine dV rfl (fun K hK=>?_) ?_
   ·go_simp
    refine hK _ _ ?_
    clear hK K
    refine tI 7 rfl ?_
    refine eI 0 [] rfl (fun K hK=>?_) ?_
    ·go_simp
     refine hK _ _ ?_
     clear hK K
     refine tI 8 rfl ?_
     refine eI 9 [] rfl (fun K hK=>?_) ?_
     ·go_simp
      refine hK _ _ ?_
      clear hK K
      refine eI 10 [] rfl (fun K hK=>?_) ?_
      ·go_simp
       refine hK _ _ ?_
       clear hK K
       refine eK (by kernel_rfl) ?_ _
       gi_wp2
       exact⟨⟨HF.out.1.size,HF.out.1.same⟩,HF.out.2.1,HF.out.2.2.1,bH HF.out.2.2.2 1⟩
      exact aR
     exact aR
    exact aR
   exact aR
  refine dV rfl (fun K hK=>?_) ?_
  ·go_simp
   refine hK _ _ ?_
   clear hK K
   refine tI 7 rfl ?_
   refine eI 0 [3] rfl (fun K hK=>?_) ?_
   ·go_simp
    refine hK _ _ ?_
    clear hK K
    refine eI 3 [] rfl (fun K hK=>?_) ?_
    ·go_simp
     refine hK _ _ ?_
     clear hK K
     refine tI 4 rfl ?_
     refine tI 8 rfl ?_
     refine eI 9 [] rfl (fun K hK=>?_) ?_
     ·go_simp
      refine hK _ _ ?_
      clear hK K
      refine eI 10 [] rfl (fun K hK=>?_) ?_
      ·go_simp
       refine hK _ _ ?_
       clear hK K
       refine eK (by kernel_rfl) ?_ _
       gi_wp2
       exact⟨⟨HF.out.1.size,HF.out.1.same⟩,HF.out.2.1,HF.out.2.2.1,bH HF.out.2.2.2 1⟩
      exact aR
     exact aR
    exact aR
   refine dV rfl (fun K hK=>?_) ?_
   ·go_simp
    refine hK _ _ ?_
    clear hK K
    refine tI 4 rfl ?_
    refine eI 0 [] rfl (fun K hK=>?_) ?_
    ·go_simp
     refine hK _ _ ?_
     clear hK K
     refine tI 8 rfl ?_
     refine eI 9 [] rfl (fun K hK=>?_) ?_
     ·go_simp
      refine hK _ _ ?_
      clear hK K
      refine eI 10 [] rfl (fun K hK=>?_) ?_
      ·go_simp
       refine hK _ _ ?_
       clear hK K
       refine eK (by kernel_rfl) ?_ _
       gi_wp2
       exact⟨⟨HF.out.1.size,HF.out.1.same⟩,HF.out.2.1,HF.out.2.2.1,bH HF.out.2.2.2 1⟩
      exact aR
     exact aR
    exact aR
   exact aR
  exact aR
 case done=>
  rintro D W hD⟨⟨os,rr,hH,hown,hb0,hb1,hb6⟩,hB⟩hK
  obtain⟨vo,hlt,hv⟩:=hH.out
  rw[Nat.sub_self,H4,H4]at hv
  obtain⟨p1,p2⟩:=OT vo hv
  have tk:=iE hown
  have hs:=hB.size
  have hownA:=hown
  have t1:=jF cR hown tk hlt p1.symm.symm
  have UR:(W.drew.alloc (aL #[iv rr] 3)).ownsRow w.heap.size 3 1 (aB (some ⟨W.heap.size,0,none⟩) 1 1) 1 ([rr].map iv):=by
   have:=jJ W.drew (base:=w.heap.size) (e:=3) (size:=1) #[iv rr] 1 hs (by simp[cA]) rfl
   exact this
  have t2:=jF cR UR (os:=[rr]) rfl (by simp;unfold PB;omega) (show bS PB [rr]=bS PB xs%d by simp[bS];exact p2)
  have rA:Rd W (some ⟨w.heap.size+2,0,none⟩) os:=Rd.own hown
  have rB:=Rd.own UR
  obtain⟨T,hT⟩:∃T,(jS os).length=T:=⟨_,rfl⟩
  obtain⟨T2,Xj⟩:∃T2,(jS [rr]).length=T2:=⟨_,rfl⟩
  rw[hT]at t1
  rw[Xj]at t2
  have tA:aY (∀W',aJ W.heap.size W W'→aQ aC 202 #[aB (some ⟨w.heap.size+2,0,none⟩) L L] W' fun e w'=>e=aO (aB (some ⟨w.heap.size+2,0,none⟩) T L)∧W'=w'):=by
   intro W' hW'
   have:=vS (some ⟨w.heap.size+2,0,none⟩) L L os W' tk (aD _) (by simp only[cA];omega) (rA.below hW')
   rwa[hT]at this
  have tB:aY (aQ aC 202 #[aB (some ⟨W.heap.size,0,none⟩) 1 1] (W.alloc (aL #[iv rr] 3)).drew fun e w'=>e=aO (aB (some ⟨W.heap.size,0,none⟩) T2 1)∧(W.alloc (aL #[iv rr] 3)).drew=w'):=by
   have:=vS (some ⟨W.heap.size,0,none⟩) 1 1 [rr] (W.drew.alloc (aL #[iv rr] 3)) rfl (aD _) (by simp[cA]) rB
   rwa[Xj]at this
  have k1:=hb1.cell 0
  have k2:=hb1.fz 0
  have k6:=hb6.cell 0
  simp only[bJ,bD]at k1 k6
  have l1:=hb1.lt
  have l6:=hb6.lt
  obtain⟨U,hU⟩:∃U,(W.setCell ⟨w.heap.size+1,0,none⟩ (aB (some ⟨w.heap.size+2,0,none⟩) T L)).alloc (aL #[iv rr] 3)=U:=⟨_,rfl⟩
  have hlA:=(dJ hown).2.1
  have u1:bZ U (w.heap.size+1) #[aB (some ⟨w.heap.size+2,0,none⟩) T L] 179:=by rw[←hU];exact(hb1.set 0 _).alloc _
  have u2:mI U w.heap.size (aB (some ⟨w.heap.size+2,0,none⟩) T L) PB (bS PB xs/d):=by
   rw[←hU]
   obtain⟨g,n,cap,e,h⟩:=t1
   injection e with e1 e2 e3
   injection e1 with e1;injection e1 with e1
   subst e1 e2 e3
   exact⟨_,_,_,rfl,gN ((cX h (by show w.heap.size+2≠w.heap.size+1;omega) _).alloc _) (by omega)⟩
  have u3:mI U w.heap.size (aB (some ⟨W.heap.size,0,none⟩) T2 1) PB (bS PB xs%d):=by
   rw[←hU]
   have hnew3:((W.setCell ⟨w.heap.size+1,0,none⟩ (aB (some ⟨w.heap.size+2,0,none⟩) T L)).alloc (aL #[iv rr] 3)).ownsRow w.heap.size 3 1 (aB (some ⟨W.heap.size,0,none⟩) 1 1) 1 ([rr].map iv):=by
    have:=jJ (W.setCell ⟨w.heap.size+1,0,none⟩ (aB (some ⟨w.heap.size+2,0,none⟩) T L)) (base:=w.heap.size) (e:=3) (size:=1) #[iv rr] 1 (by simpa using hs) (by simp[cA]) rfl
    rwa[mO]at this
   have t3:=jF cR hnew3 (os:=[rr]) rfl (by simp;unfold PB;omega) (show bS PB [rr]=bS PB xs%d by simp[bS];exact p2)
   rwa[Xj]at t3
  have uK:U.heap[D]? =some (.deferred (some [])):=by rw[←hU];exact(KeepsOthers.alloc _ _).same D _ ((cE W _ _).same D _ hK rfl) rfl
  have uB:aJ w.heap.size w U:=by rw[←hU];exact(hB.setCell (p:=⟨w.heap.size+1,0,none⟩) (by show w.heap.size≤w.heap.size+1;omega) _).alloc (by simpa using hs) _
  have HU:=zq hU
  clear hU t1 t2 rA rB UR hownA hown hb0 hb1 hb6 hB hK hH hlt hv p1 p2 tk hT Xj
  go_wp2
  refine CW (by kernel_rfl) ?_
  refine eI 0 [2] rfl (fun K hK=>?_) ?_
  ·go_simp
   refine hK _ _ ?_
   clear hK K
   refine eI 1 [2] rfl (fun K hK=>?_) ?_
   ·go_simp
    refine⟨trivial,callsIn_wide.2 ((tA.out _ ?_).mono ?_)⟩
    ·first |exact(aI _ W).drew|exact((aI _ W).alloc (aD _) _).drew
    rintro e w'⟨rfl,rfl⟩
    refine hK _ _ ?_
    clear hK K
    refine eI 2 [] rfl (fun K hK=>?_) ?_
    ·go_simp
     refine hK _ _ ?_
     clear hK K
     refine eI 3 [] rfl (fun K hK=>?_) ?_
     ·go_simp
      refine hK _ _ ?_
      clear hK K
      refine eI 4 [] rfl (fun K hK=>?_) ?_
      ·go_simp
       refine⟨trivial,callsIn_wide.2 (tB.out.mono ?_)⟩
       rintro e w'⟨rfl,rfl⟩
       refine hK _ _ ?_
       clear hK K
       refine eI 5 [] rfl (fun K hK=>?_) ?_
       ·go_simp
        refine hK _ _ ?_
        clear hK K
        refine eI 6 [] rfl (fun K hK=>?_) ?_
        ·go_simp
         refine hK _ _ ?_
         clear hK K
         refine eK (by kernel_rfl) ?_ _
         go_wp2
         obtain rfl:=HU.out
         refine⟨by simp,.inl ⟨_,_,rfl,gE uK,?_⟩⟩
         refine⟨_,gI sU _ _ (w.heap.size+1) _ rfl ((u1.putObj _ uK rfl).cell 0) (tC _),_,_,rfl,u2.putObj _ uK rfl,u3.putObj _ uK rfl,?_⟩
         refine iD (show aJ w.heap.size w (Ci _)from bH uB 1) ?_
         exact EL (w:=w) (aD _) _ D _ _ (by omega) uK rfl rfl
        exact aR
       exact aR
      exact aR
     exact aR
    exact aR
   refine dV rfl (fun K hK=>?_) ?_
   ·go_simp
    refine hK _ _ ?_
    clear hK K
    refine eI 1 [3] rfl (fun K hK=>?_) ?_
    ·go_simp
     refine⟨trivial,callsIn_wide.2 ((tA.out _ ?_).mono ?_)⟩
     ·first |exact(aI _ W).drew|exact((aI _ W).alloc (aD _) _).drew
     rintro e w'⟨rfl,rfl⟩
     refine hK _ _ ?_
     clear hK K
     refine eI 3 [] rfl (fun K hK=>?_) ?_
     ·go_simp
      refine hK _ _ ?_
      clear hK K
      refine eI 4 [] rfl (fun K hK=>?_) ?_
      ·go_simp
       refine⟨trivial,callsIn_wide.2 (tB.out.mono ?_)⟩
       rintro e w'⟨rfl,rfl⟩
       refine hK _ _ ?_
       clear hK K
       refine eI 5 [] rfl (fun K hK=>?_) ?_
       ·go_simp
        refine hK _ _ ?_
        clear hK K
        refine eI 6 [] rfl (fun K hK=>?_) ?_
        ·go_simp
         refine hK _ _ ?_
         clear hK K
         refine eK (by kernel_rfl) ?_ _
         go_wp2
         obtain rfl:=HU.out
         refine⟨by simp,.inl ⟨_,_,rfl,gE uK,?_⟩⟩
         refine⟨_,gI sU _ _ (w.heap.size+1) _ rfl ((u1.putObj _ uK rfl).cell 0) (tC _),_,_,rfl,u2.putObj _ uK rfl,u3.putObj _ uK rfl,?_⟩
         refine iD (show aJ w.heap.size w (Ci _)from bH uB 1) ?_
         exact EL (w:=w) (aD _) _ D _ _ (by omega) uK rfl rfl
        exact aR
       exact aR
      exact aR
     exact aR
    refine dV rfl (fun K hK=>?_) ?_
    ·go_simp
     refine hK _ _ ?_
     clear hK K
     refine eI 1 [] rfl (fun K hK=>?_) ?_
     ·go_simp
      refine⟨trivial,callsIn_wide.2 ((tA.out _ ?_).mono ?_)⟩
      ·first |exact(aI _ W).drew|exact((aI _ W).alloc (aD _) _).drew
      rintro e w'⟨rfl,rfl⟩
      refine hK _ _ ?_
      clear hK K
      refine eI 4 [] rfl (fun K hK=>?_) ?_
      ·go_simp
       refine⟨trivial,callsIn_wide.2 (tB.out.mono ?_)⟩
       rintro e w'⟨rfl,rfl⟩
       refine hK _ _ ?_
       clear hK K
       refine eI 5 [] rfl (fun K hK=>?_) ?_
       ·go_simp
        refine hK _ _ ?_
        clear hK K
        refine eI 6 [] rfl (fun K hK=>?_) ?_
        ·go_simp
         refine hK _ _ ?_
         clear hK K
         refine eK (by kernel_rfl) ?_ _
         go_wp2
         obtain rfl:=HU.out
         refine⟨by simp,.inl ⟨_,_,rfl,gE uK,?_⟩⟩
         refine⟨_,gI sU _ _ (w.heap.size+1) _ rfl ((u1.putObj _ uK rfl).cell 0) (tC _),_,_,rfl,u2.putObj _ uK rfl,u3.putObj _ uK rfl,?_⟩
         refine iD (show aJ w.heap.size w (Ci _)from bH uB 1) ?_
         exact EL (w:=w) (aD _) _ D _ _ (by omega) uK rfl rfl
        exact aR
       exact aR
      exact aR
     exact aR
    exact aR
   exact aR
  refine dV rfl (fun K hK=>?_) ?_
  ·go_simp
   refine hK _ _ ?_
   clear hK K
   refine eI 0 [3] rfl (fun K hK=>?_) ?_
   ·go_simp
    refine hK _ _ ?_
    clear hK K
    refine eI 1 [3] rfl (fun K hK=>?_) ?_
    ·go_simp
     refine⟨trivial,callsIn_wide.2 ((tA.out _ ?_).mono ?_)⟩
     ·first |exact(aI _ W).drew|exact((aI _ W).alloc (aD _) _).drew
     rintro e w'⟨rfl,rfl⟩
     refine hK _ _ ?_
     clear hK K
     refine eI 3 [] rfl (fun K hK=>?_) ?_
     ·go_simp
      refine hK _ _ ?_
      clear hK K
      refine eI 4 [] rfl (fun K hK=>?_) ?_
      ·go_simp
       refine⟨trivial,callsIn_wide.2 (tB.out.mono ?_)⟩
       rintro e w'⟨rfl,rfl⟩
       refine hK _ _ ?_
       clear hK K
       refine eI 5 [] rfl (fun K hK=>?_) ?_
       ·go_simp
        refine hK _ _ ?_
        clear hK K
        refine eI 6 [] rfl (fun K hK=>?_) ?_
        ·go_simp
         refine hK _ _ ?_
         clear hK K
         refine eK (by kernel_rfl) ?_ _
         go_wp2
         obtain rfl:=HU.out
         refine⟨by simp,.inl ⟨_,_,rfl,gE uK,?_⟩⟩
         refine⟨_,gI sU _ _ (w.heap.size+1) _ rfl ((u1.putObj _ uK rfl).cell 0) (tC _),_,_,rfl,u2.putObj _ uK rfl,u3.putObj _ uK rfl,?_⟩
         refine iD (show aJ w.heap.size w (Ci _)from bH uB 1) ?_
         exact EL (w:=w) (aD _) _ D _ _ (by omega) uK rfl rfl
        exact aR
       exact aR
      exact aR
     exact aR
    refine dV rfl (fun K hK=>?_) ?_
    ·go_simp
     refine hK _ _ ?_
     clear hK K
     refine eI 1 [] rfl (fun K hK=>?_) ?_
     ·go_simp
      refine⟨trivial,callsIn_wide.2 ((tA.out _ ?_).mono ?_)⟩
      ·first |exact(aI _ W).drew|exact((aI _ W).alloc (aD _) _).drew
      rintro e w'⟨rfl,rfl⟩
      refine hK _ _ ?_
      clear hK K
      refine eI 4 [] rfl (fun K hK=>?_) ?_
      ·go_simp
       refine⟨trivial,callsIn_wide.2 (tB.out.mono ?_)⟩
       rintro e w'⟨rfl,rfl⟩
       refine hK _ _ ?_
       clear hK K
       refine eI 5 [] rfl (fun K hK=>?_) ?_
       ·go_simp
        refine hK _ _ ?_
        clear hK K
        refine eI 6 [] rfl (fun K hK=>?_) ?_
        ·go_simp
         refine hK _ _ ?_
         clear hK K
         refine eK (by kernel_rfl) ?_ _
         go_wp2
         obtain rfl:=HU.out
         refine⟨by simp,.inl ⟨_,_,rfl,gE uK,?_⟩⟩
         refine⟨_,gI sU _ _ (w.heap.size+1) _ rfl ((u1.putObj _ uK rfl).cell 0) (tC _),_,_,rfl,u2.putObj _ uK rfl,u3.putObj _ uK rfl,?_⟩
         refine iD (show aJ w.heap.size w (Ci _)from bH uB 1) ?_
         exact EL (w:=w) (aD _) _ D _ _ (by omega) uK rfl rfl
        exact aR
       exact aR
      exact aR
     exact aR
    exact aR
   refine dV rfl (fun K hK=>?_) ?_
   ·go_simp
    refine hK _ _ ?_
    clear hK K
    refine eI 0 [] rfl (fun K hK=>?_) ?_
    ·go_simp
     refine hK _ _ ?_
     clear hK K
     refine eI 1 [] rfl (fun K hK=>?_) ?_
     ·go_simp
      refine⟨trivial,callsIn_wide.2 ((tA.out _ ?_).mono ?_)⟩
      ·first |exact(aI _ W).drew|exact((aI _ W).alloc (aD _) _).drew
      rintro e w'⟨rfl,rfl⟩
      refine hK _ _ ?_
      clear hK K
      refine eI 4 [] rfl (fun K hK=>?_) ?_
      ·go_simp
       refine⟨trivial,callsIn_wide.2 (tB.out.mono ?_)⟩
       rintro e w'⟨rfl,rfl⟩
       refine hK _ _ ?_
       clear hK K
       refine eI 5 [] rfl (fun K hK=>?_) ?_
       ·go_simp
        refine hK _ _ ?_
        clear hK K
        refine eI 6 [] rfl (fun K hK=>?_) ?_
        ·go_simp
         refine hK _ _ ?_
         clear hK K
         refine eK (by kernel_rfl) ?_ _
         go_wp2
         obtain rfl:=HU.out
         refine⟨by simp,.inl ⟨_,_,rfl,gE uK,?_⟩⟩
         refine⟨_,gI sU _ _ (w.heap.size+1) _ rfl ((u1.putObj _ uK rfl).cell 0) (tC _),_,_,rfl,u2.putObj _ uK rfl,u3.putObj _ uK rfl,?_⟩
         refine iD (show aJ w.heap.size w (Ci _)from bH uB 1) ?_
         exact EL (w:=w) (aD _) _ D _ _ (by omega) uK rfl rfl
        exact aR
       exact aR
      exact aR
     exact aR
    exact aR
   exact aR
  exact aR
 case stop=>
  intro D c k W _ _ h _
  exact h.elim
end
end
section
open Go Go.RowKit
theorem N3(v1:bB)(M d:Nat)(w:aE)(h1:nR w v1 PB M)(hM:(bM PB M).length≤1000)(hd:0<d)(MY:d<PB):
 aQ aC 258 #[v1,aF aG d] w fun e w'=>∃v u,e=aO (.tuple #[v,u])∧mI w' w.heap.size v PB (M/d)∧mI w' w.heap.size u PB (M%d)∧aJ w.heap.size w w':=by
 obtain⟨a1,n1,c1,rfl,q1,_,_,_,q5⟩:=h1;have:=Vm a1 c1 n1 d _ w q1 (by omega) q5 (eA cR M) hd (by unfold PB at MY;omega);rwa[cY cR]at this
def oE(g:Nat)(w w':aE):Prop:=aJ g w w'∧(∀k,k≠g→w'.heap[k]? =w.heap[k]?)∧w'.heap.size=w.heap.size
theorem oE.refl(g:Nat)(w:aE):oE g w w:=⟨aI _ _,fun _ _=>rfl,rfl⟩
theorem oE.trans{g:Nat}{a b c:aE}(h:oE g a b)(k:oE g b c):oE g a c:=⟨h.1.trans k.1,fun i hi=>(k.2.1 i hi).trans (h.2.1 i hi),k.2.2.trans h.2.2⟩
theorem oE.drewN{g:Nat}{a b:aE}(h:oE g a b)(n:Nat):oE g a (b.drewN n):=⟨bH h.1 n,h.2.1,h.2.2⟩
theorem oE.set{g:Nat}{a b:aE}(h:oE g a b)(j:Nat)(v:bB):oE g a (b.setCell ⟨g,j,none⟩ v):=
 ⟨h.1.setCell (p:=⟨g,j,none⟩) (aD _) v,fun k hk=>(heap_setCell_other b ⟨g,j,none⟩ k v hk).trans (h.2.1 k hk),by rw[mO];exact h.2.2⟩
theorem Rd.but{g:Nat}{w w':aE}{a:Option Addr}{xs:List Nat}(h:Rd w a xs)(hb:oE g w w')(lE:∀p,a=some p→p.block≠g):Rd w' a xs:=by
 intro i hi;obtain⟨b,off,rfl,hc⟩:=h i hi;exact⟨b,off,rfl,(World.cell?_of_block (hb.2.1 b (lE _ rfl))).trans hc⟩
theorem Ss(g nu cap:Nat)(a2:Option Addr)(c2 n2 j q base:Nat)(FI ys:List Nat)(w:aE)(hown:w.ownsRow base 3 1 (aB (some ⟨g,0,none⟩) nu cap) nu (FI.map iv))(M7:∀x∈FI,x<PB)
 (hn2:ys.length=n2)(hy:n2≤1000)(bn:nu≤3000)(h2:Rd w a2 ys)(Ct:∀y∈ys,y<PB)(hj:j+n2+1≤nu)(hq:q≤999999999)(lE:∀p,a2=some p→p.block≠g):
 aQ aC 261 #[aB (some ⟨g,0,none⟩) nu cap,aB a2 n2 c2,aF aG j,aF aG q] w fun e w'=>e=aO (aB (some ⟨g,0,none⟩) nu cap)∧oE g w w'∧
  ∃(os:List Nat)(cc:Nat),w'.ownsRow base 3 1 (aB (some ⟨g,0,none⟩) nu cap) nu (os.map iv)∧(∀x∈os,x<PB)∧(∀i,j+n2+1≤i→os.getD i 0=FI.getD i 0)∧bS PB os+cc*PB^(j+(n2+1))=bS PB FI+q*bS PB ys*PB^j:=by
 have qE:=zq hn2;clear hn2;have Rh:=zq Ct;clear Ct;have H2:=zq h2;clear h2;have WL:=zq lE;clear lE;have HO0:aY (∃os:List Nat,w.ownsRow base 3 1 (aB (some ⟨g,0,none⟩) nu cap) nu (os.map iv)∧(∀x∈os,x<PB)∧(∀i,j+n2+1≤i→os.getD i 0=FI.getD i 0)∧bS PB os+0*PB^(j+0)=bS PB FI+q*bS PB (ys.take 0)*PB^j):=
  ⟨FI,hown,M7,fun _ _=>rfl,by simp[bS]⟩
 clear hown M7;go_enter func261,ntmps261;go_wp2;go_loopw[9,15] (fun c i' wr=>∃(k cc:Nat),i'=aF aG k∧c=aF aG cc∧cc≤999999999∧k≤n2+1∧oE g w wr∧
  aY (∃os:List Nat,wr.ownsRow base 3 1 (aB (some ⟨g,0,none⟩) nu cap) nu (os.map iv)∧(∀x∈os,x<PB)∧(∀i,j+n2+1≤i→os.getD i 0=FI.getD i 0)∧bS PB os+cc*PB^(j+k)=bS PB FI+q*bS PB (ys.take k)*PB^j))
  (fun _ i' _=>2000-(aK i').toNat)
 case atStart=>exact⟨0,0,rfl,rfl,by omega,by omega,oE.refl _ _,HO0⟩
 clear HO0;case round=>
  obtain⟨k,cc,rfl,rfl,hcc,hk,hB,hO⟩:=hrel;by_cases hgo:k<n2+1
  ·have Rm:k≤n2:=by omega
   have YS:(k:Int)<(n2:Int)+1:=by omega
   obtain⟨os,o1,o2,o4,o3⟩:=hO.out;clear hO;have hO0:os.getD (j+k) 0≤999999999:=by have:=eJ o2 (by decide) (j+k);unfold PB at this;omega
   have hY:ys.getD k 0≤999999999:=by have:=eJ Rh.out (by decide) k;unfold PB at this;omega
   have hco:=lL o1 (show j+k<nu by omega);have tG:=fun nq=>yE a2 c2 n2 k ys (wr.drewN nq) qE.out (H2.out.but (hB.drewN nq) WL.out) (by omega);simp only[gX]at tG;have Ep:=zq tG;clear tG;have hfz:=eO o1 (j+k);generalize In:os.getD (j+k) 0=O at *;have Rn:=zq In;clear In;generalize Eo:ys.getD k 0=Y at *;have Jp:=zq Eo;clear Eo;have hp:=Kz q Y (H7 hq hY);obtain⟨hp1,Up⟩:=hp;have J6:=zq o1;clear o1;have Rq:=zq o2;clear o2;have Ho3:=zq o3;clear o3;have Ho4:=zq o4;clear o4;have e1:IntKind.i64.wrap ((j:Int)+k)=(j:Int)+k:=by(first |exact aP _ (by omega))
   have e2:(0:Int)≤(j:Int)+k:=by omega
   have e3:((j:Int)+k).toNat=j+k:=by omega
   have e4:IntKind.i64.wrap ((q:Int)*Y)=(q:Int)*Y:=by(first |exact aP _ (by omega))
   have e5:IntKind.i64.wrap ((O:Int)+(q:Int)*Y)=(O:Int)+(q:Int)*Y:=by(first |exact aP _ (by omega))
   have e6:IntKind.i64.wrap ((O:Int)+(q:Int)*Y+cc)=(O:Int)+(q:Int)*Y+cc:=by(first |exact aP _ (by omega))
   go_wp2;go_quiet ((go_at_call 204;exact Wn ((Ep.out _).mono fun e w'⟨h1,h2⟩=>⟨h1,h2.symm⟩)))
   clear e1 e2 e3 e4 e5 e6;have EQ:(0:Int)≤(O:Int)+(q:Int)*Y+cc:=by omega
   have Rr:(O:Int)+(q:Int)*Y+cc≤999999999999999999:=by omega
   generalize hS:(O:Int)+(q:Int)*Y+cc=S at *;have hSn:S=((O+q*Y+cc:Nat):Int):=by rw[←hS];simp
   have HS:=zq hSn;clear hSn hS;have f1':IntKind.i64.wrap ((j:Int)+k)=(j:Int)+k:=by(first |exact aP _ (by omega))
   clear hp1 Up;go_wp2;go_roundw;case rel=>
    have ev:aF aG (S%1000000000)=iv ((O+q*Y+cc)%PB):=by unfold iv;rw[HS.out];unfold PB;congr 1
    have ed:(S/1000000000)=(((O+q*Y+cc)/PB:Nat):Int):=by rw[HS.out];unfold PB;omega
    have pU:=EP PB os ys j k cc q (O+q*Y+cc) _ (by rw[iE J6.out];omega) Ho3.out (by rw[Rn.out,Jp.out]);have hdl:(O+q*Y+cc)/PB≤999999999:=by rw[HS.out]at Rr;unfold PB;omega
    refine⟨k+1,(O+q*Y+cc)/PB,by go_num,by rw[ed],hdl,by omega,(hB.drewN _).set _ _,os.set (j+k) ((O+q*Y+cc)%PB),?_,yC Rq.out (fW _ (by decide)),fun i hi=>(yB _ _ _ _ (by omega)).trans (Ho4.out i hi),pU⟩;rw[ev];exact tJ J6.out (j+k) _
   case measure=>simp only[aK];omega
  ·have hge:¬(k:Int)<(n2:Int)+1:=by omega
   obtain rfl:k=n2+1:=by omega
   obtain⟨os,o1,o2,o4,o3⟩:=hO.out;have pW:aY (∃(os:List Nat)(cc:Nat),wr.ownsRow base 3 1 (aB (some ⟨g,0,none⟩) nu cap) nu (os.map iv)∧(∀x∈os,x<PB)∧(∀i,j+n2+1≤i→os.getD i 0=FI.getD i 0)∧bS PB os+cc*PB^(j+(n2+1))=bS PB FI+q*bS PB ys*PB^j):=
    ⟨os,cc,o1,o2,o4,by rw[o3,fQ PB ys _ (by rw[qE.out];omega)]⟩
   clear hO o1 o2 o3 o4;go_wp2;go_ret;obtain⟨os,c3,h1,h2,h3⟩:=pW.out;exact⟨rfl,hB,os,h1,h2,h3.1,c3,h3.2⟩
theorem N4(B:Nat)(os ys:List Nat)(j k c c' q O o' T:Nat)(hi:j+k<os.length)
 (h:bS B os+q*bS B (ys.take k)*B^j=T+c*B^(j+k))(hO:os.getD (j+k) 0=O)(ho:o'+c+q*ys.getD k 0=O+c'*B):
 bS B (os.set (j+k) o')+q*bS B (ys.take (k+1))*B^j=T+c'*B^(j+(k+1)):=by
 have h1:=FV B os (j+k) o' hi;rw[hO]at h1;rw[gV,fY,Nat.add_mul];have e1:q*(B^k*ys.getD k 0)*B^j=B^(j+k)*(q*ys.getD k 0):=by
  rw[Nat.pow_add];ac_rfl
 have e2:c'*B^(j+(k+1))=B^(j+k)*(c'*B):=by
  rw[←Nat.add_assoc,Nat.pow_succ];ac_rfl
 have e3:c*B^(j+k)=B^(j+k)*c:=Nat.mul_comm _ _;rw[e1,e2];rw[e3]at h;have e4:=congrArg (B^(j+k)*·) ho;simp only[fY]at e4;omega
theorem iq(g nu cap:Nat)(a2:Option Addr)(c2 n2 j q base:Nat)(FI ys:List Nat)(w:aE)(hown:w.ownsRow base 3 1 (aB (some ⟨g,0,none⟩) nu cap) nu (FI.map iv))(M7:∀x∈FI,x<PB)
 (hn2:ys.length=n2)(hy:n2≤1000)(bn:nu≤3000)(h2:Rd w a2 ys)(Ct:∀y∈ys,y<PB)(hj:j+n2+1≤nu)(hq:q≤999999999)(lE:∀p,a2=some p→p.block≠g):
 aQ aC 260 #[aB (some ⟨g,0,none⟩) nu cap,aB a2 n2 c2,aF aG j,aF aG q] w fun e w'=>oE g w w'∧
  ∃(os:List Nat)(cc:Nat),e=aO (aM (decide (0<cc)))∧w'.ownsRow base 3 1 (aB (some ⟨g,0,none⟩) nu cap) nu (os.map iv)∧(∀x∈os,x<PB)∧(∀i,j+n2+1≤i→os.getD i 0=FI.getD i 0)∧bS PB os+q*bS PB ys*PB^j=bS PB FI+cc*PB^(j+(n2+1)):=by
 have qE:=zq hn2;clear hn2;have Rh:=zq Ct;clear Ct;have H2:=zq h2;clear h2;have WL:=zq lE;clear lE;have HO0:aY (∃os:List Nat,w.ownsRow base 3 1 (aB (some ⟨g,0,none⟩) nu cap) nu (os.map iv)∧(∀x∈os,x<PB)∧(∀i,j+n2+1≤i→os.getD i 0=FI.getD i 0)∧bS PB os+q*bS PB (ys.take 0)*PB^j=bS PB FI+0*PB^(j+0)):=
  ⟨FI,hown,M7,fun _ _=>rfl,by simp[bS]⟩
 clear hown M7;go_enter func260,ntmps260;go_wp2;go_loopw[9,15] (fun c i' wr=>∃(k cc:Nat),i'=aF aG k∧c=aF aG cc∧cc≤999999999∧k≤n2+1∧oE g w wr∧
  aY (∃os:List Nat,wr.ownsRow base 3 1 (aB (some ⟨g,0,none⟩) nu cap) nu (os.map iv)∧(∀x∈os,x<PB)∧(∀i,j+n2+1≤i→os.getD i 0=FI.getD i 0)∧bS PB os+q*bS PB (ys.take k)*PB^j=bS PB FI+cc*PB^(j+k)))
  (fun _ i' _=>2000-(aK i').toNat)
 case atStart=>exact⟨0,0,rfl,rfl,by omega,by omega,oE.refl _ _,HO0⟩
 clear HO0;case round=>
  obtain⟨k,cc,rfl,rfl,hcc,hk,hB,hO⟩:=hrel;by_cases hgo:k<n2+1
  ·have Rm:k≤n2:=by omega
   have YS:(k:Int)<(n2:Int)+1:=by omega
   obtain⟨os,o1,o2,o4,o3⟩:=hO.out;clear hO;have hO0:os.getD (j+k) 0≤999999999:=by have:=eJ o2 (by decide) (j+k);unfold PB at this;omega
   have hY:ys.getD k 0≤999999999:=by have:=eJ Rh.out (by decide) k;unfold PB at this;omega
   have hco:=lL o1 (show j+k<nu by omega);have tG:=fun nq=>yE a2 c2 n2 k ys (wr.drewN nq) qE.out (H2.out.but (hB.drewN nq) WL.out) (by omega);simp only[gX]at tG;have Ep:=zq tG;clear tG;have hfz:=eO o1 (j+k);generalize In:os.getD (j+k) 0=O at *;have Rn:=zq In;clear In;generalize Eo:ys.getD k 0=Y at *;have Jp:=zq Eo;clear Eo;have hp:=Kz q Y (H7 hq hY);obtain⟨hp1,Up⟩:=hp;have J6:=zq o1;clear o1;have Rq:=zq o2;clear o2;have Ho3:=zq o3;clear o3;have Ho4:=zq o4;clear o4;have e1:IntKind.i64.wrap ((j:Int)+k)=(j:Int)+k:=by(first |exact aP _ (by omega))
   have e2:(0:Int)≤(j:Int)+k:=by omega
   have e3:((j:Int)+k).toNat=j+k:=by omega
   have e4:IntKind.i64.wrap ((q:Int)*Y)=(q:Int)*Y:=by(first |exact aP _ (by omega))
   have e5:IntKind.i64.wrap ((O:Int)-cc)=(O:Int)-cc:=by(first |exact aP _ (by omega))
   have e6:IntKind.i64.wrap ((O:Int)-cc-(q:Int)*Y)=(O:Int)-cc-(q:Int)*Y:=by(first |exact aP _ (by omega))
   go_wp2;go_quiet ((go_at_call 204;exact Wn ((Ep.out _).mono fun e w'⟨h1,h2⟩=>⟨h1,h2.symm⟩)))
   clear e1 e2 e3 e4 e5 e6;obtain⟨p,hp⟩:∃p,q*Y=p:=⟨_,rfl⟩;have hpi:(q:Int)*Y=(p:Int):=by rw[←Int.natCast_mul,hp]
   rw[hpi]at hp1 Up;rw[hpi];have hp3:p≤999999998000000001:=by omega
   have Hp:=zq hp;clear hp hpi hp1 Up;have f1':IntKind.i64.wrap ((j:Int)+k)=(j:Int)+k:=by(first |exact aP _ (by omega))
   generalize hS:(O:Int)-cc-(p:Int)=S at *;have tm: -999999999000000000≤S:=by omega
   have hS2:S≤999999999:=by omega
   have HS:=zq hS;clear hS;by_cases hneg:S<0
   ·have wl:(0:Int)≤-S+1000000000-1:=by omega
    go_wp2;go_roundw;case rel=>
     obtain⟨C,hC⟩:∃C:Nat,(-S+1000000000-1)/1000000000=(C:Int):=⟨((-S+1000000000-1)/1000000000).toNat,by omega⟩;obtain⟨o',ho'⟩:∃o':Nat,S+(C:Int)*1000000000=(o':Int):=⟨(S+(C:Int)*1000000000).toNat,by omega⟩;have hob:o'<PB:=by unfold PB;omega
     have pU:=N4 PB os ys j k cc C q O o' _ (by rw[iE J6.out];omega) Ho3.out Rn.out (by rw[Jp.out,Hp.out];unfold PB;have:=HS.out;omega);refine⟨k+1,C,by go_num,by rw[hC],by omega,by omega,(hB.drewN _).set _ _,os.set (j+k) o',?_,yC Rq.out hob,fun i hi=>(yB _ _ _ _ (by omega)).trans (Ho4.out i hi),pU⟩;rw[hC,ho'];exact tJ J6.out (j+k) o'
    case measure=>simp only[aK];omega
   ·go_wp2;go_roundw;case rel=>
     obtain⟨o',ho'⟩:∃o':Nat,S=(o':Int):=⟨S.toNat,by omega⟩;have hob:o'<PB:=by unfold PB;omega
     have pU:=N4 PB os ys j k cc 0 q O o' _ (by rw[iE J6.out];omega) Ho3.out Rn.out (by rw[Jp.out,Hp.out];have:=HS.out;omega);refine⟨k+1,0,by go_num,rfl,by omega,by omega,(hB.drewN _).set _ _,os.set (j+k) o',?_,yC Rq.out hob,fun i hi=>(yB _ _ _ _ (by omega)).trans (Ho4.out i hi),pU⟩;rw[ho'];exact tJ J6.out (j+k) o'
    case measure=>simp only[aK];omega
  ·have hge:¬(k:Int)<(n2:Int)+1:=by omega
   obtain rfl:k=n2+1:=by omega
   obtain⟨os,o1,o2,o4,o3⟩:=hO.out;have pW:aY (bS PB os+q*bS PB ys*PB^j=bS PB FI+cc*PB^(j+(n2+1))):=by
    show _=_;rw[←o3,fQ PB ys _ (by rw[qE.out];omega)]
   have J6:=zq o1;have Rq:=zq o2;have Ho4:=zq o4;clear hO o1 o2 o3 o4;by_cases h0:0<cc
   ·go_wp2;go_ret;exact⟨hB,os,cc,by simp[h0],J6.out,Rq.out,Ho4.out,pW.out⟩
   ·go_wp2;go_ret;exact⟨hB,os,cc,by simp[h0],J6.out,Rq.out,Ho4.out,pW.out⟩
end
end Go.Proofs.YtcimoodjlopdaaaGreatDoor
