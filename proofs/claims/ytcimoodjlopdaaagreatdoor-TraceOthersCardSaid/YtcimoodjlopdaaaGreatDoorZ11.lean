import Derived.Test.YtcimoodjlopdaaaGreatDoorProg
import Derived.WalkKit
import Derived.WalkSpells
import Derived.WalkLawsBesides
import Derived.RegionTactic
import Derived.ChangeAlike
import Derived.Deep.QuietTactic
import Derived.BigQuiet
import Derived.Lib.Hide
import Derived.Deep.DeepCutAuto
import Derived.Deep.RegionHeld3
import Derived.Sort.CutIn
import Derived.Sort.QuietIn
import Derived.RegionIn
import Derived.Deep.RegionWith
import Derived.LoopIn
import Derived.LoopNIn
import Derived.TacticsInMore
import Derived.OwnWalkIn
import Derived.Shelf.Strings.BuilderK
import Derived.Test.YtcimoodjlopdaaaGreatDoorZ0
import Derived.Test.YtcimoodjlopdaaaGreatDoorZ2
import Derived.Test.YtcimoodjlopdaaaGreatDoorZ4
import Derived.Test.YtcimoodjlopdaaaGreatDoorZ10
namespace Go.Proofs.YtcimoodjlopdaaaGreatDoor
set_option maxRecDepth 100000
set_option maxHeartbeats 8000000
set_option linter.all false
open Go.Proofs.Tryz
open _root_.Array renaming replicate_succ->eR,replicate_zero->eT
open Go renaming World->aE,Calls->aQ,Value->bB,maxLen->cA,run_takeDeferred->gE,KeepsFrom->kC,ownFrom_below->Bi,belowK_b->EL,results_tmp->vi
open Go.Ending renaming returned->aO
open Go.Fence renaming wide->dW
open Go.IntWalk renaming i64_in->aP
open Go.KeepsFrom renaming refl->T5
open Go.KeepsOthers renaming setCell->cE
open Go.Lib renaming itoa->bL,decDigits->bW,byteCells->Bk,BuilderAtF->EM,byteCells_length->Ya,byteCells_append->Yb
open Go.Obj renaming cells->aL,isCells->sb
open Go.Oper renaming semAt_some->mD
open Go.OwnFrom renaming and->tE
open Go.Proofs renaming enters_of->qP
open Go.Proofs.Builder renaming Extra->du
open Go.Proofs.Tryz renaming prog->aC,underlying5->oJ,zeroValue5->pL,sizeOf5->vJ,isAgg5->xP,func289->Kw,results203->MK
open Go.RowKit renaming Below->aJ,intOf->aK,Hid->aY
open Go.RowKit.Below renaming refl->aI
open Go.Shelf renaming Ren->lI
open Go.Value renaming string->aA,slice->aB,bool->aM,tuple->bO,pointer->cB
open Go.World renaming size_alloc->aS,block_lt_of_cell?->bF,size_setCell->mO
open Go.World.ownsRow renaming frozenAt->eO
open Int renaming tdiv_eq_ediv_of_nonneg->jO
open List renaming getElem?_cons_zero->bD,getElem?_toArray->bJ,replicate->bY,length_cons->cO,length_append->cU,getElem?_cons_succ->cW,eq_nil_of_length_eq_zero->dD,length_nil->eW,append_toArray->fJ,cons_append->fX,size_toArray->gA,push_toArray->gC,nil_append->iC,append_nil->nX,length_replicate->vP,append_assoc->Ch
open Nat renaming le_refl->aD,le_trans->cC,reduceAdd->jX,reduceSub->jY,sub_zero->Cw,le_of_lt->I4,sub_self->UJ,pow_one->X9,pow_mul->rm
open Trans renaming trans->cL
section
open Go Go.RowKit Go.Shelf
section
attribute[local go_sem] mD
theorem YX(L j:Nat):(bY L 0).getD j 0=0:=by
 rw[List.getD_eq_getElem?_getD,List.getElem?_replicate];split <;>rfl
theorem Xm(W:aE){f:Nat}(h0:0<f)(hf:f<PB):nR (W.alloc (aL #[iv f] 3)) (aB (some ⟨W.heap.size,0,none⟩) 1 1) PB f:=by
 have hl:bM PB f=[f]:=by
  rw[nO cR (by omega),Nat.mod_eq_of_lt hf,Nat.div_eq_of_lt hf,dO]
 refine⟨_,1,1,rfl,by rw[hl];rfl,aD _,by simp[cA],by simp,?_⟩;rw[hl];intro i hi;refine⟨_,_,rfl,?_⟩;obtain rfl:i=0:=by simpa using hi
 exact(bZ.new W #[iv f] 3).cell 0
theorem Ki(a1 a2:Option Addr)(c1 c2 n1 n2:Nat)(M N:Nat)(w:aE)(hn1:(bM PB M).length=n1)(hn2:(bM PB N).length=n2)(hx:n1≤1000)(h2n:2≤n2)(hlt:¬M<N)
 (h1:nR w (aB a1 n1 c1) PB M)(h2:nR w (aB a2 n2 c2) PB N):
 aQ aC 205 #[aB a1 n1 c1,aB a2 n2 c2] w fun e w'=>∃v u,e=aO (bO #[v,u])∧nR w' v PB (M/N)∧nR w' u PB (M%N)∧aJ w.heap.size w w':=by
 have hx2:n2≤n1:=by rw[←hn1,←hn2];exact eP cR (by omega)
 have hc:=fun W hb=>wC _ _ M N W (h1.below (w':=W) hb) (h2.below hb) (by omega) (by omega)
 have Hc:=zq hc;clear hc
 obtain⟨t,ht⟩:=nm ((bM PB N).getD (n2-1) 0)
 obtain⟨t0,tB,f0,fB,fl⟩:=Ps cR hn2 (by omega) ht
 obtain⟨f,hf⟩:=nm (PB/(t+1))
 rw[hf]at f0 fB fl
 have Z0:=zq (bZ.new w #[aB none 0 0] 179)
 have pT:∃b2 o2,a2=some ⟨b2,o2,none⟩∧w.cell? ⟨b2,o2+(n2-1),none⟩=some (iv t):=by
  obtain⟨a,n,c,e,p1,p2,p3,p4,p5⟩:=h2
  injection e with e1 e2 e3
  subst e1 e2 e3
  obtain⟨b,o,e,hc⟩:=p5 (n2-1) (by omega)
  rw[ht]at hc
  exact⟨b,o,e,hc⟩
 obtain⟨b2,o2,rfl,pT⟩:=pT
 have hlt2:=bF w _ pT
 have iw:=zq pT
 have Hl:=zq hlt
 have tB':t≤999999999:=by unfold PB at tB;omega
 have q1:IntKind.i64.wrap ((t:Int)+1)=(t:Int)+1:=aP _ (by omega)
 have q2:¬(t:Int)+1=0:=by omega
 have q3:(1000000000:Int).tdiv ((t:Int)+1)=(f:Int):=by
  rw[show(t:Int)+1=((t+1:Nat):Int) by omega,show(1000000000:Int)=((1000000000:Nat):Int)from rfl,jO (by omega),←Int.natCast_ediv]
  rw[←hf];rfl
 have q4:IntKind.i64.wrap (f:Int)=(f:Int):=aP _ (by unfold PB at fB;omega)
 have q5:(1000000000:Int)/((t:Int)+1)=(f:Int):=by
  rw[←q3,jO (by omega)]
 have q6:((n2:Int)-1).toNat=n2-1:=by omega
 have q7:(0:Int)≤(n2:Int)-1:=by omega
 have q8:((n2:Int)==1)=false:=by simp;omega
 have HQ:=zq (And.intro q1 (And.intro q2 (And.intro q3 (And.intro q4 q5))))
 have HF:=zq (And.intro t0 (And.intro tB (And.intro f0 (And.intro fB fl))))
 have Hf:=zq hf
 have H1:=zq h1;have H2:=zq h2;have pI:=zq hn1;have qE:=zq hn2
 clear hlt pT hn1 hn2 ht hf t0 tB f0 fB fl q1 q2 q3 q4 q5 h1 h2
 refine jT func205 rfl ?_
 simp only[ntmps205,gA,cO,eW,jX,jY,eR,eT,gC,fJ,iC,fX]
 go_wp2_with fail
 refine(Hc.out _ ((aI _ _).alloc (aD _) _)).mono ?_
 rintro e w1⟨⟨v,rfl,hv⟩,hb1⟩
 have hvl:=hv.ge Hl.out
 have zq1:bZ w1 w.heap.size #[aB none 0 0] 179:=Z0.out.below hb1 (by simp)
 have gG:aJ w.heap.size w w1:=((aI _ _).alloc (aD _) _).trans (hb1.mono (by simp))
 have pT:w1.cell? ⟨b2,o2+(n2-1),none⟩=some (iv t):=(gG.cell (p:=⟨b2,o2+(n2-1),none⟩) hlt2).trans iw.out
 have Hzq:=zq zq1
 have HB:=zq gG
 clear hb1 hv Z0 zq1 gG
 obtain⟨q1,q2,q3,q4,q5⟩:=HQ.out
 go_wp2_with fail
 clear q1 q2 q3 q4 q5
 have Rs:w.heap.size<w1.heap.size:=Hzq.out.lt
 have LQ:aJ w.heap.size w (w1.alloc (aL #[iv f] 3)):=HB.out.alloc (by omega) _
 have inF:∀W:aE,nR (W.alloc (aL #[iv f] 3)) (aB (some ⟨W.heap.size,0,none⟩) 1 1) PB f:=fun W=>Xm W HF.out.2.2.1 HF.out.2.2.2.1
 have hMf:(bM PB (M*f)).length≤n1+1:=by
  have:=vA cR (M:=M) (N:=f) (a:=n1) (b:=1) (by rw[pI.out];exact aD _) (fD cR (by rw[X9];exact HF.out.2.2.2.1))
  exact this
 have hMf2:n1≤(bM PB (M*f)).length:=by
  rw[←pI.out];exact eP cR (Nat.le_mul_of_pos_right _ HF.out.2.2.1)
 refine(IE _ _ M f _ (H1.out.below LQ) (inF w1) (by rw[pI.out];exact hx) (cC (fD cR (k:=1) (by rw[X9];exact HF.out.2.2.2.1)) (by decide))).mono ?_
 rintro e w2⟨u,rfl,ou,hb2⟩
 rw[aS]at ou hb2
 obtain⟨gu,nu,cu,rfl,ou⟩:=ou
 have bn:(bM PB (M*f)).length=nu:=by have:=ou.1;simpa using this
 rw[bn]at hMf hMf2
 have eQ:aJ w.heap.size w w2:=LQ.trans (hb2.mono (by omega))
 have zq2:bZ w2 w.heap.size #[aB none 0 0] 179:=(Hzq.out.alloc _).below hb2 (by omega)
 have AB:w1.heap.size+1≤w2.heap.size:=by have:=hb2.size;simpa using this
 have Hou:=zq ou
 have Hhb:=zq (And.intro eQ zq2)
 have Hnu:=zq bn
 clear LQ ou hb2 eQ zq2 bn
 go_wp2_with (at_builtin;refine Bp rfl (.tmp 37) (.tmp 38) rfl (w1.heap.size+1) _ nu _ rfl Hou.out (iv 0) rfl rfl (by omega) (by omega) ?_;intro g cap w3 CF hge Vs)
 have fN:aJ w.heap.size w w3:=dB (B:=w.heap.size) (base:=w1.heap.size+1) Hhb.out.1 Vs Hou.out (by omega) (by omega)
 have zq3:bZ w3 w.heap.size #[aB none 0 0] 179:=Hhb.out.2.grown Vs (kS Hou.out (by omega))
 have ix:g<w3.heap.size:=(dJ CF).2.1
 have hs3':w2.heap.size≤w3.heap.size:=Vs.size
 have hbC:aJ w.heap.size w (w3.alloc (aL #[iv f] 3)):=fN.alloc (by omega) _
 refine(IE _ _ N f _ (H2.out.below hbC) (inF w3) (by rw[qE.out];omega) (cC (fD cR (k:=1) (by rw[X9];exact HF.out.2.2.2.1)) (by decide))).mono ?_
 rintro e w4⟨vv,rfl,ov,hb4⟩
 rw[aS]at ov hb4
 obtain⟨gv,nv,cv,rfl,ov⟩:=ov
 have hnv:(bM PB (N*f)).length=nv:=by have:=ov.1;simpa using this
 obtain rfl:n2=nv:=by rw[←hnv];exact HF.out.2.2.2.2.symm
 have Us:=dJ ov
 have CZ:w4.ownsRow (w1.heap.size+1) 3 1 (aB (some ⟨g,0,none⟩) (nu+1) cap) (nu+1) ((bM PB (M*f)++[0]).map iv):=by
  rw[List.map_append];exact cT (CF.alloc _) (hb4.mono (by simp))
 have hB4:aJ w.heap.size w w4:=hbC.trans (hb4.mono (by omega))
 have zq4:bZ w4 w.heap.size #[aB none 0 0] 179:=(zq3.alloc _).below hb4 (by omega)
 have Uv:w3.heap.size+1≤w4.heap.size:=by have:=hb4.size;simpa using this
 obtain⟨FI,iy⟩:=nm (bM PB (M*f)++[0])
 have Hos:aY (FI.length=nu+1∧(∀x∈FI,x<PB)∧bS PB FI=M*f):=by
  refine⟨by rw[←iy,cU,Hnu.out];rfl,?_,?_⟩
  ·rw[←iy];exact oA (eA cR _) (by decide)
  ·rw[←iy,AI,cY cR];simp
 obtain⟨ys,Xl⟩:=nm (bM PB (N*f))
 have Hys:aY (ys.length=n2∧(∀y∈ys,y<PB)∧bS PB ys=N*f∧0<ys.getD (n2-1) 0):=by
  refine⟨by rw[←Xl];exact hnv,?_,?_,?_⟩
  ·rw[←Xl];exact eA cR _
  ·rw[←Xl];exact cY cR _
  ·have lE:bM PB (N*f)≠[]:=by intro e;rw[e]at hnv;simp at hnv;omega
   have:=EO cR _ lE
   rw[hnv,Xl]at this
   omega
 rw[iy]at CZ
 rw[Xl]at ov
 obtain⟨g4,hg4⟩:=nm w4.heap.size
 have IF:=zq (And.intro CZ (And.intro ov (And.intro hB4 zq4)))
 have yf:=zq (And.intro Us (And.intro ix (And.intro hs3' (And.intro Uv AB))))
 have hlo:¬((nu:Int)+1<(n1:Int)+1):=by omega
 clear CF Vs fN zq3 hbC ov hb4 hnv Us CZ hB4 zq4 iy Xl ix hs3' Uv AB
 go_wp2
 obtain⟨W5,YY⟩:=nm ((w4.alloc (aL #[aB (some ⟨g,0,none⟩) (nu+1) cap] 179)).alloc (aL #[aB (some ⟨gv,0,none⟩) n2 cv] 179))
 have u1:bZ W5 g4 #[aB (some ⟨g,0,none⟩) (nu+1) cap] 179:=by
  rw[←YY,←hg4];exact(bZ.new w4 _ _).alloc _
 have u2:bZ W5 (g4+1) #[aB (some ⟨gv,0,none⟩) n2 cv] 179:=by
  rw[←YY,←hg4]
  have:=bZ.new (w4.alloc (aL #[aB (some ⟨g,0,none⟩) (nu+1) cap] 179)) #[aB (some ⟨gv,0,none⟩) n2 cv] 179
  rwa[aS]at this
 have u3:bZ W5 w.heap.size #[aB none 0 0] 179:=by rw[←YY];exact(IF.out.2.2.2.alloc _).alloc _
 have u4:W5.ownsRow (w1.heap.size+1) 3 1 (aB (some ⟨g,0,none⟩) (nu+1) cap) (nu+1) (FI.map iv):=by rw[←YY];exact(IF.out.1.alloc _).alloc _
 have u5:W5.ownsRow (w3.heap.size+1) 3 1 (aB (some ⟨gv,0,none⟩) n2 cv) n2 (ys.map iv):=by rw[←YY];exact(IF.out.2.1.alloc _).alloc _
 have uB:aJ w.heap.size w W5:=by
  have:=IF.out.2.2.1.size
  rw[←YY];exact(IF.out.2.2.1.alloc this _).alloc (by rw[aS];omega) _
 have us:W5.heap.size=g4+2:=by rw[←YY,←hg4];simp
 rw[YY]
 have k1:=u1.ce 0
 have k2:=u2.ce 0
 have k3:=u3.ce 0
 have k4:=u3.fz 0
 have hlt5:w.heap.size<W5.heap.size:=u3.lt
 have HU:=zq (And.intro u1 (And.intro u2 (And.intro u3 (And.intro u4 (And.intro u5 uB)))))
 have Hus:=zq us
 have Hg4:=zq hg4
 clear YY u1 u2 u3 u4 u5 uB us IF hg4
 go_loopw[44] (fun _ wr=>wr=W5) (fun _ _=>0)
 case atStart=>rfl
 obtain rfl:=hrel
 obtain⟨L,hL⟩:=nm (nu+1-n2)
 have hLi:(nu:Int)+1-(n2:Int)=(L:Int):=by omega
 have HL:=zq hL
 have HLi:=zq hLi
 have hL2:L≤1100:=by omega
 have HU3:aY (∀W',wr.grownBy W' none→bZ W' w.heap.size #[aB none 0 0] 179):=fun W' h=>HU.out.2.2.1.grown h (by simp)
 clear hL hLi
 go_wp2_with (at_make;refine yG rfl _ _ rfl wr.heap.size _ L rfl rfl HLi.out (by omega) (aD _) ?_;intro w6 wY Ck;have k5:=(HU3.out _ Ck).cell 0;have k6:=(HU3.out _ Ck).fz 0;simp only[bJ,bD]at k5)
 obtain⟨gq,hgq⟩:=nm wr.heap.size
 rw[hgq]at wY⊢
 refine(callsIn_wide.1 (GC dW 9 trivial rfl _ _ _ _)).mono ?_
 rintro e w'⟨rfl,rfl⟩
 obtain⟨u1,u2,u3,u4,u5,uB⟩:=HU.out
 have hg42:g4+2≤gq:=by rw[←hgq,Hus.out];exact aD _
 clear hgq
 have hs6:gq<w6.heap.size:=(dJ wY).2.1
 have hbl6:aJ w.heap.size w w6:=uB.grown Ck (by have:=u3.lt;omega) (fun k hk=>by cases hk)
 obtain⟨G6,hG6⟩:=nm w6.heap.size
 obtain⟨W0,iU⟩:=nm ((w6.setCell ⟨w.heap.size,0,none⟩ (aB (some ⟨gq,0,none⟩) L L)).alloc (aL #[aB (some ⟨gq,0,none⟩) L L] 179))
 obtain⟨Us,ix,hs3',Uv,AB⟩:=yf.out
 have hu4c:=dJ u4
 have lt4:=u1.lt
 have hw4a:w4.heap.size≤g4:=by rw[Hg4.out];exact aD _
 have hgne:g≠w.heap.size:=by omega
 have e0:bZ W0 w.heap.size #[aB (some ⟨gq,0,none⟩) L L] 179:=by rw[←iU];exact((HU3.out _ Ck).set 0 _).alloc _
 have e1:bZ W0 g4 #[aB (some ⟨g,0,none⟩) (nu+1) cap] 179:=by rw[←iU];exact((u1.grown Ck (by simp)).other _ (by show g4≠w.heap.size;omega)).alloc _
 have e2:bZ W0 (g4+1) #[aB (some ⟨gv,0,none⟩) n2 cv] 179:=by rw[←iU];exact((u2.grown Ck (by simp)).other _ (by show g4+1≠w.heap.size;omega)).alloc _
 have e3:bZ W0 G6 #[aB (some ⟨gq,0,none⟩) L L] 179:=by
  rw[←iU]
  have:=bZ.new (w6.setCell ⟨w.heap.size,0,none⟩ (aB (some ⟨gq,0,none⟩) L L)) #[aB (some ⟨gq,0,none⟩) L L] 179
  rwa[mO,hG6]at this
 have e4:W0.ownsRow (w1.heap.size+1) 3 1 (aB (some ⟨g,0,none⟩) (nu+1) cap) (nu+1) (FI.map iv):=by
  rw[←iU];exact(cX (u4.kept Ck (.inr (fun e=>by cases e))) (by show g≠w.heap.size;omega) _).alloc _
 have e5:W0.ownsRow (w3.heap.size+1) 3 1 (aB (some ⟨gv,0,none⟩) n2 cv) n2 (ys.map iv):=by
  rw[←iU];exact(cX (u5.kept Ck (.inr (fun e=>by cases e))) (by show gv≠w.heap.size;omega) _).alloc _
 have e6:W0.ownsRow gq 3 1 (aB (some ⟨gq,0,none⟩) L L) L ((bY L 0).map iv):=by
  rw[←iU];exact(cX wY (by show gq≠w.heap.size;omega) _).alloc _
 have Yt:W0.heap.size=G6+1:=by rw[←iU,←hG6];simp
 have fP:aJ w.heap.size w W0:=by rw[←iU];exact(hbl6.setCell (p:=⟨w.heap.size,0,none⟩) (aD _) _).alloc (by rw[mO];omega) _
 have HI0:aY (Vq M N f L 0 FI (bY L 0)):=by
  refine⟨Hos.out.2.1,fun x hx=>by rw[List.eq_of_mem_replicate hx];decide,?_,?_⟩
  ·rw[Hos.out.2.2,List.drop_of_length_le (by simp)];simp[bS]
  ·rw[Hos.out.2.2,Cw,←HL.out]
   exact iu cR (by rw[Hnu.out];exact aD _) HF.out.2.2.2.2 (by omega) (by omega)
 have Kf:Rd W0 (some ⟨gq,0,none⟩) (bY L 0):=Rd.own e6
 have iz:=zq iU
 have HE:=zq (And.intro e0 (And.intro e1 (And.intro e2 (And.intro e3 (And.intro e4 (And.intro e5 (And.intro e6 fP)))))))
 have HrR:=zq Kf
 clear Ck wY u1 u2 u3 u4 u5 uB hbl6 hu4c iU e0 e1 e2 e3 e4 e5 e6 fP Kf Us
 go_wp2_with fail
 rw[iz.out]
 obtain⟨e0,e1,e2,e3,e4,e5,e6,fP⟩:=HE.out
 refine Vo (gf:=289) (lb:= #[cB (some ⟨G6,0,none⟩)]) (by rw[←hG6];rfl) (qP Kw (by kernel_rfl) rfl)
  (Vp dW 8 trivial rfl (by decide) G6 (some ⟨gq,0,none⟩) L L (bY L 0) (by simp) (by omega) W0 (e3.cell 0) HrR.out) yS.trans (yS.putObj (by omega) (fun p hp=>by cases hp;show gq<_;omega)) (fun _=>rfl)
  (fun k W=>(∃(os qs:List Nat),aY (Vq M N f L k os qs)∧W.ownsRow (w1.heap.size+1) 3 1 (aB (some ⟨g,0,none⟩) (nu+1) cap) (nu+1) (os.map iv)∧W.ownsRow gq 3 1 (aB (some ⟨gq,0,none⟩) L L) L (qs.map iv)∧
   W.ownsRow (w3.heap.size+1) 3 1 (aB (some ⟨gv,0,none⟩) n2 cv) n2 (ys.map iv)∧
   bZ W w.heap.size #[aB (some ⟨gq,0,none⟩) L L] 179∧bZ W g4 #[aB (some ⟨g,0,none⟩) (nu+1) cap] 179∧bZ W (g4+1) #[aB (some ⟨gv,0,none⟩) n2 cv] 179)∧aJ w.heap.size w W)
  (fun _ _ _=>False)
  (tE (Own.from (fun s A B uJ hs hg hr=>by obtain⟨os,qs,h1,h2,h3,h4,h5,h6,h7⟩:=hs;exact⟨os,qs,h1,tU h2 hg hr,tU h3 hg hr,tU h4 hg hr,h5.own hg hr,h6.own hg hr,h7.own hg hr⟩) _) (Bi (aD _) (by omega)))
  (fun c _ _ _ _ hs _ _=>hs)
  ⟨⟨FI,bY L 0,HI0,e4,e6,e5,e0,e1,e2⟩,fP⟩
  ?rF ?assign ?body ?done ?stop
 case assign=>
  intro l k W K hK
  gi_wp2
  exact hK
 case body=>
  rintro l k W hk⟨⟨os,qs,hI,ou,oq,ov,b0,b1,b2⟩,hB⟩
  obtain⟨j,hj⟩:=nm (L-1-k)
  rw[LD (xs:=bY L 0) (by simp) hj,LH (xs:=bY L 0) (X:=0) (by simp) hj (YX L j)]
  have hjL:j<L:=by omega
  obtain⟨i1,i2,i3,i4⟩:=hI.out
  rw[show L-k=j+1 by omega]at i3 i4
  obtain⟨U,hU⟩:=nm (bS PB os)
  rw[hU]at i3 i4
  obtain⟨V,hV⟩:=nm (N*f)
  rw[hV]at i3 i4
  have hyV:bS PB ys=V:=by rw[Hys.out.2.2.1,hV]
  have hLn:L+n2=nu+1:=by have:=HL.out;omega
  have hest:=Xk cR os ys i1 Hys.out.2.1 n2 j Hys.out.1 h2n (by rw[iE ou];omega) (by rw[hU,hyV];exact i4)
  rw[hU,hyV]at hest
  obtain⟨-,hV0,yd,-,-⟩:=hest
  have HR:aY (yT w W W0.heap.size G6 gq L k g4 g (nu+1) cap gv n2 cv (w3.heap.size+1) qs ys W):=⟨hB,T5 _ _,yS.refl _ _ _ _ _,b0,b1,b2,oq,ov⟩
  have kU:=b1.ce 0
  have kV:=b2.ce 0
  have hnu3:nu+1≤3000:=by omega
  have hjn:j+n2<nu+1:=by omega
  have Hest:=zq (LN g (nu+1) cap gv n2 cv j _ _ V (PB^j) os ys W ou ov i1 Hys.out.2.1 Hys.out.2.2.2 h2n (by omega) hnu3 hjn hyV rfl (by rw[hU];exact i4))
  have HO:aY (W.ownsRow (w1.heap.size+1) 3 1 (aB (some ⟨g,0,none⟩) (nu+1) cap) (nu+1) (os.map iv)∧(∀x∈os,x<PB)∧bS PB os=U):=⟨ou,i1,hU⟩
  have Hi3:=zq i3;have Hi2:=zq i2;have HUW:=zq yd;have HyV:=zq hyV;have Hj:=zq hj;have HVe:=zq hV
  have hn2b:n2≤1000:=by omega
  have HC:aY (w.heap.size<g∧g<g4∧g≠gq∧g≠gv∧g≠G6∧g<W0.heap.size∧w.heap.size<g4∧g4≠gq∧g4≠gv∧g4≠G6):=by
   obtain⟨Us,-,-,-,-⟩:=yf.out
   refine⟨?_,?_,?_,?_,?_,?_,?_,?_,?_,?_⟩<;>omega
  clear ou oq ov b0 b1 b2 hB hI i1 i2 i3 i4 hU hyV yd hj hV
  gi_wp2_with fail
  refine⟨trivial,(Calls.round Hest.out _ _).mono ?_⟩
  rintro e w'⟨⟨q,rfl,hq,hqQ⟩,nd,rfl⟩
  have HQ':aY (U/(V*PB^j)≤q):=by show _≤_;rw[←HO.out.2.2];exact hqQ
  clear hqQ Hest
  gi_wp2_with fail
  gi_loopw [10] (fun qv wr=>∃(q':Nat)(LO:List Nat),qv=iv q'∧q'≤999999999∧aY (U/(V*PB^j)≤q')∧aY (yT w W W0.heap.size G6 gq L k g4 g (nu+1) cap gv n2 cv (w3.heap.size+1) qs ys wr)∧
   aY (wr.ownsRow (w1.heap.size+1) 3 1 (aB (some ⟨g,0,none⟩) (nu+1) cap) (nu+1) (LO.map iv)∧(∀x∈LO,x<PB)∧bS PB LO=U))
   (fun qv _=>(aK qv).toNat)
  case atStart=>exact⟨q,os,rfl,hq,HQ',HR.out.drewN nd,HO.out⟩
  case round=>
   clear HQ' HR HO kU kV
   obtain⟨q',LO,rfl,hq',hqQ,hR,hO⟩:=hrel
   have kU:=hR.out.bu.ce 0
   have kV:=hR.out.bv.ce 0
   have Htk:=zq (Vr g (nu+1) cap gv n2 cv j q' _ _ V U LO ys wr hO.out.1 hR.out.ov hO.out.2.1 Hys.out.2.1 hn2b hnu3 hjn HyV.out hV0 hO.out.2.2 HUW.out hq' hqQ.out (Ne.symm HC.out.2.2.2.1))
   gi_wp2_with fail
   refine⟨trivial,(Calls.round Htk.out _ _).mono ?_⟩
   rintro e w'⟨hbt,os2,o1,o2,(⟨rfl,h3,h4⟩|⟨rfl,h3,h4,cc,h5⟩)⟩
   ·have Uw:=hR.out.but hbt HC.out.1 HC.out.2.1 HC.out.2.2.1 HC.out.2.2.2.1 HC.out.2.2.2.2.1 HC.out.2.2.2.2.2.1
    have kq:=Uw.bq.ce 0
    have kc:=lL Uw.oq hjL
    have kf:=eO Uw.oq j
    have r10:(j:Int)<(L:Int):=by omega
    have r9:(0:Int)≤(j:Int):=by omega
    have AC:=zq Uw
    have Ho:=zq (And.intro o1 (And.intro o2 (And.intro h3 h4)))
    generalize qs.getD j 0=Z at kc
    clear hR hO Htk kU kV hbt o1 o2 h3 h4 Uw
    gi_wp2
    have hq9:q'<PB:=by unfold PB;omega
    have hD:Vq M N f L (k+1) os2 (qs.set j q'):=by
     refine⟨Ho.out.2.1,yC Hi2.out hq9,?_,?_⟩
     ·rw[show L-(k+1)=j by have:=Hj.out;omega,HVe.out]
      exact YW qs j q' U _ V _ (by rw[iE AC.out.oq];exact hjL) Hi3.out Ho.out.2.2.1
     ·rw[show L-(k+1)=j by have:=Hj.out;omega,HVe.out]
      exact Ho.out.2.2.2
    obtain⟨c1,c2,c3,c4,c5,c6,c7,c8,c9,c10⟩:=HC.out
    refine⟨AC.out.kept.trans ((cE _ _ _).from _),AC.out.keepB.trans ⟨World.cell?_of_block (heap_setCell_other w' ⟨gq,j,none⟩ G6 _ (by show G6≠gq;omega)),fun b off e i hi=>?_⟩,⟨os2,qs.set j q',hD,?_,tJ AC.out.oq j q',?_,?_,?_,?_⟩,?_⟩
    ·cases e
     apply World.cell?_setCell_other
     intro e
     have e2:j=0+i:=congrArg Addr.off e
     have:=Hj.out
     omega
    ·exact cX Ho.out.1 (by show g≠gq;omega) _
    ·exact cX AC.out.ov (by show gv≠gq;have:=yf.out.1.2.1;omega) _
    ·exact AC.out.bq.other _ (by show w.heap.size≠gq;omega)
    ·exact AC.out.bu.other _ (by show g4≠gq;omega)
    ·exact AC.out.bv.other _ (by show g4+1≠gq;omega)
    ·exact AC.out.below.setCell (p:=⟨gq,j,none⟩) (by show w.heap.size≤gq;omega) _
   ·have Uw:=hR.out.but hbt HC.out.1 HC.out.2.1 HC.out.2.2.1 HC.out.2.2.2.1 HC.out.2.2.2.2.1 HC.out.2.2.2.2.2.1
    have Hrs:=zq (M8 g (nu+1) cap gv n2 cv j q' cc _ _ V U os2 ys w' o1 Uw.ov o2 Hys.out.2.1 hn2b hnu3 hjn HyV.out HUW.out hq' h4 h5 (Ne.symm HC.out.2.2.2.1))
    have kU:=Uw.bu.ce 0
    have kV:=Uw.bv.ce 0
    have AC:=zq Uw
    have H3:=zq h3
    clear hR hO Htk hbt o1 o2 h3 h4 h5 Uw
    gi_wp2_with fail
    refine⟨trivial,(Calls.round Hrs.out _ _).mono ?_⟩
    rintro e w5⟨rfl,hbt,os3,o1,o2,o3⟩
    have hR3:=AC.out.but hbt HC.out.1 HC.out.2.1 HC.out.2.2.1 HC.out.2.2.2.1 HC.out.2.2.2.2.1 HC.out.2.2.2.2.2.1
    have kU:=hR3.bu.ce 0
    have kF:=hR3.bu.fz 0
    have Fe:=zq hR3
    have Ho:=zq (And.intro o1 (And.intro o2 o3))
    obtain⟨p,hp⟩:∃p,q'=p+1:=⟨q'-1,by have:=Nat.lt_of_le_of_lt (Nat.zero_le _) H3.out;omega⟩
    have s2:IntKind.i64.wrap ((q':Int)-1)=(p:Int):=by rw[hp];rw[show((p+1:Nat):Int)-1=(p:Int) by omega];exact aP _ (by omega)
    have Hp:=zq hp
    clear Hrs hbt o1 o2 o3 hR3 AC hp
    gi_wp2
    obtain⟨c1,c2,c3,c4,c5,c6,c7,c8,c9,c10⟩:=HC.out
    refine⟨⟨p,os3,rfl,by have:=Hp.out;omega,Nat.le_of_lt_succ (by rw[←Nat.add_one,←Hp.out];exact H3.out),Fe.out.set4 c7 c8 c9 c10,cX Ho.out.1 (by show g≠g4;omega) _,Ho.out.2⟩,?_⟩
    have:=Hp.out
    simp only[aK]
    omega
 case done=>
  rintro D W hD⟨⟨os,qs,hI,ou,oq,ov,b0,b1,b2⟩,hB⟩hK
  obtain⟨i1,i2,i3,i4⟩:=hI.out
  rw[UJ]at i3 i4
  simp only[List.drop_zero,Nat.pow_zero,Nat.mul_one]at i3 i4
  obtain⟨hQ,hR⟩:=Vn HF.out.2.2.1 i3 i4
  have hsW:W0.heap.size≤D:=hD
  have htu:=jF cR ou (iE ou) i1 rfl
  have htq:=jF cR oq (iE oq) i2 hQ
  have cu:=vS (some ⟨g,0,none⟩) cap (nu+1) os W (iE ou) (dJ ou).2.2.1 (dJ ou).2.2.2 (Rd.own ou)
  obtain⟨T,hT⟩:=nm ((jS os).length)
  rw[hT]at htu cu
  rw[hR]at htu
  have Pj:(bM PB (M%N*f)).length≤1000:=by
   refine cC (fD cR (k:=n2) ?_) (by omega)
   rw[←hR]
   have:=cS cR (N*f)
   rw[HF.out.2.2.2.2]at this
   exact Nat.lt_trans i4 this
  have hsh:=zq (N3 _ (M%N*f) f W htu.inL Pj HF.out.2.2.1 HF.out.2.2.2.1)
  have hmf:aY (M%N*f/f=M%N):=Nat.mul_div_cancel _ HF.out.2.2.1
  have Hcu:=zq cu
  have kU:=b1.ce 0
  have NG:=zq (And.intro oq (And.intro b0 (And.intro hB (And.intro i2 (And.intro hQ hK)))))
  have hsz0:=b0.lt
  have hszq:gq<W.heap.size:=(dJ oq).2.1
  have hDlt:D<W.heap.size:=(Array.getElem?_eq_some_iff.1 hK).1
  clear ou oq ov b0 b1 b2 hB hK hI i1 i2 i3 i4 hQ hR htu htq cu Pj hT
  go_wp2_with fail
  refine kr Hcu.out ?_
  go_wp2_with fail
  refine hsh.out.mono ?_
  rintro e w7⟨x,y,rfl,ox,-,hb7⟩
  rw[hmf.out]at ox
  have b7:bZ w7 w.heap.size #[aB (some ⟨gq,0,none⟩) L L] 179:=NG.out.2.1.below hb7 hsz0
  have oq7:w7.ownsRow gq 3 1 (aB (some ⟨gq,0,none⟩) L L) L (qs.map iv):=cT NG.out.1 hb7
  have Xn:aJ w.heap.size w w7:=NG.out.2.2.1.trans (hb7.mono (by omega))
  have hK7:w7.heap[D]? =some (.deferred (some [])):=(hb7.block D hDlt).trans NG.out.2.2.2.2.2
  have k7:=b7.ce 0
  have f7:=b7.fz 0
  have ctq:=zq (fun n=>vS (some ⟨gq,0,none⟩) L L qs (w7.drewN n) (iE oq7) (aD _) (by simp only[cA];omega) (Rd.own (w:=w7.drewN n) oq7))
  have Hox:=zq ox
  have Hst7:=zq (And.intro oq7 (And.intro b7 (And.intro Xn hK7)))
  clear hb7 b7 oq7 Xn hK7 ox Hcu hsh kU
  go_wp2_with fail
  obtain⟨T2,Xj⟩:=nm ((jS qs).length)
  have ctq':=ctq.out 0
  rw[Xj]at ctq'
  refine ctq'.mono ?_
  rintro e w'⟨rfl,rfl⟩
  have MP:=zq Xj
  clear ctq ctq' Xj
  obtain⟨gx,nx,cx,rfl,oxr⟩:=Hox.out
  have Hoxr:=zq oxr
  clear oxr
  go_wp2
  obtain⟨oq7,b7,Xn,hK7⟩:=Hst7.out
  have htq:=jF cR oq7 (iE oq7) NG.out.2.2.2.1 NG.out.2.2.2.2.1
  rw[MP.out]at htq
  have uK:=(cE w7 ⟨w.heap.size,0,none⟩ (aB (some ⟨gq,0,none⟩) T2 L)).same D _ hK7 rfl
  refine⟨by simp,.inl ⟨_,_,rfl,gE uK,?_⟩⟩
  refine⟨_,gI Tryz.results205 _ _ w.heap.size _ rfl (((b7.set 0 _).putObj _ uK rfl).cell 0) (isAgg179 _),_,_,rfl,?_,?_,?_⟩
  ·exact((htq.set_other (a:=⟨w.heap.size,0,none⟩) (by show w.heap.size<gq;omega) _).putObj _ uK rfl).inL
  ·exact((Hox.out.set_other (a:=⟨w.heap.size,0,none⟩) hsz0 _).putObj _ uK rfl).inL
  ·exact(Xn.setCell (p:=⟨w.heap.size,0,none⟩) (aD _) _).trans (EL (w:=w) (aD _) _ D _ _ (by omega) uK rfl rfl)
 case stop=>
  intro D c k W _ _ h _
  exact h.elim
theorem BM(v1 v2:bB)(M N:Nat)(w:aE)(h1:nR w v1 PB M)(h2:nR w v2 PB N)(hM:(bM PB M).length≤1000)(hN:(bM PB N).length≤1000)(h0:0<N):
 aQ aC 205 #[v1,v2] w fun e w'=>∃v u,e=aO (bO #[v,u])∧nR w' v PB (M/N)∧nR w' u PB (M%N)∧aJ w.heap.size w w':=by
 by_cases hlt:M<N
 ·exact Kh v1 v2 M N w h1 h2 hM hN hlt
 ·by_cases h1l:(bM PB N).length=1
  ·exact LM v1 v2 M N w h1 h2 hM h1l hlt
  ·have lE:(bM PB N).length≠0:=fun e=>by
    have:=(eB cR).1 (dD e);omega
   have h1':=h1;have h2':=h2;obtain⟨a1,n1,c1,rfl,p1,-⟩:=h1;obtain⟨a2,n2,c2,rfl,q1,-⟩:=h2;exact Ki a1 a2 c1 c2 n1 n2 M N w p1 q1 (by omega) (by omega) hlt h1' h2'
end
end
section
open Go.Shelf
def Tryz.bldRen:Ren where
 f:=fun n=>if n=166 then 255 else if n=167 then 253 else if n=169 then 257 else if n=240 then 288 else 307
 t:=fun n=>if n=0 then 0 else if n=3 then 3 else if n=4 then 4 else if n=5 then 5 else if n=9 then 9 else if n=20 then 20 else if n=37 then 241 else if n=70 then 271 else
  if n=72 then 273 else if n=75 then 227 else if n=80 then 277 else 324
 g:=fun n=>n
theorem Tryz.lays166:Lays.n166 aC Tryz.bldRen:={
 mixed:=by kernel_rfl
 f166:=by kernel_rfl
 f240:=by kernel_rfl
 f276:=by kernel_rfl
 t0:=by kernel_rfl
 a0:=fun _=>by kernel_rfl
 z0:=fun _=>by kernel_rfl
 v0:=fun _=>by kernel_rfl
 t3:=by kernel_rfl
 a3:=fun _=>by kernel_rfl
 z3:=fun _=>by kernel_rfl
 v3:=fun _=>by kernel_rfl
 t4:=by kernel_rfl
 a4:=fun _=>by kernel_rfl
 z4:=fun _=>by kernel_rfl
 v4:=fun _=>by kernel_rfl
 t9:=by kernel_rfl
 a9:=fun _=>by kernel_rfl
 z9:=fun _=>by kernel_rfl
 v9:=fun _=>by kernel_rfl
 t20:=by kernel_rfl
 a20:=fun _=>by kernel_rfl
 z20:=fun _=>by kernel_rfl
 v20:=fun _=>by kernel_rfl
 t37:=by kernel_rfl
 a37:=fun _=>by kernel_rfl
 z37:=fun _=>by kernel_rfl
 v37:=fun _=>by kernel_rfl
 t70:=by kernel_rfl
 a70:=fun _=>by kernel_rfl
 z70:=fun _=>by kernel_rfl
 v70:=fun _=>by kernel_rfl
 t72:=by kernel_rfl
 a72:=fun _=>by kernel_rfl
 z72:=fun _=>by kernel_rfl
 v72:=fun _=>by kernel_rfl
 t75:=by kernel_rfl
 a75:=fun _=>by kernel_rfl
 z75:=fun _=>by kernel_rfl
 v75:=fun _=>by kernel_rfl
 t164:=by kernel_rfl
 a164:=fun _=>by kernel_rfl
 z164:=fun _=>by kernel_rfl
 v164:=fun _=>by kernel_rfl}
theorem Tryz.lays167:Lays.n167 aC Tryz.bldRen:={
 mixed:=by kernel_rfl
 f167:=by kernel_rfl
 f240:=by kernel_rfl
 f276:=by kernel_rfl
 t0:=by kernel_rfl
 a0:=fun _=>by kernel_rfl
 z0:=fun _=>by kernel_rfl
 v0:=fun _=>by kernel_rfl
 t4:=by kernel_rfl
 a4:=fun _=>by kernel_rfl
 z4:=fun _=>by kernel_rfl
 v4:=fun _=>by kernel_rfl
 t5:=by kernel_rfl
 a5:=fun _=>by kernel_rfl
 z5:=fun _=>by kernel_rfl
 v5:=fun _=>by kernel_rfl
 t9:=by kernel_rfl
 a9:=fun _=>by kernel_rfl
 z9:=fun _=>by kernel_rfl
 v9:=fun _=>by kernel_rfl
 t20:=by kernel_rfl
 a20:=fun _=>by kernel_rfl
 z20:=fun _=>by kernel_rfl
 v20:=fun _=>by kernel_rfl
 t37:=by kernel_rfl
 a37:=fun _=>by kernel_rfl
 z37:=fun _=>by kernel_rfl
 v37:=fun _=>by kernel_rfl
 t70:=by kernel_rfl
 a70:=fun _=>by kernel_rfl
 z70:=fun _=>by kernel_rfl
 v70:=fun _=>by kernel_rfl
 t72:=by kernel_rfl
 a72:=fun _=>by kernel_rfl
 z72:=fun _=>by kernel_rfl
 v72:=fun _=>by kernel_rfl
 t75:=by kernel_rfl
 a75:=fun _=>by kernel_rfl
 z75:=fun _=>by kernel_rfl
 v75:=fun _=>by kernel_rfl
 t164:=by kernel_rfl
 a164:=fun _=>by kernel_rfl
 z164:=fun _=>by kernel_rfl
 v164:=fun _=>by kernel_rfl}
def Tryz.lays169_ren:lI:=⟨fun |169=>257|n=>n,fun |70=>271|9=>9|0=>0|72=>273|37=>241|127=>309|3=>3|5=>5|n=>n,fun |n=>n⟩
theorem Tryz.lays169:Go.Proofs.Lays.n169 aC Tryz.lays169_ren:={
 mixed:=by kernel_rfl
 f169:=func257.trans (congrArg some (by kernel_rfl))
 t0:=underlying0
 a0:=isAgg0
 z0:=sizeOf0
 v0:=zeroValue0
 t3:=underlying3
 a3:=isAgg3
 z3:=sizeOf3
 v3:=zeroValue3
 t9:=underlying9
 a9:=isAgg9
 z9:=sizeOf9
 v9:=zeroValue9
 t37:=underlying241
 a37:=isAgg241
 z37:=sizeOf241
 v37:=zeroValue241
 t70:=underlying271
 a70:=isAgg271
 z70:=sizeOf271
 v70:=zeroValue271
 t72:=underlying273
 a72:=isAgg273
 z72:=sizeOf273
 v72:=zeroValue273
 t127:=underlying309
 a127:=isAgg309
 z127:=sizeOf309
 v127:=zeroValue309}
theorem Tryz.Builder_Extra_w:du aC Tryz.bldRen:={
 sizeBuilder:=by kernel_rfl
 liesBuilder:=by kernel_rfl
 t5:=oJ
 a5:=xP
 z5:=vJ
 v5:=pL
 infoByte:=by kernel_rfl
 cellsByte:=by kernel_rfl
 sizeByte:=by kernel_rfl
 neB5:=by decide}
theorem Tryz.Builder_Extra_169:du aC Tryz.lays169_ren:={
 sizeBuilder:=by kernel_rfl
 liesBuilder:=by kernel_rfl
 t5:=oJ
 a5:=xP
 z5:=vJ
 v5:=pL
 infoByte:=by kernel_rfl
 cellsByte:=by kernel_rfl
 sizeByte:=by kernel_rfl
 neB5:=by decide}
open Go Go.RowKit Go.Shelf Go.Lib
def GF(b:Nat)(l:List UInt8)(w:aE):Prop:=Lib.IsBuilderF 273 5 b b (Bk l) w
def iF(b:Nat)(w w':aE):Prop:=aJ b w w'∧Lib.OthersKept 5 (some b) w w'
theorem GF.new(w:aE):GF w.heap.size [] (w.alloc (aL #[cB none,aB none 0 0] 273)):=
 Lib.IsBuilderF.of (Lib.fresh_isBuilder 273 5 w)
theorem GF.alloc{b:Nat}{l:List UInt8}{w:aE}(h:GF b l w)(o:Obj):GF b l (w.alloc o):=Lib.IsBuilderF.alloc h o
theorem M9(b:Nat)(l:List UInt8)(c:UInt8)(w:aE)(h:GF b l w)(hl:l.length+1≤140737488355328)(hb:b≤w.heap.size):
 aQ aC 253 #[cB (some ⟨b,0,none⟩),.int .u8 (c.toNat:Int)] w fun e w'=>e=aO .nilIface∧GF b (l++[c]) w'∧iF b w w':=by
 refine(Any.Builder_WriteByte_k Tryz.lays167 Tryz.Builder_Extra_w b b _ _ w h (by rw[Ya];exact hl) hb).mono ?_;rintro e w'⟨rfl,h1,h2,h3⟩;refine⟨rfl,?_,h2,h3⟩;unfold GF;rw[Yb];exact Or.inr h1
theorem mQ(b:Nat)(l:List UInt8)(s:ByteArray)(w:aE)(h:GF b l w)(hl:l.length+s.size≤140737488355328)(hb:b≤w.heap.size):
 aQ aC 255 #[cB (some ⟨b,0,none⟩),aA s] w fun e w'=>e=aO (bO #[.int .i64 s.size,.nilIface])∧GF b (l++s.data.toList) w'∧iF b w w':=by
 refine(Any.Builder_WriteString_k Tryz.lays166 Tryz.Builder_Extra_w b b _ s w h (by rw[Ya];exact hl) hb).mono ?_;rintro e w'⟨rfl,h1,h2,h3⟩;refine⟨rfl,?_,h2,h3⟩;unfold GF;rw[Yb];exact Or.inr h1
theorem LR(b:Nat)(l:List UInt8)(w:aE)(h:GF b l w)(hb:b≤w.heap.size):
 aQ aC 257 #[cB (some ⟨b,0,none⟩)] w fun e w'=>e=aO (aA (bs l))∧iF b w w':=by
 refine(Any.Builder_String_any_k Tryz.lays169 Tryz.Builder_Extra_169 b b l w h hb).mono ?_;rintro e w'⟨rfl,h1,h2,h3⟩;exact⟨rfl,h2,h3⟩
theorem iF.trans{b:Nat}{A B C:aE}(h:iF b A B)(k:iF b B C):iF b A C:=⟨h.1.trans k.1,h.2.trans k.2⟩
theorem iF.refl(b:Nat)(A:aE):iF b A A:=⟨aI _ _,Lib.OthersKept.refl _ _ _⟩
theorem iF.of_below{b:Nat}{A B:aE}(h:aJ A.heap.size A B)(hb:b≤A.heap.size):iF b A B:=
 ⟨h.mono hb,fun k o hk _ _=>(h.block k (Array.getElem?_eq_some_iff.1 hk).1).trans hk⟩
theorem GF.kept{b:Nat}{l:List UInt8}{A C:aE}(h:GF b l A)(hB:aJ A.heap.size A C):GF b l C:=by
 have one:∀p,EM 273 5 b b p (Bk l) A→EM 273 5 b b p (Bk l) C:=by
  rintro p⟨h1,v,h2,⟨h3,h4⟩,h5⟩;refine⟨h1,v,(hB.block b (Array.getElem?_eq_some_iff.1 h2).1).trans h2,⟨h3,?_⟩,h5⟩;rcases h4 with h4|⟨g,cap,D7,fz,hv,hg,hh,r⟩
  ·exact .inl h4
  ·exact .inr ⟨g,cap,D7,fz,hv,hg,(hB.block g (Array.getElem?_eq_some_iff.1 hh).1).trans hh,r⟩
 exact h.elim (fun x=>.inl (one _ x)) (fun x=>.inr (one _ x))
end
section
open Go Go.RowKit Go.Shelf Go.Lib
section
attribute[local go_sem] mD
theorem LS(b:Bool)(v:bB)(w:aE)(h:nR w v PB 0):
 aQ aC 203 #[.agg #[aM b,v]] w (Rt (aA (bs [48])) w):=by
 obtain⟨a,n,cap,rfl,h1,-⟩:=h;rw[dO]at h1;obtain rfl:n=0:=h1.symm;refine jT func203 rfl ?_;simp only[ntmps203,gA,cO,eW,jX,jY,eR,eT,gC,fJ,iC,fX];go_wp2;exact⟨_,vi MK _ _ _,rfl,(aI _ _).alloc (aD _) _⟩
theorem Su(xs:List Nat)(hx:∀x∈xs,x<PB)(j:Nat):(zL xs j).length≤9*(xs.length-j):=by
 unfold zL;split
 ·rw[cJ _ _ (by omega)];have h:=zV (by decide:1≤PB) (xs.drop j) (fun x hm=>hx x (List.mem_of_mem_drop hm));rw[List.length_drop]at h;rw[rm];exact h
 ·simp
theorem iF.sameAt{B Bs len:Nat}{a:Option Addr}{W V:aE}{sl:bB}(h:iF B W V)(hb:bZ W Bs #[sl] 179)(lE:Bs≠B)(ha:∀p,a=some p→0<len→p.block<B):dA (JD Bs a len) W V:=by
 rintro k (rfl|⟨h0,p,rfl,rfl⟩)
 ·exact(h.2 _ _ hb (by simp;omega) (by intro c fz e;cases e)).trans hb.symm
 ·exact h.1.block p.block (ha p rfl h0)
theorem iF.from{B n:Nat}{W V:aE}(h:iF B W V)(hs:W.heap.size≤V.heap.size)(hn:B<n):kC n W V:=
 ⟨hs,fun k o hk ho hc=>h.2 k o ho (by simp;omega) (by rintro c fz rfl;simp[sb]at hc)⟩
theorem iF.blk{B b:Nat}{W V:aE}{cs:Array bB}{T:TypeId}(h:iF B W V)(hb:bZ W b cs T)(lE:b≠B)(hT:T≠5):bZ V b cs T:=
 h.2 _ _ hb (by simp;omega) (by intro c fz e;cases e;exact hT rfl)
theorem GF.own{W W':aE}{b:Nat}{l:List UInt8}{uJ:Option Nat}(h:GF b l W)(hg:W.grownBy W' uJ)(hr:∀r,uJ=some r→∃o:Obj,W.heap[r]? =some o∧o.isCells=false):GF b l W':=by
 have same:∀(g:Nat)(c:Array bB)(T:TypeId)(fz:Nat×Nat),W.heap[g]? =some (aL c T fz)→W'.heap[g]? =some (aL c T fz):=by
  intro g c T fz hh;refine(hg.block g (Array.getElem?_eq_some_iff.1 hh).1 ?_).trans hh;intro e;obtain⟨o,ho,hc⟩:=hr g e.symm;rw[hh]at ho;cases ho;simp[sb]at hc
 have one:∀p,EM 273 5 b b p (Bk l) W→EM 273 5 b b p (Bk l) W':=by
  rintro p⟨h1,v,h2,⟨h3,h4⟩,h5⟩;refine⟨h1,v,same _ _ _ _ h2,⟨h3,?_⟩,h5⟩;rcases h4 with h4|⟨g,cap,D7,fz,hv,hg,hh,r⟩
  ·exact .inl h4
  ·exact .inr ⟨g,cap,D7,fz,hv,hg,same _ _ _ _ hh,r⟩
 exact h.elim (fun x=>.inl (one _ x)) (fun x=>.inr (one _ x))
theorem iF.size{B:Nat}{W V:aE}(h:iF B W V):W.heap.size≤V.heap.size:=h.1.size
theorem Na(b:Bool)(a:Option Addr)(n cap N:Nat)(w:aE)(hE:eZ w)(hN:N≠0)(hl:(bM PB N).length=n)(hn:n≤1000)(hc:Rd w a (bM PB N)):
 aQ aC 203 #[.agg #[aM b,aB a n cap]] w (Rt (aA (bs (bL (eE b N)))) w):=by
 have Gf:n≠0:=by rintro rfl;exact hN ((eB cR).1 (dD hl))
 have hb:((n:Int)==0)=false:=by simp;omega
 have hxl:=eA cR N
 have Sk:=EO cR N (fun e=>hN ((eB cR).1 e))
 have Bu:=cY cR N
 obtain⟨xs,hxs⟩:∃xs,bM PB N=xs:=⟨_,rfl⟩
 rw[hxs]at hl hc hxl Sk Bu
 have Ke:∀p,a=some p→0<n→p.block<w.heap.size:=by
  rintro p rfl h0
  obtain⟨b',o',e,pT⟩:=hc 0 (by omega)
  injection e with e;subst e
  exact bF w _ pT
 have Hrow:=zq Ke;have Hc:=zq hc;have Hl:=zq hl;have HX:=zq (And.intro hxl (And.intro Sk Bu));have HE:=zq hE
 clear Ke hc hl hxl Sk Bu hE hxs
 have HZ:aY (bZ (w.alloc (aL #[aM b,aB a n cap] 181)) w.heap.size #[aM b,aB a n cap] 181∧GF (w.heap.size+1) [] ((w.alloc (aL #[aM b,aB a n cap] 181)).alloc (aL #[cB none,aB none 0 0] 273))):=
  ⟨bZ.new _ _ _,by have:=GF.new (w.alloc (aL #[aM b,aB a n cap] 181));rwa[aS]at this⟩
 refine jT func203 rfl ?_
 simp only[ntmps203,gA,cO,eW,jX,jY,eR,eT,gC,fJ,iC,fX]
 cases b with
 |false=>
  go_wp2_with fail
  obtain⟨pre,LU⟩:∃pre:List UInt8,[]=pre:=⟨_,rfl⟩
  have HT:aY (pre++bW N=bL (eE false N)):=by show _=_;rw[←LU,show eE false N=(N:Int)from rfl,iT];rfl
  have hp1:pre.length≤1:=by rw[←LU];decide
  obtain⟨W1,tn⟩:∃W1,(w.alloc (aL #[aM false,aB a n cap] 181)).alloc (aL #[cB none,aB none 0 0] 273)=W1:=⟨_,rfl⟩
  have z1:bZ W1 w.heap.size #[aM false,aB a n cap] 181:=by rw[←tn];exact HZ.out.1.alloc _
  have z2:GF (w.heap.size+1) pre W1:=by rw[←tn,←LU];exact HZ.out.2
  have z3:aJ w.heap.size w W1:=by rw[←tn];exact((aI _ w).alloc (aD _) _).alloc (by simp) _
  have z4:w.heap.size+2≤W1.heap.size:=by rw[←tn];simp
  rw[tn]
  clear tn LU HZ
  have k1:=z1.cell 1
  simp only[bJ,bD,cW]at k1
  obtain⟨B,hB⟩:∃B,w.heap.size+1=B:=⟨_,rfl⟩
  have hBw:w.heap.size<B:=by omega
  have ss:B≤w.heap.size+1:=by omega
  have Z:=zq (And.intro z1 (And.intro z2 z3))
  clear z1 z2 z3
  refine(callsIn_wide.1 (GC dW 9 trivial rfl _ _ _ _)).mono ?_
  rintro e w'⟨rfl,rfl⟩
  obtain⟨G1,hG1⟩:∃G1,W1.heap.size=G1:=⟨_,rfl⟩
  obtain⟨W0,iU⟩:∃W0,W1.alloc (aL #[aB a n cap] 179)=W0:=⟨_,rfl⟩
  have e0:bZ W0 w.heap.size #[aM false,aB a n cap] 181:=by rw[←iU];exact Z.out.1.alloc _
  have e1:bZ W0 G1 #[aB a n cap] 179:=by rw[←iU,←hG1];exact bZ.new _ _ _
  have e2:GF B pre W0:=by rw[←iU,←hB];exact Z.out.2.1.alloc _
  have e3:aJ w.heap.size w W0:=by rw[←iU];exact Z.out.2.2.alloc (by omega) _
  have Yt:W0.heap.size=G1+1:=by rw[←iU,←hG1];simp
  have hG1B:B<G1:=by omega
  have xD:=zq (Hc.out.below e3)
  have HK:=zq iU
  have HEE:=zq (And.intro e0 (And.intro e1 (And.intro e2 e3)))
  have HB:=zq hB
  rw[hG1]
  clear Z k1 iU e0 e1 e2 e3
  go_wp2_with fail
  rw[HK.out]
  obtain⟨e0,e1,e2,e3⟩:=HEE.out
  refine BH (gf:=289) (lb:= #[cB (some ⟨G1,0,none⟩)]) rfl (qP Kw (by kernel_rfl) rfl)
   (GB dW 8 trivial rfl (by decide) G1 a n cap xs Hl.out (by omega) W0 (e1.cell 0) xD.out) dA.trans (dA.putObj (CV xD.out Hl.out (by omega))) (fun _=>rfl)
   (fun k W=>(bZ W w.heap.size #[aM false,aB a n cap] 181∧bZ W G1 #[aB a n cap] 179∧GF B (pre++zL xs (n-k)) W)∧aJ w.heap.size w W)
   (fun _ _ _=>False)
   (tE (Own.from (fun s A C uJ hs hg hr=>⟨hs.1.own hg hr,hs.2.1.own hg hr,hs.2.2.own hg hr⟩) _) (Bi (aD _) (by omega)))
   (fun c _ _ _ _ hs _ _=>hs)
   ⟨⟨e0,e1,by rw[Cw,Gt xs n (by rw[Hl.out];exact aD _),nX];exact e2⟩,e3⟩
   ?rF ?assign ?body ?done ?stop
  case assign=>
   intro l k W K hK
   gi_wp2
   exact hK
  case body=>
   rintro l k W hk⟨⟨b0,b1,b2⟩,hBW⟩
   obtain⟨j,hj⟩:∃j,n-1-k=j:=⟨_,rfl⟩
   obtain⟨X,hX⟩:∃X,xs.getD j 0=X:=⟨_,rfl⟩
   rw[LD Hl.out hj,LH Hl.out hj hX]
   have Vh:X<PB:=by rw[←hX];exact eJ HX.out.1 (by decide) j
   have hX9':X≤999999999:=by unfold PB at Vh;omega
   obtain⟨S,hS⟩:∃S,bs (bL (X:Int))=S:=⟨_,rfl⟩
   have hSd:S.data.toList=bW X:=by rw[←hS,aX,iT]
   have hSs:S.size≤9:=by
    have:S.size=S.data.toList.length:=rfl
    rw[this,hSd,cJ _ _ (by decide)];exact Vh
   have HIt:=zq (eM (X:Int) W (HE.out.below hBW) (by omega) (by omega))
   have rV:(pre++zL xs (n-k)).length≤10000:=by
    have:=Su xs HX.out.1 (n-k)
    rw[cU,Hl.out]at *
    omega
   have HS:=zq hS;have tp:=zq hSd;have Hj:=zq hj;have HXj:=zq hX;have HX9:=zq Vh
   have hsW:W.heap.size≤W.heap.size:=aD _
   have hBW1:B<W.heap.size:=by have:=b1.lt;omega
   have HF:aY (∀(V:aE)(l':List UInt8),iF B W V→GF B l' V→l'=pre++zL xs (n-(k+1))→kC W0.heap.size W V∧dA (JD G1 a n) W V∧
    (bZ V w.heap.size #[aM false,aB a n cap] 181∧bZ V G1 #[aB a n cap] 179∧GF B (pre++zL xs (n-(k+1))) V)∧aJ w.heap.size w V):=by
    rintro V l' wO hd rfl
    exact⟨wO.from wO.size (by omega),wO.sameAt b1 (by omega) (fun p hp h0=>by have:=Hrow.out p hp h0;omega),⟨wO.blk b0 (by omega) (by decide),wO.blk b1 (by omega) (by decide),hd⟩,hBW.trans (wO.1.mono (by omega))⟩
   have HP:=zq (And.intro b0 (And.intro b1 (And.intro b2 hBW)))
   clear hS hSd hj hX Vh b0 b1 b2 hBW
   gi_wp2_with fail
   refine⟨trivial,(Calls.round HIt.out _ _).mono ?_⟩
   rintro e W2⟨rfl,hb2⟩
   rw[HS.out]
   have YZ:=iF.of_below hb2 (I4 hBW1)
   have c0:=HP.out.1.below hb2 HP.out.1.lt
   have c2:=HP.out.2.2.1.kept hb2
   have AB:W.heap.size≤W2.heap.size:=hb2.size
   have k1:=c0.cell 1
   simp only[bJ,bD,cW]at k1
   by_cases hk0:k=0
   ·have sv:¬((j:Int)<(n:Int)-1):=by have:=Hj.out;omega
    have Xo:=zq (mQ B _ S W2 c2 (by omega) (by omega))
    have Vt:=zq YZ
    clear hb2 c0 c2 YZ
    gi_wp2_with fail
    refine⟨trivial,(Calls.round Xo.out _ _).mono ?_⟩
    rintro e W3⟨rfl,d2,hk3⟩
    have wO:=Vt.out.trans hk3
    gi_wp2
    refine HF.out _ _ wO d2 ?_
    subst hk0
    rw[tp.out,Cw,Gt xs n (by rw[Hl.out];exact aD _),nX,show n-(0+1)=j by have:=Hj.out;omega,Lx xs j (by rw[Hl.out];have:=Hj.out;omega),HXj.out]
   ·have sv:(j:Int)<(n:Int)-1:=by have:=Hj.out;omega
    obtain⟨c,hc⟩:∃c,9-S.size=c:=⟨_,rfl⟩
    have Pq:(9:Int)-(S.size:Int)=(c:Int):=by omega
    have hc9:c≤9:=by omega
    have HRp:=zq (Le {data:= #[48]} c W2 (by omega) (by show 1*c≤_;omega))
    obtain⟨R,hR⟩:∃R,bs (repeatL ({data:= #[48]}:ByteArray).data.toList c)=R:=⟨_,rfl⟩
    have xy:R.data.toList=bY c 48:=by rw[←hR,aX];exact Gr c
    have hRs:R.size=c:=by
     have:R.size=R.data.toList.length:=rfl
     rw[this,xy,vP]
    have HR:=zq hR;have HRd:=zq xy;have HRs:=zq hRs;have HC:=zq hc
    have Vt:=zq YZ;have Va:=zq c2
    clear hb2 c0 c2 YZ hR xy hRs hc
    gi_wp2_with fail
    refine⟨trivial,(Calls.round HRp.out _ _).mono ?_⟩
    rintro e W3⟨rfl,hb3⟩
    rw[HR.out]
    have kk3:=iF.of_below hb3 (show B≤W2.heap.size by omega)
    have ix:W2.heap.size≤W3.heap.size:=hb3.size
    have HW1:=zq (mQ B _ R W3 (Va.out.kept hb3) (by rw[HRs.out];omega) (by omega))
    have Hkk3:=zq kk3
    clear kk3 hb3 HRp
    gi_wp2_with fail
    refine⟨trivial,(Calls.round HW1.out _ _).mono ?_⟩
    rintro e W4⟨rfl,d4,Xp⟩
    have Uv:=Xp.size
    have kN:(pre++zL xs (n-k)++R.data.toList).length≤10009:=by rw[cU,HRd.out,vP];omega
    have HW2:=zq (mQ B _ S W4 d4 (by omega) (by omega))
    have Hk4:=zq Xp
    clear d4 Xp HW1
    gi_wp2_with fail
    refine⟨trivial,(Calls.round HW2.out _ _).mono ?_⟩
    rintro e W5⟨rfl,d5,hk5⟩
    have wO:=((Vt.out.trans Hkk3.out).trans Hk4.out).trans hk5
    gi_wp2
    refine HF.out _ _ wO d5 ?_
    have KA:=NN xs j HX.out.1 (by rw[Hl.out];have:=Hj.out;omega) HX.out.2.1
    rw[HRd.out,tp.out,show n-(k+1)=j by have:=Hj.out;omega,show n-k=j+1 by have:=Hj.out;omega,KA,HXj.out]
    unfold Gs
    have hSl:(bW X).length=S.size:=by rw[←tp.out];rfl
    rw[hSl,HC.out]
    simp only[Ch]
  case done=>
   rintro D W hD⟨⟨b0,b1,b2⟩,hBW⟩hK
   have HS:=zq (LR B _ W b2 (by have:=b1.lt;omega))
   rw[UJ,Sl xs (by intro e;have:=Hl.out;rw[e]at this;exact Gf this.symm),HX.out.2.2,HT.out]at HS
   have HBW:=zq hBW
   have hDs:D≠B:=by have:=Yt;omega
   have hsB:B≤W.heap.size:=by have:=b1.lt;omega
   have HK':=zq hK
   clear b0 b1 b2 hBW hK
   go_wp2_with fail
   refine HS.out.mono ?_
   rintro e W2⟨rfl,hk⟩
   have uK:W2.heap[D]? =some (.deferred (some [])):=hk.2 D _ HK'.out (by simp;omega) (by intro c fz e;cases e)
   have gD:aY (aJ w.heap.size w W2):=HBW.out.trans (hk.1.mono (by omega))
   clear hk
   go_wp2
   refine⟨by simp,.inl ⟨_,_,rfl,gE uK,?_⟩⟩
   refine⟨_,vi MK _ _ _,rfl,?_⟩
   exact gD.out.trans (EL (w:=w) (aD _) _ D _ _ (by omega) uK rfl rfl)
  case stop=>
   intro D c k W _ _ h _
   exact h.elim
 |true=>
  go_wp2_with fail
  refine(M9 (w.heap.size+1) [] 45 _ HZ.out.2 (by decide) (by simp)).mono ?_
  rintro e W1⟨rfl,z2,hk⟩
  obtain⟨pre,LU⟩:∃pre:List UInt8,([]++[45]:List UInt8)=pre:=⟨_,rfl⟩
  have HT:aY (pre++bW N=bL (eE true N)):=by
   show _=_
   rw[←LU,show eE true N= -(N:Int)from rfl,rE (by omega),Int.natAbs_neg];rfl
  have hp1:pre.length≤1:=by rw[←LU];decide
  rw[LU]at z2
  have z1:bZ W1 w.heap.size #[aM true,aB a n cap] 181:=(HZ.out.1.alloc _).below hk.1 (by omega)
  have z3:aJ w.heap.size w W1:=(((aI _ w).alloc (aD _) _).alloc (by simp) _).trans (hk.1.mono (by omega))
  have z4:w.heap.size+2≤W1.heap.size:=by have:=hk.1.size;simpa using this
  clear LU hk HZ
  have k1:=z1.cell 1
  simp only[bJ,bD,cW]at k1
  obtain⟨B,hB⟩:∃B,w.heap.size+1=B:=⟨_,rfl⟩
  have hBw:w.heap.size<B:=by omega
  have ss:B≤w.heap.size+1:=by omega
  have Z:=zq (And.intro z1 (And.intro z2 z3))
  clear z1 z2 z3
  go_wp2_with fail
  refine(callsIn_wide.1 (GC dW 9 trivial rfl _ _ _ _)).mono ?_
  rintro e w'⟨rfl,rfl⟩
  obtain⟨G1,hG1⟩:∃G1,W1.heap.size=G1:=⟨_,rfl⟩
  obtain⟨W0,iU⟩:∃W0,W1.alloc (aL #[aB a n cap] 179)=W0:=⟨_,rfl⟩
  have e0:bZ W0 w.heap.size #[aM true,aB a n cap] 181:=by rw[←iU];exact Z.out.1.alloc _
  have e1:bZ W0 G1 #[aB a n cap] 179:=by rw[←iU,←hG1];exact bZ.new _ _ _
  have e2:GF B pre W0:=by rw[←iU,←hB];exact Z.out.2.1.alloc _
  have e3:aJ w.heap.size w W0:=by rw[←iU];exact Z.out.2.2.alloc (by omega) _
  have Yt:W0.heap.size=G1+1:=by rw[←iU,←hG1];simp
  have hG1B:B<G1:=by omega
  have xD:=zq (Hc.out.below e3)
  have HK:=zq iU
  have HEE:=zq (And.intro e0 (And.intro e1 (And.intro e2 e3)))
  have HB:=zq hB
  rw[hG1]
  clear Z k1 iU e0 e1 e2 e3
  go_wp2_with fail
  rw[HK.out]
  obtain⟨e0,e1,e2,e3⟩:=HEE.out
  refine BH (gf:=289) (lb:= #[cB (some ⟨G1,0,none⟩)]) rfl (qP Kw (by kernel_rfl) rfl)
   (GB dW 8 trivial rfl (by decide) G1 a n cap xs Hl.out (by omega) W0 (e1.cell 0) xD.out) dA.trans (dA.putObj (CV xD.out Hl.out (by omega))) (fun _=>rfl)
   (fun k W=>(bZ W w.heap.size #[aM true,aB a n cap] 181∧bZ W G1 #[aB a n cap] 179∧GF B (pre++zL xs (n-k)) W)∧aJ w.heap.size w W)
   (fun _ _ _=>False)
   (tE (Own.from (fun s A C uJ hs hg hr=>⟨hs.1.own hg hr,hs.2.1.own hg hr,hs.2.2.own hg hr⟩) _) (Bi (aD _) (by omega)))
   (fun c _ _ _ _ hs _ _=>hs)
   ⟨⟨e0,e1,by rw[Cw,Gt xs n (by rw[Hl.out];exact aD _),nX];exact e2⟩,e3⟩
   ?frm2 ?assign ?body ?done ?stop
  case assign=>
   intro l k W K hK
   gi_wp2
   exact hK
  case body=>
   rintro l k W hk⟨⟨b0,b1,b2⟩,hBW⟩
   obtain⟨j,hj⟩:∃j,n-1-k=j:=⟨_,rfl⟩
   obtain⟨X,hX⟩:∃X,xs.getD j 0=X:=⟨_,rfl⟩
   rw[LD Hl.out hj,LH Hl.out hj hX]
   have Vh:X<PB:=by rw[←hX];exact eJ HX.out.1 (by decide) j
   have hX9':X≤999999999:=by unfold PB at Vh;omega
   obtain⟨S,hS⟩:∃S,bs (bL (X:Int))=S:=⟨_,rfl⟩
   have hSd:S.data.toList=bW X:=by rw[←hS,aX,iT]
   have hSs:S.size≤9:=by
    have:S.size=S.data.toList.length:=rfl
    rw[this,hSd,cJ _ _ (by decide)];exact Vh
   have HIt:=zq (eM (X:Int) W (HE.out.below hBW) (by omega) (by omega))
   have rV:(pre++zL xs (n-k)).length≤10000:=by
    have:=Su xs HX.out.1 (n-k)
    rw[cU,Hl.out]at *
    omega
   have HS:=zq hS;have tp:=zq hSd;have Hj:=zq hj;have HXj:=zq hX;have HX9:=zq Vh
   have hsW:W.heap.size≤W.heap.size:=aD _
   have hBW1:B<W.heap.size:=by have:=b1.lt;omega
   have HF:aY (∀(V:aE)(l':List UInt8),iF B W V→GF B l' V→l'=pre++zL xs (n-(k+1))→kC W0.heap.size W V∧dA (JD G1 a n) W V∧
    (bZ V w.heap.size #[aM true,aB a n cap] 181∧bZ V G1 #[aB a n cap] 179∧GF B (pre++zL xs (n-(k+1))) V)∧aJ w.heap.size w V):=by
    rintro V l' wO hd rfl
    exact⟨wO.from wO.size (by omega),wO.sameAt b1 (by omega) (fun p hp h0=>by have:=Hrow.out p hp h0;omega),⟨wO.blk b0 (by omega) (by decide),wO.blk b1 (by omega) (by decide),hd⟩,hBW.trans (wO.1.mono (by omega))⟩
   have HP:=zq (And.intro b0 (And.intro b1 (And.intro b2 hBW)))
   clear hS hSd hj hX Vh b0 b1 b2 hBW
   gi_wp2_with fail
   refine⟨trivial,(Calls.round HIt.out _ _).mono ?_⟩
   rintro e W2⟨rfl,hb2⟩
   rw[HS.out]
   have YZ:=iF.of_below hb2 (I4 hBW1)
   have c0:=HP.out.1.below hb2 HP.out.1.lt
   have c2:=HP.out.2.2.1.kept hb2
   have AB:W.heap.size≤W2.heap.size:=hb2.size
   have k1:=c0.cell 1
   simp only[bJ,bD,cW]at k1
   by_cases hk0:k=0
   ·have sv:¬((j:Int)<(n:Int)-1):=by have:=Hj.out;omega
    have Xo:=zq (mQ B _ S W2 c2 (by omega) (by omega))
    have Vt:=zq YZ
    clear hb2 c0 c2 YZ
    gi_wp2_with fail
    refine⟨trivial,(Calls.round Xo.out _ _).mono ?_⟩
    rintro e W3⟨rfl,d2,hk3⟩
    have wO:=Vt.out.trans hk3
    gi_wp2
    refine HF.out _ _ wO d2 ?_
    subst hk0
    rw[tp.out,Cw,Gt xs n (by rw[Hl.out];exact aD _),nX,show n-(0+1)=j by have:=Hj.out;omega,Lx xs j (by rw[Hl.out];have:=Hj.out;omega),HXj.out]
   ·have sv:(j:Int)<(n:Int)-1:=by have:=Hj.out;omega
    obtain⟨c,hc⟩:∃c,9-S.size=c:=⟨_,rfl⟩
    have Pq:(9:Int)-(S.size:Int)=(c:Int):=by omega
    have hc9:c≤9:=by omega
    have HRp:=zq (Le {data:= #[48]} c W2 (by omega) (by show 1*c≤_;omega))
    obtain⟨R,hR⟩:∃R,bs (repeatL ({data:= #[48]}:ByteArray).data.toList c)=R:=⟨_,rfl⟩
    have xy:R.data.toList=bY c 48:=by rw[←hR,aX];exact Gr c
    have hRs:R.size=c:=by
     have:R.size=R.data.toList.length:=rfl
     rw[this,xy,vP]
    have HR:=zq hR;have HRd:=zq xy;have HRs:=zq hRs;have HC:=zq hc
    have Vt:=zq YZ;have Va:=zq c2
    clear hb2 c0 c2 YZ hR xy hRs hc
    gi_wp2_with fail
    refine⟨trivial,(Calls.round HRp.out _ _).mono ?_⟩
    rintro e W3⟨rfl,hb3⟩
    rw[HR.out]
    have kk3:=iF.of_below hb3 (show B≤W2.heap.size by omega)
    have ix:W2.heap.size≤W3.heap.size:=hb3.size
    have HW1:=zq (mQ B _ R W3 (Va.out.kept hb3) (by rw[HRs.out];omega) (by omega))
    have Hkk3:=zq kk3
    clear kk3 hb3 HRp
    gi_wp2_with fail
    refine⟨trivial,(Calls.round HW1.out _ _).mono ?_⟩
    rintro e W4⟨rfl,d4,Xp⟩
    have Uv:=Xp.size
    have kN:(pre++zL xs (n-k)++R.data.toList).length≤10009:=by rw[cU,HRd.out,vP];omega
    have HW2:=zq (mQ B _ S W4 d4 (by omega) (by omega))
    have Hk4:=zq Xp
    clear d4 Xp HW1
    gi_wp2_with fail
    refine⟨trivial,(Calls.round HW2.out _ _).mono ?_⟩
    rintro e W5⟨rfl,d5,hk5⟩
    have wO:=((Vt.out.trans Hkk3.out).trans Hk4.out).trans hk5
    gi_wp2
    refine HF.out _ _ wO d5 ?_
    have KA:=NN xs j HX.out.1 (by rw[Hl.out];have:=Hj.out;omega) HX.out.2.1
    rw[HRd.out,tp.out,show n-(k+1)=j by have:=Hj.out;omega,show n-k=j+1 by have:=Hj.out;omega,KA,HXj.out]
    unfold Gs
    have hSl:(bW X).length=S.size:=by rw[←tp.out];rfl
    rw[hSl,HC.out]
    simp only[Ch]
  case done=>
   rintro D W hD⟨⟨b0,b1,b2⟩,hBW⟩hK
   have HS:=zq (LR B _ W b2 (by have:=b1.lt;omega))
   rw[UJ,Sl xs (by intro e;have:=Hl.out;rw[e]at this;exact Gf this.symm),HX.out.2.2,HT.out]at HS
   have HBW:=zq hBW
   have hDs:D≠B:=by have:=Yt;omega
   have hsB:B≤W.heap.size:=by have:=b1.lt;omega
   have HK':=zq hK
   clear b0 b1 b2 hBW hK
   go_wp2_with fail
   refine HS.out.mono ?_
   rintro e W2⟨rfl,hk⟩
   have uK:W2.heap[D]? =some (.deferred (some [])):=hk.2 D _ HK'.out (by simp;omega) (by intro c fz e;cases e)
   have gD:aY (aJ w.heap.size w W2):=HBW.out.trans (hk.1.mono (by omega))
   clear hk
   go_wp2
   refine⟨by simp,.inl ⟨_,_,rfl,gE uK,?_⟩⟩
   refine⟨_,vi MK _ _ _,rfl,?_⟩
   exact gD.out.trans (EL (w:=w) (aD _) _ D _ _ (by omega) uK rfl rfl)
  case stop=>
   intro D c k W _ _ h _
   exact h.elim
theorem Y5(b:Bool)(v:bB)(N:Nat)(w:aE)(hE:eZ w)(h:nR w v PB N)(hn:(bM PB N).length≤1000):
 aQ aC 203 #[.agg #[aM b,v]] w (Rt (aA (bs (bL (eE b N)))) w):=by
 by_cases hN:N=0
 ·subst hN;have:=LS b v w h;have e:bL (eE b 0)=[48]:=by
   have e0:eE b 0=((0:Nat):Int):=by cases b<;>rfl
   rw[e0,iT,jR]
  rw[e];exact this
 ·obtain⟨a,n,cap,rfl,hl,h1,h2,h3,h4⟩:=h;exact Na b a n cap N w hE hN hl (by omega) h4
theorem PB_pow(k:Nat):PB^k=10^(9*k):=by rw[rm];rfl
theorem iK(b:Bool)(v:bB)(N:Nat)(w:aE)(hE:eZ w)(h:nR w v PB N)(hn:(bM PB N).length≤1000):
 aQ aC 143 #[.agg #[aM b,v]] w (Rt (bO #[aA (bs (iY (eE b N)).1),.int .i64 (iY (eE b N)).2]) w):=by
 have Hw:=zq (fun(W:aE)(hb:aJ w.heap.size w W)=>Y5 b v N W (hE.below hb) (h.below hb) hn);obtain⟨S,hS⟩:=nm (bs (bL (eE b N)));obtain⟨T,hT⟩:=nm (bs (mag (bL (eE b N))));have Htr:aY (∀W,aQ aC 100 #[aA S,aA {data:= #[45]}] W fun e w'=>e=aO (aA T)∧W=w'):=by
  intro W;have:=pX S {data:= #[45]} W;rw[←hT];rw[show trimPrefix S.data.toList ({data:= #[45]}:ByteArray).data.toList=mag (bL (eE b N)) by rw[←hS,aX];exact pZ _]at this;exact this
 have hTs:T.size=(mag (bL (eE b N))).length:=by rw[←hT,bU]
 have Gi:aY ((T.size≤300→iY (eE b N)=(bL (eE b N),0))∧(¬T.size≤300→iY (eE b N)=([],4))):=by
  rw[hTs,oM,cJ _ _ (by decide)];exact⟨fun h=>by rw[iY,ip h],fun h=>by rw[iY,iN h]⟩
 have HS:=zq hS;have hTb:T.size≤cA:=by
  rw[hTs,oM];have h1:(bW (eE b N).natAbs).length≤9000:=by
   rw[cJ _ _ (by decide),kG];refine Nat.lt_of_lt_of_le (cS cR N) ?_;rw[PB_pow];exact ee _ 9000 (by omega)
  exact cC h1 (by decide)
 unfold cA at hTb;clear hS hT hTs h hn;by_cases ht:T.size≤300
 ·have hti:¬(300:Int)<(T.size:Int):=by omega
  have HR:=zq (Gi.out.1 ht);clear Gi ht;go_enter func143,ntmps143;go_wp2_with fail
  refine ka (Hw.out _ ((aI _ _).alloc (aD _) _)) fun w1 hb1=>?_;have hb1:aJ w.heap.size w w1:=((aI _ _).alloc (aD _) _).trans (hb1.mono (by simp));rw[HS.out];go_wp2_with fail
  refine kr (Htr.out _) ?_;go_wp2;go_ret2;rw[HR.out];exact⟨by rw[←HS.out];rfl,hb1⟩
 ·have hti:(300:Int)<(T.size:Int):=by omega
  have HR:=zq (Gi.out.2 ht);clear Gi ht;go_enter func143,ntmps143;go_wp2_with fail
  refine ka (Hw.out _ ((aI _ _).alloc (aD _) _)) fun w1 hb1=>?_;have hb1:aJ w.heap.size w w1:=((aI _ _).alloc (aD _) _).trans (hb1.mono (by simp));rw[HS.out];go_wp2_with fail
  refine kr (Htr.out _) ?_;go_wp2;go_ret2;rw[HR.out];exact⟨rfl,hb1⟩
end
end
end Go.Proofs.YtcimoodjlopdaaaGreatDoor
