import Derived.Test.YtcimoodjlopdaaaGreatDoorProg
import Derived.WalkKit
import Derived.WalkSpells
import Derived.WalkLawsBesides
import Derived.RegionTactic
import Derived.ChangeAlike
import Derived.Deep.QuietTactic
import Derived.BigQuiet
import Derived.Lib.Hide
import Derived.Deep.DeepCutAuto
import Derived.Deep.RegionHeld3
import Derived.Shelf.LaysM
import Derived.Shelf.LaysC
import Derived.Shelf.Strconv.Itoa3
import Derived.Shelf.Strconv.AtoiAll
import Derived.Shelf.Small.Wraps
import Derived.Shelf.Strings.Prefix
import Derived.Shelf.Strings.SlTrimAscii
import Derived.Shelf.Strings.Cut
import Derived.Shelf.Strings.Repeat
import Derived.Lib.AtoiErrMem
import Derived.Lib.AppendIntMem
import Derived.WalkSmall
import Derived.Test.YtcimoodjlopdaaaGreatDoorZ0
import Derived.Test.YtcimoodjlopdaaaGreatDoorZ1
namespace Go.Proofs.YtcimoodjlopdaaaGreatDoor
set_option maxRecDepth 100000
set_option maxHeartbeats 8000000
set_option linter.all false
open Go.Proofs.Tryz
open Go renaming World->aE,Calls->aQ,Value->bB,maxLen->cA,bodyPost_ret->cD,results_cell_row->lH
open Go.Ending renaming returned->aO
open Go.IntKind renaming i64->aG
open Go.Lib renaming itoa->bL,decDigits->bW,hasPrefix->Ba,trimPrefix->JX,nDigits->dc
open Go.Obj renaming cells->aL
open Go.Proofs.Builder renaming Extra->du
open Go.Proofs.Tryz renaming prog->aC,underlying3->gM,underlying4->iQ,zeroValue4->jM,zeroValue3->kQ,underlying9->lV,underlying216->mC,zeroValue9->mU,isAgg3->nE,sizeOf4->nF,underlying5->oJ,sizeOf3->oV,isAgg4->pB,zeroValue5->pL,sizeOf9->qY,underlying198->sZ,isAgg9->tD,zeroValue198->uQ,sizeOf5->vJ,isAgg5->xP,sizeOf198->zR,underlying254->zT,underlying241->Ax,zeroValue254->AG,isAgg198->A9,underlying0->BX,zeroValue0->Cx,sizeOf254->Eh,isAgg254->FM,underlying256->H9,sizeOf0->I7,underlying20->I8,zeroValue241->I9,zeroValue256->Ja,zeroValue20->Kt,isAgg0->KM,results215->MG,sizeOf241->Nt,sizeOf256->Nu,sizeOf20->Qm,isAgg241->Qn,isAgg256->Qo,isAgg20->TQ,underlying301->am,underlying303->an,underlying322->ap,underlying323->au,underlying343->av,underlying344->aw,underlying227->az,underlying228->ba,underlying309->bb,underlying326->bc,zeroValue301->dd,zeroValue303->de,zeroValue322->df,zeroValue343->dh,zeroValue344->di,underlying21->dj,zeroValue227->dm,zeroValue228->dn,zeroValue309->dp,zeroValue326->dt,underlying2->rt,zeroValue21->ru,results262->uu,results219->uv,zeroValue2->uw
open Go.RowKit renaming Below->aJ,intOf->aK,Hid->aY
open Go.RowKit.Below renaming refl->aI
open Go.Shelf renaming Ren->lI
open Go.Value renaming string->aA,slice->aB,int->aF,bool->aM,tuple->bO,agg->dM
open Go.World renaming size_alloc->aS,block_lt_of_cell?->bF
open Go.World.ownsRow renaming frozenAt->eO
open List renaming getD_eq_getElem?_getD->aN,length_map->cG,getElem?_eq_getElem->cZ,eq_nil_of_length_eq_zero->dD,length_drop->kK,all_eq_true->oT
open MonadStateOf renaming set->UI
open Nat renaming le_refl->aD,pow_le_pow_right->bN,lt_of_lt_of_le->bQ,zero_le->bR,mul_one->nC,pow_mul->rm
open Trans renaming trans->cL
section
open Go Go.RowKit Go.Lib
theorem UW(l:List UInt8)(N n:Nat)(hl:l.length=6*n)(hN:N≠0)(hlt:N<10^(6*n))(h:∀q,q<6*n→l.getD (6*n-1-q) 0=dg N q):
 ∃D,D<6*n∧D+dc N=6*n∧l.getD D 0≠48∧(∀j,j<D→l.getD j 0=48)∧l.drop D=bW N:=by
 have hp:0<6*n:=by
  rcases Nat.eq_zero_or_pos (6*n)with e|e
  ·rw[e]at hlt;simp at hlt;omega
  ·exact e
 have hd:dc N≤6*n:=by rw[←decDigits_length];exact(cJ N _ hp).2 hlt
 have fg:=nDigits_pos N;have he:l.drop (6*n-dc N)=bW N:=by
  rw[decDigits_eq];apply List.ext_getElem
  ·simp[hl];omega
  ·intro i h1 h2;simp only[kK,hl]at h1;rw[List.getElem_drop,List.getElem_map,List.getElem_range];have:=h (dc N-1-i) (by omega);rw[←this,aN,cZ (by omega)];simp only[Option.getD_some];congr 1;omega
 refine⟨6*n-dc N,by omega,by omega,?_,?_,he⟩
 ·intro e;have hh:=xZ N hN;rw[←he,List.head?_drop]at hh;rw[aN,cZ (by omega)]at e;rw[cZ (by omega)]at hh;simp at e;exact hh (by rw[e])
 ·intro j hj;have:=h (6*n-1-j) (by omega);rw[show 6*n-1-(6*n-1-j)=j by omega]at this;rw[this];refine vm N _ (bQ (lt_pow_nDigits N) (bN (by decide) (by omega)))
theorem Dz(ng:Bool)(v:bB)(N:Nat)(w:aE)(hv:nR w v RB N)(hl:(bM RB N).length≤1000):
 aQ aC 189 #[dM #[aM ng,v]] w (Rt (aA (bs (bL (eE ng N)))) w):=by
 obtain⟨a1,n1,c1,rfl,hn1,Il,vq,ha1,hr1⟩:=hv;have hl1:n1≤1000:=by omega
 clear hl;simp only[cA]at vq;have hb:=bZ.new w #[aM ng,aB a1 n1 c1] 216;have hB:aJ w.heap.size w (w.alloc (aL #[aM ng,aB a1 n1 c1] 216)):=(aI _ _).alloc (aD _) _;have oB:(w.alloc (aL #[aM ng,aB a1 n1 c1] 216)).heap.size=w.heap.size+1:=by simp
 by_cases h0:n1=0
 ·subst h0;have hN:N=0:=(eB cN).1 (dD hn1);subst hN;clear ha1 hr1 hn1 hb oB;go_enter func189,ntmps189;go_wp2;go_ret;exact⟨by rw[Ny];rfl,hB⟩
 ·have hN:N≠0:=fun e=>h0 (by rw[e,dO]at hn1;simpa using hn1.symm);have hz:((n1:Int)==0)=false:=by simp;omega
  have HN:=zq hN;clear hN;have Hr0:=zq hr1;clear hr1;have pI:=zq hn1;clear hn1;have h1p:0<n1:=by omega
  clear h0 ha1;go_enter func189,ntmps189;go_upto_if 10 with fail;have OU:=cS cN N;rw[pI.out]at OU;have HNlt:=zq OU;clear OU;generalize hg:w.heap.size=g at *;have Hg:=zq hg;clear hg;generalize OW:w.alloc (aL #[aM ng,aB a1 n1 c1] 216)=w0 at *;clear OW;have c1':w0.cell? ⟨g,1,none⟩=some (aB a1 n1 c1):=by rw[hb.cell];rfl
  go_wp2_with (at_make;refine Lb rfl _ _ rfl (g+1) _ (6*n1) rfl rfl (by omega) (by omega) (by omega) ?_;intro w1 eF gH)
  have gG:aJ g w w1:=hB.grown gH (by omega) (by simp);have hb1:=hb.grown gH (by simp);have hg1:g<w0.heap.size:=by omega
  rw[oB]at eF;have hO0:aY (∃l:List UInt8,w1.ownsRow (g+1) 5 1 (aB (some ⟨g+1,0,none⟩) (6*n1) (6*n1)) (6*n1) (l.map bv)∧∀q,q<6*0→l.getD (6*n1-1-q) 0=dg N q):=⟨_,eF,by simp⟩;clear eF gH hB hb c1' oB hg1;go_loopw[4] (fun i wr=>∃I:Nat,i=aF aG I∧I≤n1∧aJ g w wr∧bZ wr g #[aM ng,aB a1 n1 c1] 216∧
   aY (∃l:List UInt8,wr.ownsRow (g+1) 5 1 (aB (some ⟨g+1,0,none⟩) (6*n1) (6*n1)) (6*n1) (l.map bv)∧∀q,q<6*I→l.getD (6*n1-1-q) 0=dg N q))
   (fun i _=>2000-(aK i).toNat)
  case atStart=>exact⟨0,rfl,by omega,gG,hb1,hO0⟩
  clear hO0 hb1 gG;case round=>
   obtain⟨I,rfl,hI,hB,hb,hO⟩:=hrel;have c0:wr.cell? ⟨g,0,none⟩=some (aM ng):=by rw[hb.cell];rfl
   have c1':wr.cell? ⟨g,1,none⟩=some (aB a1 n1 c1):=by rw[hb.cell];rfl
   by_cases hlt:I<n1
   ·obtain⟨b1,f1,rfl,zK⟩:=(Hr0.out.below (Hg.out.symm▸hB)) I (by rw[pI.out];exact hlt);have hX:(bM RB N).getD I 0≤999999:=by have:=eJ (eA cN N) (by decide) I;unfold RB at this⊢;omega
    have hXe:(bM RB N).getD I 0=N/RB^I%RB:=pS cN N I;generalize Dv:(bM RB N).getD I 0=X at *;clear Dv;have HXe:=zq hXe;clear hXe;obtain⟨wo,hwo⟩:∃wo:aE,wo=wr:=⟨_,rfl⟩;rw[←hwo]at hB hb hO c0 c1' zK⊢;clear hwo;go_wp2;go_loopw[5,6] (fun n k wr=>∃J:Nat,k=aF aG ((J:Int)+1)∧n=iv (X/10^J)∧J≤6∧aJ g w wr∧bZ wr g #[aM ng,aB (some ⟨b1,f1,none⟩) n1 c1] 216∧
     aY (∃l:List UInt8,wr.ownsRow (g+1) 5 1 (aB (some ⟨g+1,0,none⟩) (6*n1) (6*n1)) (6*n1) (l.map bv)∧∀q,q<6*I+J→l.getD (6*n1-1-q) 0=dg N q))
     (fun _ k _=>2000-(aK k).toNat)
    case atStart=>exact⟨0,rfl,by simp,by omega,hB,hb,hO⟩
    clear hB hb hO c0 c1' zK;case round=>
     obtain⟨J,rfl,rfl,hJ,hB,hb,hO⟩:=hrel;by_cases hJ6:J<6
     ·obtain⟨p,hp⟩:∃p:Nat,p=6*n1-1-(6*I+J):=⟨_,rfl⟩;have hpi:6*(n1:Int)-6*I-((J:Int)+1)=(p:Int):=by omega
      have UX:p<6*n1:=by omega
      have Hp:=zq hp;clear hp;obtain⟨l,o1,o2⟩:=hO.out;clear hO;have hco:=CG o1 UX;have hfz:=eO o1 p;have Js:l.length=6*n1:=by have:=o1.1;simpa using this
      have Yo:=zq Js;clear Js;have hY:X/10^J≤999999:=Nat.le_trans (Nat.div_le_self _ _) hX;have Ur:=Rc N RB 6 I J (by decide) hJ6;rw[←HXe.out]at Ur;have Hdg:=zq Ur;clear Ur;have KA:X/10^J/10=X/10^(J+1):=by rw[Nat.div_div_eq_div_mul,Nat.pow_succ]
      have Hnx:=zq KA;clear KA;generalize hYg:X/10^J=Y at *;clear hYg;generalize hold:l.getD p 0=ob at *;clear hold;have J6:=zq o1;clear o1;have Rq:=zq o2;clear o2;go_wp2;go_roundw;case rel=>
       have ev:aF .u8 (48+(Y:Int)%10)=bv (dg N (6*I+J)):=by
        rw[Hdg.out];have:=(rT (Y%10) (Nat.mod_lt _ (by decide))).2;unfold bv;rw[this];congr 1
       refine⟨J+1,by go_num,?_,by omega,hB.setCell (p:=⟨g+1,p,none⟩) (by simp) _,hb.other _ (by simp),l.set p (dg N (6*I+J)),?_,?_⟩
       ·rw[←Hnx.out];unfold iv;congr 1
       ·rw[ev];exact F6 J6.out p _
       ·intro q hq;by_cases e:q=6*I+J
        ·subst e;rw[Hp.out];simp[aN,show 6*n1-1-(6*I+J)<l.length by rw[Yo.out];omega]
        ·rw[←Rq.out q (by omega)];have:p≠6*n1-1-q:=by have:=Hp.out;omega
         simp[aN,this]
      case measure=>simp only[aK];omega
     ·obtain rfl:J=6:=by omega
      go_wp2;go_roundw;case rel=>exact⟨I+1,by go_num,by omega,hB,hb,hO⟩
      case measure=>simp only[aK];omega
   ·obtain rfl:n1=I:=by omega
    obtain⟨l,o1,o2⟩:=hO.out;have Js:l.length=6*n1:=by have:=o1.1;simpa using this
    have hfull:=UW l N n1 Js HN.out (by have:=HNlt.out;rwa[show RB=10^6 from rfl,←rm]at this) o2;obtain⟨D,hD,hD1,Al,fi,hdrop⟩:=hfull;have Yo:=zq Js;clear Js;have J6:=zq o1;clear o1 hO o2;have Hfirst:=zq Al;clear Al;have Hlater:=zq fi;clear fi;have Hdrop:=zq hdrop;clear hdrop;go_wp2;go_loop [3] (fun v=>∃j:Nat,v=aB (some ⟨g+1,j,none⟩) (6*n1-j) (6*n1-j)∧j≤D) WH;case atStart=>exact⟨0,by simp,bR _⟩
    case round=>
     obtain⟨j,rfl,hj⟩:=hrel;have sv:j<6*n1:=by omega
     have hco:=CG J6.out sv;by_cases hjD:j<D
     ·rw[Hlater.out j hjD]at hco;have h48:bv 48=aF .u8 48:=rfl;rw[h48]at hco;clear h48;have hl2:1<6*n1-j:=by omega
      go_wp2;go_round;case rel=>exact⟨j+1,rfl,by omega⟩
      case measure=>simp only[WH];omega
     ·obtain rfl:j=D:=by omega
      have hb48:((((l.getD j 0).toNat:Nat):Int)==48)=false:=by
       simp only[beq_eq_false_iff_ne,ne_eq];intro e;exact Hfirst.out (UInt8.toNat_inj.1 (by rw[show(48:UInt8).toNat=48 from rfl];omega))
      have WM:=Lc (w:=wr) (g:=g+1) (off:=j) (n:=6*n1-j) (cap:=6*n1-j) (l.drop j) (by simp[Yo.out]) (by
       intro i hi;rw[CG J6.out (by omega)];simp[aN])
      rw[Hdrop.out]at WM;generalize hob:l.getD j 0=ob at *;clear hob;cases ng with
      |false=>
       go_wp2;go_ret;exact⟨by rw[Q9 _ _ HN.out];rfl,by rw[Hg.out];exact hB⟩
      |true=>
       have hdl:(bW N).length≤6000:=by rw[decDigits_length];omega
       have hcat:=run_string_add_lists (P:=aC) (w:=wr) [45] (bW N) (by simp) (by omega);have uN:bs (bW N)=⟨(bW N).toArray⟩:=rfl;rw[uN]at WM;clear uN hdl;go_wp2;go_ret;refine⟨?_,by rw[Hg.out];exact hB⟩;rw[Q9 _ _ HN.out];rfl
theorem bcell{W w1:aE}(hb:aJ W.heap.size W w1):(∀b o,b<W.heap.size→w1.cell? ⟨b,o,none⟩=W.cell? ⟨b,o,none⟩)∧(∀b o,b<W.heap.size→w1.frozen? ⟨b,o,none⟩=W.frozen? ⟨b,o,none⟩):=
 ⟨fun b o h=>hb.cell (p:=⟨b,o,none⟩) h,fun b o h=>hb.frozen (p:=⟨b,o,none⟩) h⟩
theorem bV{W w':aE}{p:Addr}{v:bB}(hb:aJ W.heap.size W w')(h:W.cell? p=some v):w'.cell? p=some v:=
 (hb.cell (bF W p h)).trans h
theorem ck{W w':aE}(hb:aJ W.heap.size W w')(b o:Nat)(v:bB)(h:W.cell? ⟨b,o,none⟩=some v:=by simp[*]):w'.cell? ⟨b,o,none⟩=some v:=bV hb h
theorem box3{w W:aE}{c1 c2 c3:Array bB}{T:TypeId}(hW:((w.alloc (aL c1 T)).alloc (aL c2 T)).alloc (aL c3 T)=W):
 bZ W w.heap.size c1 T∧bZ W (w.heap.size+1) c2 T∧bZ W (w.heap.size+1+1) c3 T∧aJ w.heap.size w W∧W.heap.size=w.heap.size+3:=by
 subst hW;refine⟨((bZ.new w _ _).alloc _).alloc _,?_,?_,(((aI _ _).alloc (aD _) _).alloc (by simp) _).alloc (by simp;omega) _,by simp⟩
 ·have:=(bZ.new (w.alloc (aL c1 T)) c2 T).alloc (aL c3 T);rwa[aS]at this
 ·have:=bZ.new ((w.alloc (aL c1 T)).alloc (aL c2 T)) c3 T;rwa[aS,aS]at this
theorem WN(b1 b2:Bool)(v1 v2:bB)(M N:Nat)(w:aE)(h1:nR w v1 RB M)(h2:nR w v2 RB N)(hM:(bM RB M).length≤1000)(hN:(bM RB N).length≤1000):
 aQ aC 262 #[dM #[aM b1,v1],dM #[aM b2,v2]] w fun e w'=>∃(b:Bool)(v:bB),e=aO (dM #[aM b,v])∧eE b (M*N)=eE b1 M*eE b2 N∧mI w' w.heap.size v RB (M*N)∧aJ w.heap.size w w':=by
 have H1:=zq h1;clear h1;have H2:=zq h2;clear h2;have Hc:=zq (fun(W:aE)(hW:aJ w.heap.size w W)=>Yp v1 v2 M N W (H1.out.below hW) (H2.out.below hW) hM hN);clear hM hN;go_enter func262,ntmps262;go_upto_region 1 with fail
 obtain⟨W,hW⟩:=nm (((w.alloc (aL #[aM b1,v1] 216)).alloc (aL #[aM b2,v2] 216)).alloc (aL #[aM false,aB none 0 0] 216));rw[hW];have q0:bZ W w.heap.size #[aM b1,v1] 216:=by rw[←hW];exact((bZ.new w _ _).alloc _).alloc _
 have q1:bZ W (w.heap.size+1) #[aM b2,v2] 216:=by
  rw[←hW];have:=(bZ.new (w.alloc (aL #[aM b1,v1] 216)) #[aM b2,v2] 216).alloc (aL #[aM false,aB none 0 0] 216);rwa[aS]at this
 have q2:bZ W (w.heap.size+1+1) #[aM false,aB none 0 0] 216:=by
  rw[←hW];have:=bZ.new ((w.alloc (aL #[aM b1,v1] 216)).alloc (aL #[aM b2,v2] 216)) #[aM false,aB none 0 0] 216;rwa[aS,aS]at this
 have hB:aJ w.heap.size w W:=by
  rw[←hW];exact(((aI _ _).alloc (aD _) _).alloc (by simp) _).alloc (by simp;omega) _
 have oB:W.heap.size=w.heap.size+3:=by rw[←hW];simp
 clear hW;generalize hg:w.heap.size=g at *;have Hg:=zq hg;clear hg;have c0:W.cell? ⟨g,0,none⟩=some (aM b1):=by rw[q0.cell];rfl
 have c1:W.cell? ⟨g,1,none⟩=some v1:=by rw[q0.cell];rfl
 have c2:W.cell? ⟨g+1,0,none⟩=some (aM b2):=by rw[q1.cell];rfl
 have c3:W.cell? ⟨g+1,1,none⟩=some v2:=by rw[q1.cell];rfl
 go_cut[5] (fun p wx=>∃(gx gv nv cv:Nat),p=.pointer (some ⟨gx,0,none⟩)∧g+3≤gx∧g+3≤gv∧gx≠gv∧bZ wx gx #[aM (!b1==b2),aB (some ⟨gv,0,none⟩) nv cv] 216∧
  wx.ownsRow (g+3) 3 1 (aB (some ⟨gv,0,none⟩) nv cv) nv ((bM RB (M*N)).map iv)∧aJ (g+3) W wx)
 case first =>
  go_region_held3 (fun w'=>w'.cell? ⟨g,0,none⟩=some (aM b1)∧w'.cell? ⟨g,1,none⟩=some v1∧w'.cell? ⟨g+1,0,none⟩=some (aM b2)∧w'.cell? ⟨g+1,1,none⟩=some v2) (go_keep)
   ((go_at_call 241;refine(Hc.out _ (by first |exact hB.drew|exact(hB.alloc (by omega) _).drew)).mono ?_;rintro e w' ⟨v,rfl,⟨gv,nv,cv,rfl,Ld⟩,hb⟩;have:=ck hb g 0 (aM b1);have:=ck hb g 1 (v1);have:=ck hb (g+1) 0 (aM b2);have:=ck hb (g+1) 1 (v2);obtain⟨kc,kf⟩:=bcell hb;have hz:=hb.size;simp at hz kc kf))
  all_goals go_wp2
  all_goals go_meet
  case rel=>
   have tK:w'.ownsRow W.heap.size 3 1 (aB (some ⟨gv,0,none⟩) nv cv) nv ((bM RB (M*N)).map iv):=Ld;have Is:aJ W.heap.size W w':=(aI _ W).drew.trans hb;have NE:=dJ tK;rw[oB]at tK Is NE;exact⟨_,gv,nv,cv,rfl,by omega,by omega,by omega,bZ.new w' _ _,tK.alloc _,Is.alloc (by omega) _⟩
  case rel=>
   have tK:w'.ownsRow (W.alloc (aL #[aM false,aB none 0 0] 216)).heap.size 3 1 (aB (some ⟨gv,0,none⟩) nv cv) nv ((bM RB (M*N)).map iv):=Ld;have hb0:=bZ.new W #[aM false,aB none 0 0] 216;have Is:aJ (W.alloc (aL #[aM false,aB none 0 0] 216)).heap.size (W.alloc (aL #[aM false,aB none 0 0] 216)) w':=(aI _ _).drew.trans hb;have NE:=dJ tK;have hb1:=hb0.below Is (by simp);rw[aS,oB]at tK Is NE;rw[oB]at hb1;have hb2:=(hb1.set 0 (aM (!b1==b2))).set 1 (aB (some ⟨gv,0,none⟩) nv cv);refine⟨g+3,gv,nv,cv,rfl,by omega,by omega,by omega,hb2,?_,?_⟩
   ·exact gN (gQ (gQ tK (by simp) _) (by simp) _) (by omega)
   ·exact((((aI (g+3) W).alloc (by omega) _).trans (Is.mono (by omega))).setCell (p:=⟨g+3,0,none⟩) (by simp) _).setCell (p:=⟨g+3,1,none⟩) (by simp) _
 obtain⟨gx,gv,nv,cv,rfl,Dv,Us,lE,UY,Ld,fN⟩:=hcut;have c4:wc.cell? ⟨gx,0,none⟩=some (aM (!b1==b2)):=by rw[UY.cell];rfl
 have c5:wc.cell? ⟨gx,1,none⟩=some (aB (some ⟨gv,0,none⟩) nv cv):=by rw[UY.cell];rfl
 have f4:=UY.fz 0;have Yy:=q2.below fN (by omega);have c6:wc.cell? ⟨g+1+1,0,none⟩=some (aM false):=by rw[Yy.cell];rfl
 have c7:wc.cell? ⟨g+1+1,1,none⟩=some (aB none 0 0):=by rw[Yy.cell];rfl
 have f6:=Yy.fz 0;have f7:=Yy.fz 1;have Hbx:=zq UY;clear UY;have OX:=zq Yy;clear Yy q0 q1 q2;clear c0 c1 c2 c3 oB;have hBf:=zq (hB.trans (fN.mono (by omega:g≤g+3)));clear hB fN;by_cases hz:nv=0
 ·have hMN:M*N=0:=by
   have h3:=Ld.1;simp only[cG,nC]at h3;exact(eB cN).1 (dD (by omega))
  subst hz;have HMN:=zq hMN;clear hMN;have pW:∀sl:bB,bZ (((wc.setCell ⟨gx,0,none⟩ (aM false)).setCell ⟨g+1+1,0,none⟩ (aM false)).setCell ⟨g+1+1,1,none⟩ sl) (g+1+1) #[aM false,sl] 216:=fun sl=>
   ((OX.out.other (a:=⟨gx,0,none⟩) (aM false) (by show g+1+1≠gx;omega)).set 0 (aM false)).set 1 sl
  have ES:=zq pW;clear pW;go_wp2;refine cD (lH uu _ _ (g+1+1) 216 _ _ _ rfl (ES.out _) mC rfl (by kernel_rfl)) rfl ⟨_,_,rfl,?_,?_,?_⟩
  ·rw[←OR,HMN.out];simp[eE]
  ·rw[Hg.out];exact⟨gv,0,cv,rfl,gN (cX (cX (cX Ld (by show gv≠gx;omega) _) (by show gv≠g+1+1;omega) _) (by show gv≠g+1+1;omega) _) (by omega)⟩
  ·rw[Hg.out];exact((hBf.out.setCell (p:=⟨gx,0,none⟩) (by show g≤gx;omega) _).setCell (p:=⟨g+1+1,0,none⟩) (by show g≤g+1+1;omega) _).setCell (p:=⟨g+1+1,1,none⟩) (by show g≤g+1+1;omega) _
 ·have Ut:((nv:Int)==0)=false:=by simp;omega
  have pW:∀(b:Bool)(sl:bB),bZ ((wc.setCell ⟨g+1+1,0,none⟩ (aM b)).setCell ⟨g+1+1,1,none⟩ sl) (g+1+1) #[aM b,sl] 216:=fun b sl=>
   (OX.out.set 0 (aM b)).set 1 sl
  have ES:=zq pW;clear pW;go_wp2;refine cD (lH uu _ _ (g+1+1) 216 _ _ _ rfl (ES.out _ _) mC rfl (by kernel_rfl)) rfl ⟨_,_,rfl,?_,?_,?_⟩
  ·exact OR b1 b2 M N
  ·rw[Hg.out];exact⟨gv,nv,cv,rfl,gN (cX (cX Ld (by show gv≠g+1+1;omega) _) (by show gv≠g+1+1;omega) _) (by omega)⟩
  ·rw[Hg.out];exact(hBf.out.setCell (p:=⟨g+1+1,0,none⟩) (by show g≤g+1+1;omega) _).setCell (p:=⟨g+1+1,1,none⟩) (by show g≤g+1+1;omega) _
theorem WO(b:Bool)(M N:Nat):eE b (M+N)=eE b M+eE b N:=by
 cases b<;>simp[eE]<;>omega
theorem OY(b:Bool)(M N:Nat)(h:N≤M):eE b (M-N)=eE b M+eE (!b) N:=by
 cases b<;>simp[eE]<;>omega
theorem OZ(b:Bool)(v1 v2:bB)(M N:Nat)(w:aE)(h1:nR w v1 RB M)(h2:nR w v2 RB N)(hM:(bM RB M).length≤1000)(hN:(bM RB N).length≤1000):
 aQ aC 215 #[dM #[aM b,v1],dM #[aM b,v2]] w fun e w'=>∃(c:Bool)(v:bB)(K:Nat),e=aO (dM #[aM c,v])∧eE c K=eE b M+eE b N∧mI w' w.heap.size v RB K∧aJ w.heap.size w w':=by
 have H1:=zq h1;clear h1;have H2:=zq h2;clear h2;have Hc:=zq (fun(W:aE)(hW:aJ w.heap.size w W)=>ep v1 v2 M N W (H1.out.below hW) (H2.out.below hW) hM hN);clear hM hN;go_enter func215,ntmps215;go_upto_region 2 with fail
 obtain⟨W,hW⟩:=nm (((w.alloc (aL #[aM b,v1] 216)).alloc (aL #[aM b,v2] 216)).alloc (aL #[aM false,aB none 0 0] 216));rw[hW];obtain⟨q0,q1,q2,hB,oB⟩:=box3 hW;clear hW;generalize hg:w.heap.size=g at *;have Hg:=zq hg;clear hg;have c0:W.cell? ⟨g,0,none⟩=some (aM b):=by rw[q0.cell];rfl
 have c1:W.cell? ⟨g,1,none⟩=some v1:=by rw[q0.cell];rfl
 have c2:W.cell? ⟨g+1,0,none⟩=some (aM b):=by rw[q1.cell];rfl
 have c3:W.cell? ⟨g+1,1,none⟩=some v2:=by rw[q1.cell];rfl
 have c4:W.cell? ⟨g+1+1,0,none⟩=some (aM false):=by rw[q2.cell];rfl
 have c5:W.cell? ⟨g+1+1,1,none⟩=some (aB none 0 0):=by rw[q2.cell];rfl
 have f4:W.frozen? ⟨g+1+1,0,none⟩=false:=q2.fz 0;have f5:W.frozen? ⟨g+1+1,1,none⟩=false:=q2.fz 1;have OX:=zq q2;clear q0 q1 q2;have n1:¬g=g+1+1:=by omega
 have n2:¬g+1+1=g:=by omega
 go_region_held3 (fun w'=>w'.cell? ⟨g,0,none⟩=some (aM b)∧w'.cell? ⟨g,1,none⟩=some v1∧w'.cell? ⟨g+1,1,none⟩=some v2) (go_keep)
  ((go_at_call 263;refine(Hc.out _ (by exact hB.drew)).mono ?_;rintro e w' ⟨v,rfl,⟨gv,nv,cv,rfl,Ld⟩,hb⟩;have:=ck hb g 0 (aM b);have:=ck hb g 1 (v1);have:=ck hb (g+1) 1 (v2);have:=ck hb (g+1+1) 0 (aM false);have:=ck hb (g+1+1) 1 (aB none 0 0);have l4:=fzk hb (p:=⟨g+1+1,0,none⟩) (by show g+1+1<W.heap.size;omega) (by simp[*]);have l5:=fzk hb (p:=⟨g+1+1,1,none⟩) (by show g+1+1<W.heap.size;omega) (by simp[*])))
 go_wp2;have tK:w'.ownsRow W.heap.size 3 1 (aB (some ⟨gv,0,none⟩) nv cv) nv ((bM RB (M+N)).map iv):=Ld;have Is:aJ W.heap.size W w':=(aI _ W).drew.trans hb;have NE:=dJ tK;rw[oB]at tK Is NE;have pW:=((OX.out.below Is (by omega)).set 0 (aM b)).set 1 (aB (some ⟨gv,0,none⟩) nv cv);refine cD (lH MG _ _ (g+1+1) 216 _ _ _ rfl pW mC rfl (by kernel_rfl)) rfl ⟨_,_,M+N,rfl,WO b M N,?_,?_⟩
 ·rw[Hg.out];exact⟨gv,nv,cv,rfl,gN (cX (cX tK (by show gv≠g+1+1;omega) _) (by show gv≠g+1+1;omega) _) (by omega)⟩
 ·rw[Hg.out];exact((hB.trans (Is.mono (by omega))).setCell (p:=⟨g+1+1,0,none⟩) (by show g≤g+1+1;omega) _).setCell (p:=⟨g+1+1,1,none⟩) (by show g≤g+1+1;omega) _
theorem O4(b:Bool)(v1 v2:bB)(M N:Nat)(w:aE)(h1:nR w v1 RB M)(h2:nR w v2 RB N)(hM:(bM RB M).length≤1000)(hN:(bM RB N).length≤1000):
 aQ aC 215 #[dM #[aM b,v1],dM #[aM (!b),v2]] w fun e w'=>∃(c:Bool)(v:bB)(K:Nat),e=aO (dM #[aM c,v])∧eE c K=eE b M+eE (!b) N∧mI w' w.heap.size v RB K∧aJ w.heap.size w w':=by
 have H1:=zq h1;have H2:=zq h2;obtain⟨a1,n1,k1,e1,-⟩:=h1;obtain⟨a2,n2,k2,e2,-⟩:=h2;subst e1 e2;have Hc:=zq (fun(W:aE)(hW:aJ w.heap.size w W)=>Ri _ _ M N W (H1.out.below hW) (H2.out.below hW) hM hN);have Hd1:=zq (fun(W:aE)(hW:aJ w.heap.size w W)(h:N≤M)=>Dw _ _ M N W (H1.out.below hW) (H2.out.below hW) hM h);have Hd2:=zq (fun(W:aE)(hW:aJ w.heap.size w W)(h:M≤N)=>Dw _ _ N M W (H2.out.below hW) (H1.out.below hW) hN h);clear hM hN;have hbb:(b== !b)=false:=by cases b<;>rfl
 go_enter func215,ntmps215;go_wp2_with fail
 obtain⟨W,hW⟩:=nm (((w.alloc (aL #[aM b,aB a1 n1 k1] 216)).alloc (aL #[aM (!b),aB a2 n2 k2] 216)).alloc (aL #[aM false,aB none 0 0] 216));rw[hW];obtain⟨q0,q1,q2,hB,oB⟩:=box3 hW;clear hW;refine(Hc.out W hB).mono ?_;rintro e w1⟨rfl,hb1⟩;replace q0:=q0.below hb1 (by omega);replace q1:=q1.below hb1 (by omega);replace q2:=q2.below hb1 (by omega);have Rs:w.heap.size+3≤w1.heap.size:=by have:=hb1.size;omega
 replace hB:=aH hB hb1 (by omega);clear hb1 oB;generalize hg:w.heap.size=g at *;have Hg:=zq hg;clear hg;have c0:w1.cell? ⟨g,0,none⟩=some (aM b):=by rw[q0.cell];rfl
 have c1:w1.cell? ⟨g,1,none⟩=some (aB a1 n1 k1):=by rw[q0.cell];rfl
 have c2:w1.cell? ⟨g+1,0,none⟩=some (aM (!b)):=by rw[q1.cell];rfl
 have c3:w1.cell? ⟨g+1,1,none⟩=some (aB a2 n2 k2):=by rw[q1.cell];rfl
 have f0:=q0.fz 0;have f1:=q0.fz 1;have f2:=q1.fz 0;have f3:=q1.fz 1;have Q0:=zq q0;have Q1:=zq q1;have Q2:=zq q2;clear q0 q1 q2;have hcm:aY (FU M N<0↔M<N):=by
  show _↔_;unfold FU;split
  ·simp[*]
  ·split <;>simp[*]<;>omega
 generalize FU M N=cc at *;go_upto_if 24 with fail;go_cut[] (fun wx=>∃(c:Bool)(u1 u2:bB)(K L:Nat),bZ wx g #[aM c,u1] 216∧bZ wx (g+1) #[aM (!c),u2] 216∧bZ wx (g+1+1) #[aM false,aB none 0 0] 216∧L≤K∧
  eE c K+eE (!c) L=eE b M+eE (!b) N∧aJ g w wx∧g+3≤wx.heap.size∧
  (∀W,aJ g w W→aQ aC 240 #[u1,u2] W fun e w'=>∃v,e=aO v∧mI w' W.heap.size v RB (K-L)∧aJ W.heap.size W w'))
 case first =>
  by_cases hlt:M<N
  ·have hd:cc<0:=hcm.out.2 hlt;have m1:¬g=g+1:=by omega
   have m2:¬g+1=g:=by omega
   have Z0:=zq ((((Q0.out.set 0 (aM (!b))).set 1 (aB a2 n2 k2)).other (a:=⟨g+1,0,none⟩) (aM b) (by show g≠g+1;omega)).other (a:=⟨g+1,1,none⟩) (aB a1 n1 k1) (by show g≠g+1;omega));have Z1:=zq ((((Q1.out.other (a:=⟨g,0,none⟩) (aM (!b)) (by show g+1≠g;omega)).other (a:=⟨g,1,none⟩) (aB a2 n2 k2) (by show g+1≠g;omega)).set 0 (aM b)).set 1 (aB a1 n1 k1));have Z2:=zq ((((Q2.out.other (a:=⟨g,0,none⟩) (aM (!b)) (by show g+1+1≠g;omega)).other (a:=⟨g,1,none⟩) (aB a2 n2 k2) (by show g+1+1≠g;omega)).other (a:=⟨g+1,0,none⟩) (aM b) (by show g+1+1≠g+1;omega)).other (a:=⟨g+1,1,none⟩) (aB a1 n1 k1) (by show g+1+1≠g+1;omega));have Hlt:=zq hlt;clear hlt;go_wp2;go_meet;case rel=>exact⟨!b,_,_,N,M,Z0.out,by rw[Bool.not_not];exact Z1.out,Z2.out,by have:=Hlt.out;omega,by rw[Bool.not_not,Int.add_comm],(((hB.setCell (p:=⟨g,0,none⟩) (by simp) _).setCell (p:=⟨g,1,none⟩) (by simp) _).setCell (p:=⟨g+1,0,none⟩) (by simp) _).setCell (p:=⟨g+1,1,none⟩) (by simp) _,by simpa using Rs,fun W hW=>Hd2.out W hW (by have:=Hlt.out;omega)⟩
  ·have hd:¬cc<0:=fun h=>hlt (hcm.out.1 h);have Hlt:=zq hlt;clear hlt;go_wp2;go_meet;case rel=>exact⟨b,_,_,M,N,Q0.out,Q1.out,Q2.out,by have:=Hlt.out;omega,rfl,hB,Rs,fun W hW=>Hd1.out W hW (by have:=Hlt.out;omega)⟩
 obtain⟨c,u1,u2,K,L,q0,q1,q2,hLK,hsg,eQ,oB,hM⟩:=hcut;clear c0 c1 c2 c3 f0 f1 f2 f3 Q0 Q1 Q2 Hc Hd1 Hd2 hcm hB Rs H1 H2;have HM:=zq hM;clear hM;have Hsg:=zq hsg;clear hsg;have c0:wc.cell? ⟨g,0,none⟩=some (aM c):=by rw[q0.cell];rfl
 have c1:wc.cell? ⟨g,1,none⟩=some u1:=by rw[q0.cell];rfl
 have c3:wc.cell? ⟨g+1,1,none⟩=some u2:=by rw[q1.cell];rfl
 clear q0 q1;generalize hW:wc=W at *;clear hW;go_upto_region 5 with fail
 obtain⟨G,hG⟩:=nm W.heap.size;have HG:=zq hG;have m1:¬G=g:=by omega
 have m2:¬G=g+1:=by omega
 have m3:¬g=G:=by omega
 have m4:¬g+1=G:=by omega
 go_cut[5] (fun p wx=>∃(gx gv nv cv:Nat),p=.pointer (some ⟨gx,0,none⟩)∧g+3≤gx∧g+3≤gv∧gx≠gv∧bZ wx gx #[aM c,aB (some ⟨gv,0,none⟩) nv cv] 216∧
  wx.ownsRow (g+3) 3 1 (aB (some ⟨gv,0,none⟩) nv cv) nv ((bM RB (K-L)).map iv)∧aJ (g+3) W wx)
 case first =>
  go_region_held3 (fun w'=>w'.cell? ⟨g,0,none⟩=some (aM c)∧w'.cell? ⟨g,1,none⟩=some u1∧w'.cell? ⟨g+1,1,none⟩=some u2) (go_keep)
   ((go_at_call 240;refine(HM.out _ (by first |exact eQ.drew|exact(eQ.alloc (by omega) _).drew)).mono ?_;rintro e w' ⟨v,rfl,⟨gv,nv,cv,rfl,Ld⟩,hb⟩;have:=ck hb g 0 (aM c);have:=ck hb g 1 (u1);have:=ck hb (g+1) 1 (u2);obtain⟨kc,kf⟩:=bcell hb;have hz:=hb.size;simp at hz kc kf))
  all_goals go_wp2
  all_goals go_meet
  case rel=>
   have tK:w'.ownsRow W.heap.size 3 1 (aB (some ⟨gv,0,none⟩) nv cv) nv ((bM RB (K-L)).map iv):=Ld;have Is:aJ W.heap.size W w':=(aI _ W).drew.trans hb;have NE:=dJ tK;rw[HG.out]at tK Is NE;exact⟨_,gv,nv,cv,rfl,by omega,by omega,by omega,bZ.new w' _ _,gN (tK.alloc _) (by omega),(Is.mono (by omega)).alloc (by omega) _⟩
  case rel=>
   have tK:w'.ownsRow (W.alloc (aL #[aM false,aB none 0 0] 216)).heap.size 3 1 (aB (some ⟨gv,0,none⟩) nv cv) nv ((bM RB (K-L)).map iv):=Ld;have hb0:=bZ.new W #[aM false,aB none 0 0] 216;have Is:aJ (W.alloc (aL #[aM false,aB none 0 0] 216)).heap.size (W.alloc (aL #[aM false,aB none 0 0] 216)) w':=(aI _ _).drew.trans hb;have NE:=dJ tK;have hb1:=hb0.below Is (by simp);rw[aS,HG.out]at tK Is NE;rw[HG.out]at hb1;have hb2:=(hb1.set 0 (aM c)).set 1 (aB (some ⟨gv,0,none⟩) nv cv);refine⟨G,gv,nv,cv,rfl,by omega,by omega,by omega,hb2,?_,?_⟩
   ·exact gN (gQ (gQ tK (by simp) _) (by simp) _) (by omega)
   ·exact((((aI (g+3) W).alloc (by omega) _).trans (Is.mono (by omega))).setCell (p:=⟨G,0,none⟩) (by show g+3≤G;omega) _).setCell (p:=⟨G,1,none⟩) (by show g+3≤G;omega) _
 obtain⟨gx,gv,nv,cv,rfl,Dv,Us,lE,UY,Ld,fN⟩:=hcut;have c4:wc.cell? ⟨gx,0,none⟩=some (aM c):=by rw[UY.cell];rfl
 have c5:wc.cell? ⟨gx,1,none⟩=some (aB (some ⟨gv,0,none⟩) nv cv):=by rw[UY.cell];rfl
 have f4:=UY.fz 0;have Yy:=q2.below fN (by omega);have c6:wc.cell? ⟨g+1+1,0,none⟩=some (aM false):=by rw[Yy.cell];rfl
 have c7:wc.cell? ⟨g+1+1,1,none⟩=some (aB none 0 0):=by rw[Yy.cell];rfl
 have f6:=Yy.fz 0;have f7:=Yy.fz 1;have Hbx:=zq UY;clear UY;have OX:=zq Yy;clear Yy q2;clear c0 c1 c3 oB hG;have hBf:=zq (eQ.trans (fN.mono (by omega:g≤g+3)));clear eQ fN;have hss:=zq ((OY c K L hLK).trans Hsg.out);by_cases hz:nv=0
 ·have hKL:K-L=0:=by
   have h3:=Ld.1;simp only[cG,nC]at h3;exact(eB cN).1 (dD (by omega))
  subst hz;have HKL:=zq hKL;clear hKL;have pW:∀sl:bB,bZ (((wc.setCell ⟨gx,0,none⟩ (aM false)).setCell ⟨g+1+1,0,none⟩ (aM false)).setCell ⟨g+1+1,1,none⟩ sl) (g+1+1) #[aM false,sl] 216:=fun sl=>
   ((OX.out.other (a:=⟨gx,0,none⟩) (aM false) (by show g+1+1≠gx;omega)).set 0 (aM false)).set 1 sl
  have ES:=zq pW;clear pW;go_wp2;refine cD (lH MG _ _ (g+1+1) 216 _ _ _ rfl (ES.out _) mC rfl (by kernel_rfl)) rfl ⟨_,_,K-L,rfl,?_,?_,?_⟩
  ·rw[←hss.out,HKL.out];cases c<;>rfl
  ·rw[Hg.out];exact⟨gv,0,cv,rfl,gN (cX (cX (cX Ld (by show gv≠gx;omega) _) (by show gv≠g+1+1;omega) _) (by show gv≠g+1+1;omega) _) (by omega)⟩
  ·rw[Hg.out];exact((hBf.out.setCell (p:=⟨gx,0,none⟩) (by show g≤gx;omega) _).setCell (p:=⟨g+1+1,0,none⟩) (by show g≤g+1+1;omega) _).setCell (p:=⟨g+1+1,1,none⟩) (by show g≤g+1+1;omega) _
 ·have Ut:((nv:Int)==0)=false:=by simp;omega
  have pW:∀(b:Bool)(sl:bB),bZ ((wc.setCell ⟨g+1+1,0,none⟩ (aM b)).setCell ⟨g+1+1,1,none⟩ sl) (g+1+1) #[aM b,sl] 216:=fun b sl=>
   (OX.out.set 0 (aM b)).set 1 sl
  have ES:=zq pW;clear pW;go_wp2;refine cD (lH MG _ _ (g+1+1) 216 _ _ _ rfl (ES.out _ _) mC rfl (by kernel_rfl)) rfl ⟨_,_,K-L,rfl,hss.out,?_,?_⟩
  ·rw[Hg.out];exact⟨gv,nv,cv,rfl,gN (cX (cX Ld (by show gv≠g+1+1;omega) _) (by show gv≠g+1+1;omega) _) (by omega)⟩
  ·rw[Hg.out];exact(hBf.out.setCell (p:=⟨g+1+1,0,none⟩) (by show g≤g+1+1;omega) _).setCell (p:=⟨g+1+1,1,none⟩) (by show g≤g+1+1;omega) _
theorem KB(b1 b2:Bool)(v1 v2:bB)(M N:Nat)(w:aE)(h1:nR w v1 RB M)(h2:nR w v2 RB N)(hM:(bM RB M).length≤1000)(hN:(bM RB N).length≤1000):
 aQ aC 215 #[dM #[aM b1,v1],dM #[aM b2,v2]] w fun e w'=>∃(c:Bool)(v:bB)(K:Nat),e=aO (dM #[aM c,v])∧eE c K=eE b1 M+eE b2 N∧mI w' w.heap.size v RB K∧aJ w.heap.size w w':=by
 by_cases h:b1=b2
 ·subst h;exact OZ b1 v1 v2 M N w h1 h2 hM hN
 ·obtain rfl:b2= !b1:=by cases b1<;>cases b2<;>simp_all
  exact O4 b1 v1 v2 M N w h1 h2 hM hN
end
section
open Go Go.RowKit Go.Lib
theorem KC(b:Bool)(N:Nat):eE (!b) N= -eE b N:=by cases b<;>simp[eE]
theorem O6(b:Bool)(v:bB)(N:Nat)(w:aE)(h:nR w v RB N):
 aQ aC 219 #[dM #[aM b,v]] w fun e w'=>∃c:Bool,e=aO (dM #[aM c,v])∧eE c N= -eE b N∧aJ w.heap.size w w':=by
 obtain⟨a1,n1,c1,rfl,hn1,_,_,_,_⟩:=h;by_cases h0:n1=0
 ·have hN:N=0:=(eB cN).1 (dD (by omega));have HN:=zq hN;clear hN hn1;subst h0;have pW:=bZ.new (w.alloc (aL #[aM b,aB a1 0 c1] 216)) #[aM b,aB a1 0 c1] 216;rw[aS]at pW;have ES:=zq pW;clear pW;have hB:aJ w.heap.size w ((w.alloc (aL #[aM b,aB a1 0 c1] 216)).alloc (aL #[aM b,aB a1 0 c1] 216)):=((aI _ _).alloc (aD _) _).alloc (by simp) _;go_enter func219,ntmps219;go_wp2;exact cD (lH uv _ _ (w.heap.size+1) 216 _ _ _ rfl ES.out mC rfl (by kernel_rfl)) rfl ⟨b,rfl,by rw[HN.out];cases b<;>rfl,hB⟩
 ·have Ut:((n1:Int)==0)=false:=by simp;omega
  clear h0 hn1;have pW:=bZ.new (w.alloc (aL #[aM b,aB a1 n1 c1] 216)) #[aM (!b),aB a1 n1 c1] 216;rw[aS]at pW;have ES:=zq pW;clear pW;have hB:aJ w.heap.size w ((w.alloc (aL #[aM b,aB a1 n1 c1] 216)).alloc (aL #[aM (!b),aB a1 n1 c1] 216)):=((aI _ _).alloc (aD _) _).alloc (by simp) _;go_enter func219,ntmps219;go_wp2;exact cD (lH uv _ _ (w.heap.size+1) 216 _ _ _ rfl ES.out mC rfl (by kernel_rfl)) rfl ⟨!b,rfl,KC b N,hB⟩
theorem vV(s t:ByteArray)(w:aE)(hs:s.size≤cA)(ht:t.size≤cA):
 aQ aC 185 #[aA s,aA t] w (Rt (aF aG (if jE s.data.toList=0 then jE t.data.toList else jE s.data.toList)) w):=by
 by_cases h:jE s.data.toList=0
 ·rw[ip h];go_enter func185,ntmps185;go_wp2_with fail
  refine ka (Dy s w hs) fun w1 hb1=>?_;rw[h];clear h;go_wp2_with fail
  refine ka (Dy t w1 ht) fun w2 hb2=>?_;have hB:=aH hb1 hb2 hb1.size;go_wp2;go_ret;exact⟨rfl,hB⟩
 ·rw[iN h];have h':(jE s.data.toList !=0)=true:=by simp[h]
  have hc:=zq (Dy s w hs);generalize jE s.data.toList=c at *;clear h;go_enter func185,ntmps185;go_wp2_with fail
  refine ka hc.out fun w1 hb1=>?_;go_wp2;go_ret;exact⟨rfl,hb1⟩
theorem Yz(n:Int):jE (bL n)=if n.natAbs<10^300 then 0 else 4:=by
 have:=cJ n.natAbs 300 (by decide);rw[jE,ip (yA n),oM];by_cases h:n.natAbs<10^300
 ·rw[ip h,iN (by omega)]
 ·rw[iN h,ip (by omega)]
theorem RD(n:Int)(k:Nat)(hk:0<k)(h:n.natAbs<10^k):(bL n).length≤k+1:=by
 have:=(cJ n.natAbs k hk).2 h;by_cases hn:n<0
 ·rw[rE hn];simp;omega
 ·rw[gO (by omega)];omega
theorem kG(b:Bool)(N:Nat):(eE b N).natAbs=N:=by cases b<;>simp[eE]
theorem yJ(b:Bool)(v:bB)(N:Nat)(w:aE)(h:nR w v RB N)(hl:(bM RB N).length≤1000):
 aQ aC 214 #[dM #[aM b,v]] w (Rt (bO #[aA (bs (iY (eE b N)).1),aF aG (iY (eE b N)).2]) w):=by
 have fP:aJ w.heap.size w (w.alloc (aL #[aM b,v] 216)):=(aI _ _).alloc (aD _) _;have hw:=zq (Dz b v N (w.alloc (aL #[aM b,v] 216)) (h.below fP) hl);have kN:(bL (eE b N)).length≤6003:=by
  have h1:=RD (eE b N) (6*(bM RB N).length+1) (by omega) (by
   rw[kG];have:=cS cN N;rw[show RB=10^6 from rfl,←rm]at this;exact bQ this (bN (by decide) (by rw[show(10^6:Nat)=RB from rfl];omega)))
  omega
 have YA:=zq kN;clear kN;obtain⟨a1,n1,c1,rfl,-⟩:=h;go_enter func214,ntmps214;go_wp2_with fail
 refine ka hw.out fun w1 hb1=>?_;have gG:=aH fP hb1 (by simp);clear fP hb1 hw;go_wp2_with fail
 refine kc (Dy _ w1 (by rw[bU];have:=YA.out;simp only[cA];omega)) gG fun w2 eQ=>?_;clear gG;rw[aX,Yz];by_cases hlim:(eE b N).natAbs<10^300
 ·rw[ip hlim];have hr:aY (iY (eE b N)=(bL (eE b N),0)):=by show _=_;rw[iY,ip hlim]
  clear hlim;go_wp2;go_ret2;rw[hr.out];exact⟨rfl,eQ⟩
 ·rw[iN hlim];have hr:aY (iY (eE b N)=([],4)):=by show _=_;rw[iY,iN hlim]
  clear hlim;go_wp2;go_ret2;rw[hr.out];exact⟨rfl,eQ⟩
def vW(l:List UInt8)(i:Nat):Nat:=num ((l.take i).drop (rF l))
theorem UZ(l:List UInt8)(i:Nat)(h:i<l.length)(hf:rF l≤i):vW l (i+1)=vW l i*10+(l[i].toNat-48):=Ek l (rF l) i hf h
theorem It(l:List UInt8)(i:Nat)(h:i≤rF l):vW l i=0:=by
 unfold vW;rw[List.drop_of_length_le (by simp;omega)];rfl
theorem YB(l:List UInt8):vW l l.length=num (mag l):=by
 unfold vW;rw[List.take_length,vQ]
theorem YC(l:List UInt8)(h:wS l=true)(i:Nat)(hi:i<l.length)(hf:rF l≤i):48≤(l[i].toNat:Int)∧(l[i].toNat:Int)≤57:=by
 have:=kE h;rw[vQ,oT]at this;have:=this l[i] (by rw[List.mem_iff_getElem];exact⟨i-rF l,by simp;omega,by simp;congr 1;omega⟩);simp only[dG,Bool.and_eq_true,decide_eq_true_eq]at this;omega
theorem RG(l:List UInt8)(h:wS l=true)(i:Nat)(hi:i≤l.length):vW l i<10^(i-rF l):=by
 have hd:=kE h;rw[vQ]at hd;have:=nM ((l.take i).drop (rF l)) (by
  rw[oT]at hd⊢;intro x hx;rw[List.drop_take]at hx;exact hd x (List.mem_of_mem_take hx))
 rwa[kK,List.length_take,Nat.min_eq_left hi]at this
theorem CH(s:ByteArray)(w:aE)(h:17<s.size)(hs:s.size≤cA):
 aQ aC 236 #[aA s] w fun e w'=>e=aO (bO #[aF aG 0,aM false])∧w=w':=by
 unfold cA at hs;go_enter func236,ntmps236;go_wp2;go_ret2;exact⟨rfl,rfl⟩
theorem Iu(s:ByteArray)(w:aE)(h:s.size≤17)(hok:wS s.data.toList=true):
 aQ aC 236 #[aA s] w fun e w'=>e=aO (bO #[aF aG (dI s.data.toList),aM true])∧w=w':=by
 have WK:rF s.data.toList<s.size:=uX hok;have ff:=rG s;have lE:=pE s (by omega);have QL:=zq hok;clear hok;obtain⟨f,hf⟩:=nm (rF s.data.toList);rw[hf]at WK ff;have Hf:=zq hf;clear hf;have Hf1:=zq ff;clear ff;have WL:=zq lE;clear lE;have h0:0<s.size:=by omega
 go_enter func236,ntmps236;go_wp2;go_loop [4,5] (fun n i=>∃I:Nat,i=aF aG I∧I≤s.size∧n=aF aG (vW s.data.toList I)) (fun _ i=>s.size-(aK i).toNat);case atStart=>exact⟨0,rfl,bR _,by rw[It _ _ (bR _)];rfl⟩
 case round=>
  obtain⟨I,rfl,hI,rfl⟩:=hrel;have hb:vW s.data.toList I≤99999999999999999:=by
   have h1:=RG s.data.toList QL.out I hI;have:10^(I-rF s.data.toList)≤10^17:=bN (by decide) (by omega);omega
  by_cases hlt:I<s.size
  ·by_cases hfI:f≤I
   ·obtain⟨fg,MY⟩:=YC s.data.toList QL.out I hlt (by rw[Hf.out];exact hfI);change 48≤(s[I].toNat:Int)at fg;change(s[I].toNat:Int)≤57 at MY;have hns:((s[I].toNat:Int) !=45)=true:=by simp;omega
    have Io:=zq (UZ s.data.toList I hlt (by rw[Hf.out];exact hfI));have hb2:(I:Nat)<s.size→vW s.data.toList I≤9999999999999999:=by
     intro _;have h1:=RG s.data.toList QL.out I hI;have:10^(I-rF s.data.toList)≤10^16:=bN (by decide) (by omega);omega
    have hb2:=hb2 hlt;clear hb;have Io:aY (vW s.data.toList (I+1)=vW s.data.toList I*10+(s[I].toNat-48)):=Io;generalize vW s.data.toList I=A at *;go_wp2;go_round;case rel=>exact⟨I+1,by go_num,by omega,by rw[Io.out];congr 1;omega⟩
    case measure=>simp only[aK];omega
   ·have h1:f=1∧I=0:=by have:=Hf1.out;split at this<;>omega
    obtain⟨h1,rfl⟩:=h1;have hn1:dY s=true:=by have:=Hf1.out;rw[h1]at this;simpa using this
    have hns:((s[0].toNat:Int) !=45)=false:=by
     rw[WL.out]at hn1;have:(s[0].toNat:Int)=45:=by simpa using hn1
     simp[this]
    have Io:aY (vW s.data.toList 1=vW s.data.toList 0):=by show _=_;rw[It _ 1 (by rw[Hf.out];omega),It _ 0 (bR _)]
    generalize vW s.data.toList 0=A at *;clear hn1;go_wp2;go_round;case rel=>exact⟨1,rfl,by omega,by rw[Io.out]⟩
    case measure=>simp only[aK];omega
  ·obtain rfl:I=s.size:=by omega
   have Io:aY (vW s.data.toList s.size=num (mag s.data.toList)):=YB s.data.toList;rw[Io.out]at hb⊢;have Bu:aY (dI s.data.toList=if dY s=true then -(num (mag s.data.toList):Int)else(num (mag s.data.toList):Int)):=by
    show _=_;by_cases hn:dY s=true
    ·rw[ip hn,dI,ip];rw[WL.out]at hn;exact(yI s h0).2 (by
      have:(s[0].toNat:Int)=45:=by simpa using hn
      omega)
    ·rw[iN hn,dI,iN];intro e;have:=(yI s h0).1 e;rw[WL.out]at hn;exact hn (by simp[this])
   by_cases hn:dY s=true
   ·have ht:((s[0].toNat:Int)==45)=true:=by rw[←WL.out];exact hn
    have AA:aY (dI s.data.toList= -(num (mag s.data.toList):Int)):=by show _=_;rw[Bu.out,ip hn]
    clear Bu hn Io;generalize num (mag s.data.toList)=A at *;go_wp2;go_ret2;exact⟨by rw[AA.out];rfl,rfl⟩
   ·have ht:((s[0].toNat:Int)==45)=false:=by rw[←WL.out];simpa using hn
    have AA:aY (dI s.data.toList=(num (mag s.data.toList):Int)):=by show _=_;rw[Bu.out,iN hn]
    clear Bu hn Io;generalize num (mag s.data.toList)=A at *;go_wp2;go_ret2;exact⟨by rw[AA.out];rfl,rfl⟩
end
section
open Go.Shelf
def Tryz.laysM171_ren:lI:=⟨fun |171=>141|243=>199|246=>250|283=>284|284=>285|285=>286|286=>287|129=>229|317=>303|318=>304|319=>305|320=>306|337=>320|338=>321|n=>n,fun |3=>3|9=>9|2=>2|4=>4|171=>301|0=>0|53=>256|37=>241|5=>5|173=>303|212=>322|51=>254|20=>20|213=>323|46=>198|232=>343|233=>344|n=>n,fun |17=>2|18=>6|19=>7|n=>n⟩
theorem Tryz.laysM171:Go.Proofs.LaysM.n171 aC Tryz.laysM171_ren:={
 mixed:=by kernel_rfl
 f129:=func229.trans (congrArg some (by kernel_rfl))
 f171:=func141.trans (congrArg some (by kernel_rfl))
 f243:=func199.trans (congrArg some (by kernel_rfl))
 f246:=func250.trans (congrArg some (by kernel_rfl))
 f283:=func284.trans (congrArg some (by kernel_rfl))
 f284:=func285.trans (congrArg some (by kernel_rfl))
 f285:=func286.trans (congrArg some (by kernel_rfl))
 f286:=func287.trans (congrArg some (by kernel_rfl))
 f317:=func303.trans (congrArg some (by kernel_rfl))
 f318:=func304.trans (congrArg some (by kernel_rfl))
 f319:=func305.trans (congrArg some (by kernel_rfl))
 f320:=func306.trans (congrArg some (by kernel_rfl))
 f337:=func320.trans (congrArg some (by kernel_rfl))
 f338:=func321.trans (congrArg some (by kernel_rfl))
 t0:=BX
 a0:=KM
 z0:=I7
 v0:=Cx
 t2:=rt
 a2:=isAgg2
 z2:=sizeOf2
 v2:=uw
 t3:=gM
 a3:=nE
 z3:=oV
 v3:=kQ
 t4:=iQ
 a4:=pB
 z4:=nF
 v4:=jM
 t5:=oJ
 a5:=xP
 z5:=vJ
 v5:=pL
 t9:=lV
 a9:=tD
 z9:=qY
 v9:=mU
 t20:=I8
 a20:=TQ
 z20:=Qm
 v20:=Kt
 t37:=Ax
 a37:=Qn
 z37:=Nt
 v37:=I9
 t46:=sZ
 a46:=A9
 z46:=zR
 v46:=uQ
 t51:=zT
 a51:=FM
 z51:=Eh
 v51:=AG
 t53:=H9
 a53:=Qo
 z53:=Nu
 v53:=Ja
 t171:=am
 a171:=isAgg301
 z171:=sizeOf301
 v171:=dd
 t173:=an
 a173:=isAgg303
 z173:=sizeOf303
 v173:=de
 t212:=ap
 a212:=isAgg322
 z212:=sizeOf322
 v212:=df
 t213:=au
 a213:=isAgg323
 z213:=sizeOf323
 t232:=av
 a232:=isAgg343
 z232:=sizeOf343
 v232:=dh
 t233:=aw
 a233:=isAgg344
 z233:=sizeOf344
 v233:=di
 g17:=by kernel_rfl
 g18:=by kernel_rfl
 g19:=by kernel_rfl
 i0:=by kernel_rfl
 i2:=by kernel_rfl
 i3:=by kernel_rfl
 i4:=by kernel_rfl
 i5:=by kernel_rfl
 i9:=by kernel_rfl
 i20:=by kernel_rfl
 i37:=by kernel_rfl
 i46:=by kernel_rfl
 i51:=by kernel_rfl
 i53:=by kernel_rfl
 i171:=by kernel_rfl
 i173:=by kernel_rfl
 i212:=by kernel_rfl
 i232:=by kernel_rfl
 i233:=by kernel_rfl
 m17:=by kernel_rfl
 m18:=by kernel_rfl
 m19:=by kernel_rfl}
def Tryz.lays172_ren:lI:=⟨fun |172=>198|244=>248|245=>249|247=>279|279=>280|280=>281|281=>282|282=>283|287=>300|316=>301|171=>141|205=>302|321=>318|322=>319|243=>199|246=>250|283=>284|284=>285|285=>286|286=>287|129=>229|317=>303|318=>304|319=>305|320=>306|337=>320|338=>321|n=>n,fun |9=>9|3=>3|75=>227|76=>228|4=>4|5=>5|167=>295|37=>241|0=>0|85=>296|2=>2|168=>298|53=>256|175=>317|46=>198|210=>320|127=>309|145=>335|143=>333|21=>21|171=>301|173=>303|212=>322|51=>254|20=>20|213=>323|232=>343|233=>344|80=>277|n=>n,fun |15=>0|16=>1|17=>2|18=>6|19=>7|n=>n⟩
theorem Tryz.lays172:Go.Proofs.Lays.n172 aC Tryz.lays172_ren:={
 mixed:=by kernel_rfl
 f129:=func229.trans (congrArg some (by kernel_rfl))
 f171:=func141.trans (congrArg some (by kernel_rfl))
 f172:=func198.trans (congrArg some (by kernel_rfl))
 f205:=func302.trans (congrArg some (by kernel_rfl))
 f243:=func199.trans (congrArg some (by kernel_rfl))
 f244:=func248.trans (congrArg some (by kernel_rfl))
 f245:=func249.trans (congrArg some (by kernel_rfl))
 f246:=func250.trans (congrArg some (by kernel_rfl))
 f247:=func279.trans (congrArg some (by kernel_rfl))
 f279:=func280.trans (congrArg some (by kernel_rfl))
 f280:=func281.trans (congrArg some (by kernel_rfl))
 f281:=func282.trans (congrArg some (by kernel_rfl))
 f282:=func283.trans (congrArg some (by kernel_rfl))
 f283:=func284.trans (congrArg some (by kernel_rfl))
 f284:=func285.trans (congrArg some (by kernel_rfl))
 f285:=func286.trans (congrArg some (by kernel_rfl))
 f286:=func287.trans (congrArg some (by kernel_rfl))
 f287:=func300.trans (congrArg some (by kernel_rfl))
 f316:=func301.trans (congrArg some (by kernel_rfl))
 f317:=func303.trans (congrArg some (by kernel_rfl))
 f318:=func304.trans (congrArg some (by kernel_rfl))
 f319:=func305.trans (congrArg some (by kernel_rfl))
 f320:=func306.trans (congrArg some (by kernel_rfl))
 f321:=func318.trans (congrArg some (by kernel_rfl))
 f322:=func319.trans (congrArg some (by kernel_rfl))
 f337:=func320.trans (congrArg some (by kernel_rfl))
 f338:=func321.trans (congrArg some (by kernel_rfl))
 t0:=BX
 a0:=KM
 z0:=I7
 v0:=Cx
 t2:=rt
 a2:=isAgg2
 z2:=sizeOf2
 v2:=uw
 t3:=gM
 a3:=nE
 z3:=oV
 v3:=kQ
 t4:=iQ
 a4:=pB
 z4:=nF
 v4:=jM
 t5:=oJ
 a5:=xP
 z5:=vJ
 v5:=pL
 t9:=lV
 a9:=tD
 z9:=qY
 v9:=mU
 t20:=I8
 a20:=TQ
 z20:=Qm
 v20:=Kt
 t21:=dj
 a21:=isAgg21
 z21:=sizeOf21
 v21:=ru
 t37:=Ax
 a37:=Qn
 z37:=Nt
 v37:=I9
 t46:=sZ
 a46:=A9
 z46:=zR
 v46:=uQ
 t51:=zT
 a51:=FM
 z51:=Eh
 v51:=AG
 t53:=H9
 a53:=Qo
 z53:=Nu
 v53:=Ja
 t75:=az
 a75:=isAgg227
 z75:=sizeOf227
 v75:=dm
 t76:=ba
 a76:=isAgg228
 z76:=sizeOf228
 v76:=dn
 t85:=underlying296
 a85:=isAgg296
 z85:=sizeOf296
 v85:=zeroValue296
 t127:=bb
 a127:=isAgg309
 z127:=sizeOf309
 v127:=dp
 t143:=underlying333
 a143:=isAgg333
 z143:=sizeOf333
 v143:=zeroValue333
 t145:=underlying335
 a145:=isAgg335
 z145:=sizeOf335
 v145:=zeroValue335
 t167:=underlying295
 a167:=isAgg295
 z167:=sizeOf295
 v167:=zeroValue295
 t168:=underlying298
 a168:=isAgg298
 z168:=sizeOf298
 v168:=zeroValue298
 t171:=am
 a171:=isAgg301
 z171:=sizeOf301
 v171:=dd
 t173:=an
 a173:=isAgg303
 z173:=sizeOf303
 v173:=de
 t175:=underlying317
 a175:=isAgg317
 z175:=sizeOf317
 v175:=zeroValue317
 t210:=underlying320
 a210:=isAgg320
 z210:=sizeOf320
 v210:=zeroValue320
 t212:=ap
 a212:=isAgg322
 z212:=sizeOf322
 v212:=df
 t213:=au
 a213:=isAgg323
 z213:=sizeOf323
 t232:=av
 a232:=isAgg343
 z232:=sizeOf343
 v232:=dh
 t233:=aw
 a233:=isAgg344
 z233:=sizeOf344
 v233:=di
 g15:=by kernel_rfl
 g16:=by kernel_rfl
 g17:=by kernel_rfl
 g18:=by kernel_rfl
 g19:=by kernel_rfl}
def Tryz.lays101_ren:lI:=⟨fun |101=>100|208=>160|206=>179|n=>n,fun |9=>9|4=>4|3=>3|n=>n,fun |n=>n⟩
theorem Tryz.lays101:Go.Proofs.Lays.n101 aC Tryz.lays101_ren:={
 mixed:=by kernel_rfl
 f101:=func100.trans (congrArg some (by kernel_rfl))
 f206:=func179.trans (congrArg some (by kernel_rfl))
 f208:=func160.trans (congrArg some (by kernel_rfl))
 t3:=gM
 a3:=nE
 z3:=oV
 v3:=kQ
 t4:=iQ
 a4:=pB
 z4:=nF
 v4:=jM
 t9:=lV
 a9:=tD
 z9:=qY
 v9:=mU}
def Tryz.lays99_ren:lI:=⟨fun |99=>122|206=>179|n=>n,fun |9=>9|4=>4|3=>3|n=>n,fun |n=>n⟩
theorem Tryz.lays99:Go.Proofs.Lays.n99 aC Tryz.lays99_ren:={
 mixed:=by kernel_rfl
 f99:=func122.trans (congrArg some (by kernel_rfl))
 f206:=func179.trans (congrArg some (by kernel_rfl))
 t3:=gM
 a3:=nE
 z3:=oV
 v3:=kQ
 t4:=iQ
 a4:=pB
 z4:=nF
 v4:=jM
 t9:=lV
 a9:=tD
 z9:=qY
 v9:=mU}
def Tryz.lays103_ren:lI:=⟨fun |103=>200|210=>251|206=>179|n=>n,fun |9=>9|4=>4|24=>230|3=>3|n=>n,fun |n=>n⟩
theorem Tryz.lays103:Go.Proofs.Lays.n103 aC Tryz.lays103_ren:={
 mixed:=by kernel_rfl
 f103:=func200.trans (congrArg some (by kernel_rfl))
 f206:=func179.trans (congrArg some (by kernel_rfl))
 f210:=func251.trans (congrArg some (by kernel_rfl))
 t3:=gM
 a3:=nE
 z3:=oV
 v3:=kQ
 t4:=iQ
 a4:=pB
 z4:=nF
 v4:=jM
 t9:=lV
 a9:=tD
 z9:=qY
 v9:=mU
 t24:=underlying230
 a24:=isAgg230
 z24:=sizeOf230
 v24:=zeroValue230}
def Tryz.lays122_ren:lI:=⟨fun |122=>156|215=>216|n=>n,fun |3=>3|4=>4|n=>n,fun |n=>n⟩
theorem Tryz.lays122:Go.Proofs.Lays.n122 aC Tryz.lays122_ren:={
 mixed:=by kernel_rfl
 f122:=func156.trans (congrArg some (by kernel_rfl))
 f215:=func216.trans (congrArg some (by kernel_rfl))
 t3:=gM
 a3:=nE
 z3:=oV
 v3:=kQ
 t4:=iQ
 a4:=pB
 z4:=nF
 v4:=jM}
def Tryz.lays145_ren:lI:=⟨fun |145=>245|220=>271|219=>295|217=>311|225=>312|224=>313|267=>314|266=>323|314=>324|n=>n,fun |9=>9|4=>4|59=>266|3=>3|5=>5|46=>198|146=>326|51=>254|n=>n,fun |1=>3|n=>n⟩
theorem Tryz.lays145:Go.Proofs.Lays.n145 aC Tryz.lays145_ren:={
 mixed:=by kernel_rfl
 f145:=func245.trans (congrArg some (by kernel_rfl))
 f217:=func311.trans (congrArg some (by kernel_rfl))
 f219:=func295.trans (congrArg some (by kernel_rfl))
 f220:=func271.trans (congrArg some (by kernel_rfl))
 f224:=func313.trans (congrArg some (by kernel_rfl))
 f225:=func312.trans (congrArg some (by kernel_rfl))
 f266:=func323.trans (congrArg some (by kernel_rfl))
 f267:=func314.trans (congrArg some (by kernel_rfl))
 f314:=func324.trans (congrArg some (by kernel_rfl))
 t3:=gM
 a3:=nE
 z3:=oV
 v3:=kQ
 t4:=iQ
 a4:=pB
 z4:=nF
 v4:=jM
 t5:=oJ
 a5:=xP
 z5:=vJ
 v5:=pL
 t9:=lV
 a9:=tD
 z9:=qY
 v9:=mU
 t46:=sZ
 a46:=A9
 z46:=zR
 v46:=uQ
 t51:=zT
 a51:=FM
 z51:=Eh
 v51:=AG
 t59:=underlying266
 a59:=isAgg266
 z59:=sizeOf266
 v59:=zeroValue266
 t146:=bc
 a146:=isAgg326
 z146:=sizeOf326
 v146:=dt
 g1:=by kernel_rfl}
def Tryz.lays160_ren:lI:=⟨fun |160=>247|232=>273|231=>272|227=>274|234=>276|233=>275|236=>278|235=>277|228=>296|271=>299|151=>298|197=>297|120=>317|152=>316|260=>315|137=>325|119=>326|224=>313|225=>312|217=>311|266=>323|n=>n,fun |9=>9|4=>4|3=>3|5=>5|117=>291|116=>290|0=>0|124=>294|21=>21|105=>314|46=>198|119=>338|139=>341|138=>340|n=>n,fun |3=>4|4=>5|n=>n⟩
theorem Tryz.lays160:Go.Proofs.Lays.n160 aC Tryz.lays160_ren:={
 mixed:=by kernel_rfl
 f119:=func326.trans (congrArg some (by kernel_rfl))
 f120:=func317.trans (congrArg some (by kernel_rfl))
 f137:=func325.trans (congrArg some (by kernel_rfl))
 f151:=func298.trans (congrArg some (by kernel_rfl))
 f152:=func316.trans (congrArg some (by kernel_rfl))
 f160:=func247.trans (congrArg some (by kernel_rfl))
 f197:=func297.trans (congrArg some (by kernel_rfl))
 f217:=func311.trans (congrArg some (by kernel_rfl))
 f224:=func313.trans (congrArg some (by kernel_rfl))
 f225:=func312.trans (congrArg some (by kernel_rfl))
 f227:=func274.trans (congrArg some (by kernel_rfl))
 f228:=func296.trans (congrArg some (by kernel_rfl))
 f231:=func272.trans (congrArg some (by kernel_rfl))
 f232:=func273.trans (congrArg some (by kernel_rfl))
 f233:=func275.trans (congrArg some (by kernel_rfl))
 f234:=func276.trans (congrArg some (by kernel_rfl))
 f235:=func277.trans (congrArg some (by kernel_rfl))
 f236:=func278.trans (congrArg some (by kernel_rfl))
 f260:=func315.trans (congrArg some (by kernel_rfl))
 f266:=func323.trans (congrArg some (by kernel_rfl))
 f271:=func299.trans (congrArg some (by kernel_rfl))
 t0:=BX
 a0:=KM
 z0:=I7
 v0:=Cx
 t3:=gM
 a3:=nE
 z3:=oV
 v3:=kQ
 t4:=iQ
 a4:=pB
 z4:=nF
 v4:=jM
 t5:=oJ
 a5:=xP
 z5:=vJ
 v5:=pL
 t9:=lV
 a9:=tD
 z9:=qY
 v9:=mU
 t21:=dj
 a21:=isAgg21
 z21:=sizeOf21
 v21:=ru
 t46:=sZ
 a46:=A9
 z46:=zR
 v46:=uQ
 t105:=underlying314
 a105:=isAgg314
 z105:=sizeOf314
 v105:=zeroValue314
 t116:=underlying290
 a116:=isAgg290
 z116:=sizeOf290
 t117:=underlying291
 a117:=isAgg291
 z117:=sizeOf291
 v117:=zeroValue291
 t119:=underlying338
 a119:=isAgg338
 z119:=sizeOf338
 t124:=underlying294
 a124:=isAgg294
 z124:=sizeOf294
 v124:=zeroValue294
 t138:=underlying340
 a138:=isAgg340
 z138:=sizeOf340
 v138:=zeroValue340
 t139:=underlying341
 a139:=isAgg341
 z139:=sizeOf341
 v139:=zeroValue341
 g3:=by kernel_rfl
 g4:=by kernel_rfl}
def Tryz.lays105_ren:lI:=⟨fun |105=>256|212=>290|99=>122|165=>291|166=>255|170=>292|169=>257|263=>308|264=>309|206=>179|240=>288|241=>310|276=>307|277=>322|n=>n,fun |9=>9|3=>3|4=>4|20=>20|0=>0|46=>198|109=>305|5=>5|72=>273|76=>228|51=>254|146=>326|53=>256|148=>328|70=>271|37=>241|75=>227|127=>309|164=>324|80=>277|n=>n,fun |n=>n⟩
theorem Tryz.lays105:Go.Proofs.Lays.n105 aC Tryz.lays105_ren:={
 mixed:=by kernel_rfl
 f99:=func122.trans (congrArg some (by kernel_rfl))
 f105:=func256.trans (congrArg some (by kernel_rfl))
 f165:=func291.trans (congrArg some (by kernel_rfl))
 f166:=func255.trans (congrArg some (by kernel_rfl))
 f169:=func257.trans (congrArg some (by kernel_rfl))
 f170:=func292.trans (congrArg some (by kernel_rfl))
 f206:=func179.trans (congrArg some (by kernel_rfl))
 f212:=func290.trans (congrArg some (by kernel_rfl))
 f240:=func288.trans (congrArg some (by kernel_rfl))
 f241:=func310.trans (congrArg some (by kernel_rfl))
 f263:=func308.trans (congrArg some (by kernel_rfl))
 f264:=func309.trans (congrArg some (by kernel_rfl))
 f276:=func307.trans (congrArg some (by kernel_rfl))
 f277:=func322.trans (congrArg some (by kernel_rfl))
 t0:=BX
 a0:=KM
 z0:=I7
 v0:=Cx
 t3:=gM
 a3:=nE
 z3:=oV
 v3:=kQ
 t4:=iQ
 a4:=pB
 z4:=nF
 v4:=jM
 t5:=oJ
 a5:=xP
 z5:=vJ
 v5:=pL
 t9:=lV
 a9:=tD
 z9:=qY
 v9:=mU
 t20:=I8
 a20:=TQ
 z20:=Qm
 v20:=Kt
 t37:=Ax
 a37:=Qn
 z37:=Nt
 v37:=I9
 t46:=sZ
 a46:=A9
 z46:=zR
 v46:=uQ
 t51:=zT
 a51:=FM
 z51:=Eh
 v51:=AG
 t53:=H9
 a53:=Qo
 z53:=Nu
 v53:=Ja
 t70:=underlying271
 a70:=isAgg271
 z70:=sizeOf271
 v70:=zeroValue271
 t72:=underlying273
 a72:=isAgg273
 z72:=sizeOf273
 v72:=zeroValue273
 t75:=az
 a75:=isAgg227
 z75:=sizeOf227
 v75:=dm
 t76:=ba
 a76:=isAgg228
 z76:=sizeOf228
 v76:=dn
 t109:=underlying305
 a109:=isAgg305
 z109:=sizeOf305
 v109:=zeroValue305
 t127:=bb
 a127:=isAgg309
 z127:=sizeOf309
 v127:=dp
 t146:=bc
 a146:=isAgg326
 z146:=sizeOf326
 v146:=dt
 t148:=underlying328
 a148:=isAgg328
 z148:=sizeOf328
 v148:=zeroValue328
 t164:=underlying324
 a164:=isAgg324
 z164:=sizeOf324
 v164:=zeroValue324}
theorem Tryz.Builder_Extra_105:du aC Tryz.lays105_ren:={
 sizeBuilder:=by kernel_rfl
 liesBuilder:=by kernel_rfl
 t5:=oJ
 a5:=xP
 z5:=vJ
 v5:=pL
 infoByte:=by kernel_rfl
 cellsByte:=by kernel_rfl
 sizeByte:=by kernel_rfl
 neB5:=by decide}
open Go Go.RowKit Go.Shelf Go.Lib
def fj:String:=String.ofList ([105,110,116,101,114,110,97,108,47,115,116,114,99,111,110,118,46,117,105,110,116,54,52,112,111,119,49,48].map Char.ofNat)
structure eZ(w:aE):Prop where
 tab:Lib.TabIs aC w fj .u64 Lib.pow10Tab
 cut:∃m,w.cell? ⟨3,0,none⟩=some (aF aG m)
theorem eZ.below{w w':aE}(h:eZ w)(hb:aJ w.heap.size w w'):eZ w':=by
 obtain⟨h1,m,h2⟩:=h;refine⟨?_,m,(hb.cell (bF w _ h2)).trans h2⟩;unfold Lib.TabIs World.var? at h1⊢;cases hg:Tryz.prog.globalNamed fj with
 |none=>rw[hg]at h1;simp at h1
 |some g=>
  rw[hg]at h1;simp only[Option.bind_some]at h1⊢;have hlt:g<w.heap.size:=by
   by_cases h:g<w.heap.size
   ·exact h
   ·rw[Array.getElem?_eq_none (by omega)]at h1;simp at h1
  rw[hb.block g hlt];exact h1
theorem eM(n:Int)(w:aE)(h:eZ w)(h0: -9223372036854775808≤n)(h1:n≤9223372036854775807):
 aQ aC 141 #[aF aG n] w (Rt (aA (bs (bL n))) w):=by
 refine(Any.strconv_Itoa Tryz.laysM171 n h0 h1 w h.tab).mono ?_;rintro e w'⟨rfl,k,os,rfl⟩;exact⟨rfl,Lib.below_grow _ _ (aD _) _ _⟩
theorem RH(s:ByteArray)(n:Int)(w:aE)(hl:s.size≤18)(h:Lib.atoi s.data.toList=some n):
 aQ aC 198 #[aA s] w (Rt (bO #[aF aG n,.nilIface]) w):=by
 refine(Any.strconv_Atoi Tryz.lays172 s n hl h w).mono ?_;rintro e w'⟨rfl,t,rfl⟩;exact⟨rfl,Lib.bytesWorld_below _ _ _⟩
theorem pX(s p:ByteArray)(w:aE):
 aQ aC 100 #[aA s,aA p] w fun e w'=>e=aO (aA (bs (JX s.data.toList p.data.toList)))∧w=w':=
 (Any.strings_TrimPrefix Tryz.lays101 s p w).mono fun _ _ h=>⟨h.1,h.2.symm⟩
theorem Er(s p:ByteArray)(w:aE):
 aQ aC 122 #[aA s,aA p] w fun e w'=>e=aO (aM (Ba s.data.toList p.data.toList))∧w=w':=
 (Any.strings_HasPrefix Tryz.lays99 s p w).mono fun _ _ h=>⟨h.1,h.2.symm⟩
theorem Am(s p:ByteArray)(w:aE):
 aQ aC 200 #[aA s,aA p] w fun e w'=>e=aO (bO #[aA (bs (JX s.data.toList p.data.toList)),aM (Ba s.data.toList p.data.toList)])∧w=w':=
 (Any.strings_CutPrefix Tryz.lays103 s p w).mono fun _ _ h=>⟨h.1,h.2.symm⟩
theorem Jt(x y:Int)(w:aE):
 aQ aC 156 #[aF aG x,aF aG y] w fun e w'=>e=aO (aF aG (Lib.compareInt x y))∧w=w':=
 (Any.cmp_Compare_int Tryz.lays122 x y w).mono fun _ _ h=>⟨h.1,h.2.symm⟩
theorem Le(s:ByteArray)(c:Nat)(w:aE)(hc:c≤9223372036854775807)(kN:s.size*c≤140737488355328):
 aQ aC 256 #[aA s,aF aG c] w (Rt (aA (bs (Lib.repeatL s.data.toList c))) w):=
 Any.strings_Repeat Tryz.lays105 Tryz.Builder_Extra_105 s c w hc kN
theorem vz(s sep:ByteArray)(w:aE)(h:eZ w)(hs:s.size<4294967281):
 aQ aC 245 #[aA s,aA sep] w (Rt (bO #[aA (bs (Lib.cut s.data.toList sep.data.toList).1),aA (bs (Lib.cut s.data.toList sep.data.toList).2.1),aM (Lib.cut s.data.toList sep.data.toList).2.2]) w):=by
 obtain⟨m,hm⟩:=h.cut;refine(Any.strings_Cut Tryz.lays145 s sep m w hs hm).mono ?_;rintro e w'⟨rfl,n,rfl⟩;exact⟨rfl,below_drewN (aI _ _) n⟩
def F7:List UInt8:=[48,49,50,51,52,53,54,55,56,57]
theorem fk(s cs:ByteArray)(w:aE)(hs:s.size≤9223372036854775807)(wa:cs.data.toList=F7):
 aQ aC 247 #[aA s,aA cs] w (Rt (aA (bs (Lib.trimS s.data.toList F7))) w):=by
 have:=Any.strings_Trim_laid Tryz.lays160 (by kernel_rfl) s cs w hs (by rw[ByteArray.size,←Array.length_toList,wa];decide) (by rw[wa];exact ascii_of_all (by decide));rw[wa]at this;exact this
end
end Go.Proofs.YtcimoodjlopdaaaGreatDoor
