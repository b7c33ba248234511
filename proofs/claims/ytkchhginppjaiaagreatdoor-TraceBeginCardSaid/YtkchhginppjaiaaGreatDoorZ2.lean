import Derived.Deep.RegionHeld3
import Derived.Below
import Derived.RegionTactic
import Derived.WalkKit
import Derived.KernelRfl
import Derived.OrdersIn
import Derived.IntWalk
import Derived.Outline
import Derived.Sort.CutIn
import Derived.Sort.QuietIn
import Derived.RegionIn
import Derived.Stop.RegionWithIn
import Derived.Shelf.SlicesE.Compact
import Derived.Calls
import Derived.StepT
import Derived.Shelf.SlSortCmp.NoneTotal
import Derived.Shelf.LaysC
import Derived.Ground.SlsfProg
import Derived.Test.YtkchhginppjaiaaGreatDoorZ0
import Derived.Test.YtkchhginppjaiaaGreatDoorZ1
namespace Go.Proofs.YtkchhginppjaiaaGreatDoor
set_option maxRecDepth 100000
set_option maxHeartbeats 8000000
set_option linter.all false
open Go.Proofs.Tryz
open _root_.Array renaming getElem?_append_left->xV,getElem?_modify->Co,modify->Ik,size_modify->Il
open _root_.Bool renaming and_eq_true->bQ,not_eq_true'->dP,eq_iff_iff->pI
open _root_.Classical renaming byContradiction->cZ
open _root_.Go renaming World->aF,Value->aP,undef->aO,Calls->bE,Addr->cO,Program->dN,TypeId->dT,bodyPost_ret->dU,below_drewN->eF,wpAnyH_ready->fC,Oper->fX,results->lF,Act->mI,info_parts->lI,Machine->vD,yielded->wV,Frame->xU,wpAnyIn->BU,results_none->Do,wpAnyH_done->EI,wp_region_held_drew->Kb,wpList->NE,Dying->R6,Ending->wG,Goroutine->pn
open Go.Act renaming put->cS
open Go.AllReadyH renaming cons->dJ,nil->dX
open Go.AllReadyIn renaming cons->PU
open Go.ByteArray renaming toList_eq->dV
open Go.Ending renaming returned->bA
open Go.Fence renaming wide->eP
open Go.Instr renaming endRound->N8,takeDeferred->bj
open Go.IntKind renaming i64->aB
open Go.IntWalk renaming i64_in->bI
open Go.Lib renaming compactUpTo->mV,contains->BL
open Go.Obj renaming cells->aN
open Go.Oper renaming semAt_some->gM
open Go.Proofs renaming sortWorld->Jr,ltOf->YK
open Go.Proofs.Tryz renaming prog->aE,underlying3->dL,underlying4->fM,zeroValue4->gC,zeroValue3->gZ,sizeOf3->iB,isAgg3->jG,sizeOf4->jV,underlying62->kE,isAgg4->lN,underlying0->rA,zeroValue0->sQ,sizeOf0->zQ,isAgg0->BW,isAgg62->KD,ntmps172->RZ,func172->VJ
open Go.Region renaming ready->cU,wanted->eK,noSelect->qI,free->rP
open Go.RowKit renaming intOf->aK,Hid->bK
open Go.RowKit.Below renaming refl->aL
open Go.Sem renaming run->eH,runT_eq->pK
open Go.Shelf renaming Ren->iK
open Go.Value renaming string->aA,int->aC,slice->aD,bool->aV,pointer->aY,agg->cF,ownBlock->jW,oneCell'->kA
open Go.World renaming block_lt_of_cell?->bB,size_alloc->bH,ownsRow->RY
open Go.World.ownsRow renaming cellAt->dZ,frozenAt->kF
open _root_.Int renaming natAbs_natCast->eD,tmod_eq_emod_of_nonneg->rM,natAbs_mul->G9
open _root_.List renaming getD_eq_getElem?_getD->aG,getElem?_cons_zero->aI,getElem?_toArray->aJ,setIfInBounds_toArray->aM,getElem_cons_succ->aR,getElem_cons_zero->aS,set_cons_zero->aT,set_cons_succ->aW,getElem_toArray->aX,length_map->aZ,getElem?_cons_succ->bC,length_cons->bD,length_append->bO,length_nil->bV,take_succ_eq_append_getElem->cN,mem_singleton->eJ,take_of_length_le->eM,map_append->eV,map_map->lY,append_nil->pZ
open _root_.Nat renaming le_refl->aH,le_trans->aU,zero_le->bM,zero_add->cC,le_succ->Hv
open _root_.Option renaming map_some->BV
open _root_.Option.some renaming injEq->vY
open _root_.Rat renaming intCast_mul->lX,intCast_sub->NI,div_def->bg,div_mul_cancel->tu
section
open Go Go.RowKit
section
variable{P:dN}{cM:Array fX}{Q:Exit→mI→aF→Prop}{md:Region.Mode}{S:aF→Prop}
theorem tH(i:Nat){oi:Oper}{v:Value}{fuel:Nat}{iY:Array Bool}{a:Act}{w:World}(hi:cM[i]? =some oi)
 (h:wpAnyH P md cM Q S fuel (iY.setIfInBounds i true) (a.put oi.dst v) w)
 (hs:Region.noSelect cM=true:=by kernel_rfl)(hf:Region.free md cM iY i=true:=by kernel_rfl)(hr:(Region.ready md cM iY).contains i=true:=by kernel_rfl)
 (hQ:∀c a w,Q (.panic c) (a.put oi.dst v) w→Q (.panic c) a w:=by exact fun _ _ _ h=>h)(hw:Region.wanted oi (yielded cM a.tmps)=true:=by kernel_rfl)
 (hy:∀w,S w→(execOp a.eval oi).run P w=.ok (.value v) w:=by(intro w AX;(try dsimp only at AX);go_simp;(first |done|with_reducible rfl)))(hS:S w:=by assumption):wpAnyH P md cM Q S (fuel+1) iY a w:=
 wpAnyH_take hi hs hf hr hQ (.inl ⟨hw,hy⟩) hS h
theorem sH(i:Nat){oi:Oper}{fuel:Nat}{iY:Array Bool}{a:Act}{w:World}(hi:cM[i]? =some oi)
 (h:wpAnyH P md cM Q S fuel (iY.setIfInBounds i true) (a.put oi.dst undef) w)
 (hs:Region.noSelect cM=true:=by kernel_rfl)(hf:Region.free md cM iY i=true:=by kernel_rfl)(hr:(Region.ready md cM iY).contains i=true:=by kernel_rfl)
 (hQ:∀c a w,Q (.panic c) (a.put oi.dst undef) w→Q (.panic c) a w:=by exact fun _ _ _ h=>h)(hw:Region.wanted oi (yielded cM a.tmps)=false:=by kernel_rfl)(hS:S w:=by assumption):wpAnyH P md cM Q S (fuel+1) iY a w:=
 wpAnyH_take hi hs hf hr hQ (.inr ⟨hw,rfl⟩) hS h
variable{F:Fence}{n:Nat}
theorem tI(i:Nat){oi:Oper}{v:Value}{fuel:Nat}{iY:Array Bool}{a:Act}{w:World}(hi:cM[i]? =some oi)
 (h:wpAnyIn F n P md cM Q fuel (iY.setIfInBounds i true) (a.put oi.dst v) w)(hro:F.round=none:=by rfl)
 (hs:Region.noSelect cM=true:=by kernel_rfl)(hf:Region.free md cM iY i=true:=by kernel_rfl)(hr:(Region.ready md cM iY).contains i=true:=by kernel_rfl)
 (hQ:∀c a w,Q (.panic c) (a.put oi.dst v) w→Q (.panic c) a w:=by exact fun _ _ _ h=>h)(hw:Region.wanted oi (yielded cM a.tmps)=true:=by rfl)
 (hy:∀w,(execOp a.eval oi).run P w=.ok (.value v) w:=by(intro w;go_simp;(first |done|with_reducible rfl)))(hb:∀w,oi.about P w a.eval=none:=by exact fun _=>rfl):wpAnyIn F n P md cM Q (fuel+1) iY a w:=
 wpAnyIn_take hro hi hs hf hr hQ ⟨.inl ⟨hw,hy⟩,hb⟩ h
theorem eI(i:Nat)(rs:List Nat){fuel:Nat}{iY:Array Bool}{a:Act}{w:World}{o:Oper}(ho:cM[i]? =some o)
 (h:∀K':Act→World→Prop,(∀a w,wpAnyIn F n P md cM Q fuel (iY.setIfInBounds i true) a w→K' a w)→if Region.wanted o (yielded cM a.tmps)=true then Oper.wpIn F n P o a w K' Q else(∀f,o.about P w a.eval=some f→F.fn f)∧K' (a.put o.dst undef) w)
 (hs:AllReadyIn F n P md cM Q fuel iY a w rs)(hr:Region.ready md cM iY=i::rs:=by kernel_rfl):wpAnyIn F n P md cM Q (fuel+1) iY a w:=
 wpAnyIn_ready hr (by simp) (AllReadyIn.cons ho h hs)
end
end
section
open Go Go.RowKit Go.Lib
def IK(w W:aF)(g h:Nat)(tc pc qc fc gc:Array aP):Prop:=
 bT W w.heap.size tc 64∧bT W (w.heap.size+1) pc 68∧bT W (w.heap.size+1+1) qc 68∧bT W g fc 58∧bT W h gc 58∧Below w.heap.size w W
theorem Zk(w:aF)(tc pc qc fc gc:Array aP):IK w (((((w.alloc (aN tc 64)).alloc (aN pc 68)).alloc (aN qc 68)).alloc (aN fc 58)).alloc (aN gc 58)) (w.heap.size+1+1+1) (w.heap.size+1+1+1+1) tc pc qc fc gc:=by
 obtain⟨a,b,c,d,e⟩:=joint1 (w.alloc (aN tc 64)) pc qc fc gc;rw[bH]at a b c d e;exact⟨((((bT.new w _ _).alloc _).alloc _).alloc _).alloc _,a,b,c,d,((aL _ w).alloc (aH _) _).trans (e.mono (by omega))⟩
theorem jointT2(w:aF)(tc pc qc fc gc:Array aP):IK w (((((w.alloc (aN tc 64)).alloc (aN pc 68)).alloc (aN qc 68)).alloc (aN gc 58)).alloc (aN fc 58)) (w.heap.size+1+1+1+1) (w.heap.size+1+1+1) tc pc qc fc gc:=by
 obtain⟨a,b,c,d,e,f⟩:=Zk w tc pc qc gc fc;exact⟨a,b,c,e,d,f⟩
theorem IK.drew{w W:aF}{g h:Nat}{tc pc qc fc gc:Array aP}(k:IK w W g h tc pc qc fc gc):IK w W.drew g h tc pc qc fc gc:=⟨k.1,k.2.1,k.2.2.1,k.2.2.2.1,k.2.2.2.2.1,k.2.2.2.2.2.drew⟩
theorem ye{f g:Fr}(hf:f.dir=1∨f.dir= -1)(hg:g.dir=1∨g.dir= -1)(hu:f.up=g.up):(uH f==uH g)=(f.dir==g.dir):=by
 unfold uH;rw[hu];cases g.up<;>rcases hf with e|e<;>rcases hg with e2|e2<;>rw[e,e2]<;>decide
theorem du(a b:Option cO)(n ca cb:Nat)(fs:List Fr)(at':List (List UInt8))(p q:Pt)(s t:Nat)(w:aF)
 (hdir:∀f∈fs,f.dir=1∨f.dir= -1)(hs:p.side=s)(ht:q.side=t)(Ic:s<n)(LJ:t<n)(hf:fs.length=n)(hl:at'.length=n)(rf:vT w a fs)(ra:yJ w b at')(hJ:CF fs at' p q=true):
 bE aE 164 #[cF #[aD a n ca,aD b n cb],p.v,q.v] w (Rt (aV true) w):=by
 obtain⟨b1,o1,rfl,c0,c1,c2,c3,c4⟩:=rf.at (i:=s) (by omega) rfl;obtain⟨VV,o1',e1,d0,d1,d2,d3,d4⟩:=rf.at (i:=t) (by omega) rfl;injection e1 with e1;injection e1 with e1 e2;subst e1 e2;obtain⟨b2,o2,rfl,k0⟩:=ra s (by omega);obtain⟨b2',o2',e1,k1⟩:=ra t (by omega);injection e1 with e1;injection e1 with e1 e2;subst e1 e2;obtain⟨ps,pf,pt⟩:=p;obtain⟨qs,qf,qt⟩:=q;obtain rfl:ps=s:=hs;obtain rfl:qs=t:=ht;have R:bK (true=if((fs.getD s default).up !=(fs.getD t default).up)=true then(pt==at'.getD t [])&&(qf==at'.getD s [])
  else((fs.getD s default).dir==(fs.getD t default).dir)&&(pt==qf)&&(at'.getD s []==at'.getD t [])):=hJ.symm
 clear hJ;have l1:b1<w.heap.size:=bB w ⟨b1,o1+s*5,none⟩ c0;have l2:b2<w.heap.size:=bB w ⟨b2,o2+s,none⟩ k0;have u1:∀k,b1<w.heap.size+k:=fun k=>by omega
 have u2:∀k,b2<w.heap.size+k:=fun k=>by omega
 have v1:∀k,¬b1=w.heap.size+k:=fun k=>by omega
 have v2:∀k,¬b2=w.heap.size+k:=fun k=>by omega
 have v3:¬b1=w.heap.size:=by omega
 have v4:¬b2=w.heap.size:=by omega
 have hdf:=hdir _ (bU (by rw[hf];exact Ic) default);have hdg:=hdir _ (bU (by rw[hf];exact LJ) default);clear hdir;rw[←LI pt,←LI qf,←LI pt,←LI (at'.getD s [])]at R;generalize fs.getD s default=f at *;generalize fs.getD t default=g at *;unfold Pt.v Pt.cells;simp only[];generalize bs (at'.getD s [])=As at *;generalize bs (at'.getD t [])=At at *;generalize bs pf=PF at *;generalize bs pt=PT at *;generalize bs qf=QF at *;generalize bs qt=QT at *;have Te:=zq (fun W=>sE f W);have NM:=zq (fun W=>sE g W);have HDD:bK (f.up=g.up→(uH f==uH g)=(f.dir==g.dir)):=ye hdf hdg;clear hdf hdg;generalize uH f=D1 at *;generalize uH g=D2 at *;unfold Fr.v Fr.cells at Te NM;obtain⟨uY,fco,fdir,JJ,fst⟩:=f;obtain⟨Nt,ee,Gp,gsp,gst⟩:=g;simp only[]at *;generalize bs JJ=FSP at *;generalize bs fst=FST at *;generalize bs gsp=GSP at *;generalize bs gst=GST at *;obtain⟨x1,hx1⟩:∃x,(PT.toList==At.toList)=x:=⟨_,rfl⟩;obtain⟨x2,IL⟩:∃x,(QF.toList==As.toList)=x:=⟨_,rfl⟩;obtain⟨x3,hx3⟩:∃x,(PT.toList==QF.toList)=x:=⟨_,rfl⟩;obtain⟨x4,hx4⟩:∃x,(As.toList==At.toList)=x:=⟨_,rfl⟩;obtain⟨x5,hx5⟩:∃x,(fdir==Gp)=x:=⟨_,rfl⟩;rw[hx1,IL,hx3,hx4,hx5]at R;clear rf ra hf hl;go_enter func164,ntmps164;go_upto_region 1 with fail
 go_cut[7,8] (fun x y W=>∃g h:Nat,x=aY (some ⟨g,0,none⟩)∧y=aY (some ⟨h,0,none⟩)∧bK (IK w W g h (#[aD (some ⟨b1,o1,none⟩) n ca,aD (some ⟨b2,o2,none⟩) n cb]) (#[aC aB s,aA PF,aA PT]) (#[aC aB t,aA QF,aA QT]) (#[aV uY,aC aB fco,aC aB fdir,aA FSP,aA FST]) (#[aV Nt,aC aB ee,aC aB Gp,aA GSP,aA GST])));case first =>
  go_region;all_goals
   go_wp2;go_meet;case rel=>first |exact⟨_,_,rfl,rfl,(Zk _ _ _ _ _ _).drew⟩|exact⟨_,_,rfl,rfl,(jointT2 _ _ _ _ _ _).drew⟩
 case rest=>
 obtain⟨g',h',rfl,rfl,HJ⟩:=hcut;have hB:=zq HJ.out.2.2.2.2.2;have t0:=HJ.out.1.cell 0;have t1:=HJ.out.1.cell 1;simp only[aJ,aI,bC]at t0 t1;obtain⟨p0,p1,p2⟩:=HJ.out.2.1.three;obtain⟨q0,q1,q2⟩:=HJ.out.2.2.1.three;obtain⟨f0,f1,f2,f3,f4⟩:=HJ.out.2.2.2.1.front;obtain⟨g0,g1,g2,g3,g4⟩:=HJ.out.2.2.2.2.1.front;have c0:=bR hB.out k0;have c1:=bR hB.out k1;clear k0 k1 u1 u2 v1 v2 v3 v4 l1 l2;cases hu:(uY !=Nt);case true=>
  obtain⟨rfl,rfl⟩:x1=true∧x2=true:=by
   have:=R.out;rw[hu,ip rfl]at this;simpa using this.symm
  have hv:(!uY==Nt)=true:=by rw[←hu];cases uY<;>cases Nt<;>rfl
  clear R hx3 hx4 hx5;go_wp2;go_quiet (fail)
  go_wp2;go_ret;exact⟨by first |rfl|(simp;done),eF hB.out _⟩
 case false=>
  obtain⟨⟨rfl,rfl⟩,rfl⟩:(x5=true∧x3=true)∧x4=true:=by
   have:=R.out;rw[hu,iN (by decide)]at this;simpa using this.symm
  have hv:(!uY==Nt)=false:=by rw[←hu];cases uY<;>cases Nt<;>rfl
  have hdd:(D1==D2)=true:=by rw[←hx5];exact HDD.out (by simpa using hu)
  clear R hx5 hx1 IL;go_wp2;refine Kb (S:=fun w'=>(w'.cell? ⟨g',0,none⟩=some (aV uY)∧w'.cell? ⟨g',1,none⟩=some (aC aB fco)∧w'.cell? ⟨g',2,none⟩=some (aC aB fdir)∧w'.cell? ⟨g',3,none⟩=some (aA FSP)∧w'.cell? ⟨g',4,none⟩=some (aA FST))∧(w'.cell? ⟨h',0,none⟩=some (aV Nt)∧w'.cell? ⟨h',1,none⟩=some (aC aB ee)∧w'.cell? ⟨h',2,none⟩=some (aC aB Gp)∧w'.cell? ⟨h',3,none⟩=some (aA GSP)∧w'.cell? ⟨h',4,none⟩=some (aA GST))∧(w'.cell? ⟨w.heap.size,0,none⟩=some (aD (some ⟨b1,o1,none⟩) n ca)∧w'.cell? ⟨w.heap.size,1,none⟩=some (aD (some ⟨b2,o2,none⟩) n cb))∧(w'.cell? ⟨w.heap.size+1,0,none⟩=some (aC aB s)∧w'.cell? ⟨w.heap.size+1,1,none⟩=some (aA PF)∧w'.cell? ⟨w.heap.size+1,2,none⟩=some (aA PT))∧(w'.cell? ⟨w.heap.size+1+1,0,none⟩=some (aC aB t)∧w'.cell? ⟨w.heap.size+1+1,1,none⟩=some (aA QF)∧w'.cell? ⟨w.heap.size+1+1,2,none⟩=some (aA QT))∧w'.cell? ⟨b2,o2+s,none⟩=some (aA As)∧w'.cell? ⟨b2,o2+t,none⟩=some (aA At)) (by kernel_rfl) ?_ (fun jP=>?_)
  ·(try dsimp only);go_keep
  refine tH 0 rfl ?_;refine tH 2 rfl ?_;try simp only[cS,aX,aR,aS,aM,aT,aW]
  refine fC (rs:=[1]) (by kernel_rfl) (by simp) ?_;refine dJ rfl (fun K hK=>?_) dX;go_simp;with_reducible refine(Te.out _).mono ?_
  rintro e w1⟨rfl,hb1⟩;have hBd1:=zq (aQ hB.out.drew hb1);have:=ck hb1 g' 0 (aV uY);have:=ck hb1 g' 1 (aC aB fco);have:=ck hb1 g' 2 (aC aB fdir);have:=ck hb1 g' 3 (aA FSP);have:=ck hb1 g' 4 (aA FST);have:=ck hb1 h' 0 (aV Nt);have:=ck hb1 h' 1 (aC aB ee);have:=ck hb1 h' 2 (aC aB Gp);have:=ck hb1 h' 3 (aA GSP);have:=ck hb1 h' 4 (aA GST);have:=ck hb1 w.heap.size 0 (aD (some ⟨b1,o1,none⟩) n ca);have:=ck hb1 w.heap.size 1 (aD (some ⟨b2,o2,none⟩) n cb);have:=ck hb1 (w.heap.size+1) 0 (aC aB s);have:=ck hb1 (w.heap.size+1) 1 (aA PF);have:=ck hb1 (w.heap.size+1) 2 (aA PT);have:=ck hb1 (w.heap.size+1+1) 0 (aC aB t);have:=ck hb1 (w.heap.size+1+1) 1 (aA QF);have:=ck hb1 (w.heap.size+1+1) 2 (aA QT);have ka:=bR hb1 (p:=⟨b2,o2+s,none⟩) (v:=aA As) (by simp[*]);have kb:=bR hb1 (p:=⟨b2,o2+t,none⟩) (v:=aA At) (by simp[*]);show K _ _;refine hK.out _ _ ?_ (fun jP=>?_)
  ·(try dsimp only);go_keep
  clear hK K;try simp only[cS,aX,aR,aS,aM,aT,aW]
  refine fC (rs:=[3]) (by kernel_rfl) (by simp) ?_;refine dJ rfl (fun K hK=>?_) dX;go_simp;with_reducible refine(NM.out _).mono ?_
  rintro e w2⟨rfl,hb2⟩;have hBd2:=zq (aQ hBd1.out hb2);have:=ck hb2 g' 0 (aV uY);have:=ck hb2 g' 1 (aC aB fco);have:=ck hb2 g' 2 (aC aB fdir);have:=ck hb2 g' 3 (aA FSP);have:=ck hb2 g' 4 (aA FST);have:=ck hb2 h' 0 (aV Nt);have:=ck hb2 h' 1 (aC aB ee);have:=ck hb2 h' 2 (aC aB Gp);have:=ck hb2 h' 3 (aA GSP);have:=ck hb2 h' 4 (aA GST);have:=ck hb2 w.heap.size 0 (aD (some ⟨b1,o1,none⟩) n ca);have:=ck hb2 w.heap.size 1 (aD (some ⟨b2,o2,none⟩) n cb);have:=ck hb2 (w.heap.size+1) 0 (aC aB s);have:=ck hb2 (w.heap.size+1) 1 (aA PF);have:=ck hb2 (w.heap.size+1) 2 (aA PT);have:=ck hb2 (w.heap.size+1+1) 0 (aC aB t);have:=ck hb2 (w.heap.size+1+1) 1 (aA QF);have:=ck hb2 (w.heap.size+1+1) 2 (aA QT);have ka:=bR hb2 (p:=⟨b2,o2+s,none⟩) (v:=aA As) (by simp[*]);have kb:=bR hb2 (p:=⟨b2,o2+t,none⟩) (v:=aA At) (by simp[*]);show K _ _;refine hK.out _ _ ?_ (fun jP=>?_)
  ·(try dsimp only);go_keep
  clear hK K;refine tH 4 rfl ?_;refine tH 5 rfl ?_;refine tH 6 rfl ?_;refine tH 7 rfl ?_;refine tH 8 rfl ?_;refine tH 9 rfl ?_;refine tH 10 rfl ?_;refine tH 11 rfl ?_;refine tH 12 rfl ?_;refine tH 13 rfl ?_;refine tH 14 rfl ?_;refine tH 15 rfl ?_;refine tH 16 rfl ?_;refine tH 17 rfl ?_;refine tH 18 rfl ?_;refine tH 19 rfl ?_;refine tH 20 rfl ?_;refine tH 21 rfl ?_;refine tH 22 rfl ?_;refine tH 23 rfl ?_;refine tH 24 rfl ?_;refine tH 25 rfl ?_;refine tH 26 rfl ?_;refine tH 27 rfl ?_;try simp only[cS,aX,aR,aS,aM,aT,aW]
  refine EI (by kernel_rfl) ?_ _;go_wp2;go_ret;exact⟨by first |rfl|(simp;done),hBd2.out⟩
def zC(fs:List Fr)(p:Pt):Int:=(fH p.en p.fr).1*E6 (fs.getD p.side.toNat default)
def CG(fs:List Fr)(right:Bool)(p:Pt):Bool:=
 decide (0≤p.side)&&decide (p.side<fs.length)&&(!decide (zC fs p<0)&& !(right &&decide (zC fs p=0)))
def badP (fs:List Fr) (right:Bool) (ps:List Pt):Nat→Bool:=fun i=> !CG fs right (ps.getD i default)
def badJ(fs:List Fr)(at':List (List UInt8))(ps:List Pt):Nat→Bool:=fun i=> !CF fs at' (ps.getD i default) (ps.getD ((i+1)%ps.length) default)
def tM(fs:List Fr)(at':List (List UInt8))(ps:List Pt)(right:Bool):Bool:=
 decide (4≤ps.length)&& !anyN (badP fs right ps) ps.length&& !anyN (badJ fs at' ps) ps.length
theorem IM {fs:List Fr} {right:Bool} {ps:List Pt} {n i:Nat} (h:anyN (badP fs right ps) n=false) (hi:i < n):CG fs right (ps.getD i default)=true:=by
 have:=cP.1 h i hi;unfold badP at this;simpa using this
theorem E7{fs:List Fr}{right:Bool}{p:Pt}(h:CG fs right p=true):∃s:Nat,p.side=s∧s<fs.length:=by
 unfold CG at h;simp only[bQ,decide_eq_true_eq]at h;exact⟨p.side.toNat,by omega,by omega⟩
theorem yf(s t:List UInt8): -1≤(fH s t).1∧(fH s t).1≤1:=by
 unfold fH;split
 ·split
  ·rcases Bk (cT s) (cT t)with⟨_,h⟩|⟨_,h⟩|⟨_,h⟩<;>simp[h]
  ·simp
 ·simp
theorem fwd_one{f:Fr}(h:f.dir=1∨f.dir= -1):E6 f=1∨E6 f= -1:=by
 unfold E6;cases f.up<;>rcases h with e|e<;>simp[e]
theorem Zl{fs:List Fr}(hdir:∀f∈fs,f.dir=1∨f.dir= -1){p:Pt}{s:Nat}(hs:p.side=s)(Ic:s<fs.length): -1≤zC fs p∧zC fs p≤1:=by
 unfold zC;have h1:=yf p.en p.fr;have h2:=fwd_one (hdir _ (bU (i:=p.side.toNat) (by omega) default));generalize(fH p.en p.fr).1=c at *;rcases h2 with e|e<;>rw[e]<;>omega
theorem Tt{k n:Nat}(h:k<n):(k+1<n∧(k+1)%n=k+1)∨(k+1=n∧(k+1)%n=0):=by
 by_cases e:k+1<n
 ·exact .inl ⟨e,Nat.mod_eq_of_lt e⟩
 ·have:k+1=n:=by omega
  exact .inr ⟨this,by rw[this];exact Nat.mod_self n⟩
theorem Dy(k n:Nat):((k:Int)+1).tmod (n:Int)=(((k+1)%n:Nat):Int):=by
 rw[rM (by omega)];push_cast;rfl
theorem yg (a b c:Option cO) (nf n ca cb cc:Nat) (fs:List Fr) (at' :List (List UInt8)) (ps:List Pt) (right:Bool) (w:aF) (hE:mN w)
 (hf:fs.length=nf) (hl:at'.length=nf) (hp:ps.length=n) (hn:n≤96) (hdir:∀ f∈fs,f.dir=1∨f.dir= -1) (nL:∀ p∈ps,Sm p.fr∧Sm p.en)
 (rf:vT w a fs) (ra:yJ w b at') (rp:FE w c ps) (hw:tM fs at' ps right=true) :
 bE aE 100 #[cF #[aD a nf ca,aD b nf cb],aD c n cc,aV right] w (Rt (aV true) w):=by
 obtain⟨h4,hpb,hjb⟩:4≤n∧(∀ i,i < n→CG fs right (ps.getD i default)=true)∧∀ i,i < n→CF fs at' (ps.getD i default) (ps.getD ((i + 1) % n) default)=true:=by
  unfold tM at hw;rw [bQ,bQ,decide_eq_true_eq,dP,dP,hp] at hw;refine⟨hw.1.1,fun i hi=> IM hw.1.2 hi,fun i hi=> ?_⟩;have:=cP.1 hw.2 i hi;unfold badJ at this;rw [hp] at this;simpa using this
 have HS:bK (∀ s:List UInt8,Sm s→∀ W,Below w.heap.size w W→bE aE 51 #[aA (bs s)] W (Rt (aC aB 0) W)):=fun s hs W h=> by
  have:=Gj s W (hE.below h) hs;rwa [hs.num] at this
 have HO:=zq (fun (s t:List UInt8) (hs:Sm s) (ht:Sm t) W (h:Below w.heap.size w W)=> mL s t W (hE.below h) hs ht);have HT:bK (∀ i,i < nf→∀ W,bE aE 48 #[aC aB (uH (fs.getD i default))] W (Rt (aC aB (E6 (fs.getD i default))) W)):=fun i hi W=> by
  have:=OH (uH (fs.getD i default)) W;rw [Zh (hdir _ (bU (by rw [hf];exact hi) default))] at this;refine this.mono ?_;rintro e w' ⟨h1,rfl⟩;exact⟨h1,aL _ _⟩
 have HJ:bK (∀ p q:Pt,(∃ s:Nat,p.side=s∧s < nf)→(∃ s:Nat,q.side=s∧s < nf)→CF fs at' p q=true→∀ W,Below w.heap.size w W→bE aE 164 #[cF #[aD a nf ca,aD b nf cb],p.v,q.v] W (Rt (aV true) W)):=by
  rintro p q ⟨s,hs,Ic⟩ ⟨t,ht,LJ⟩ hj W h;exact du a b nf ca cb fs at' p q s t W hdir hs ht Ic LJ hf hl (rf.below h) (ra.below h) hj
 have HA:bK (∀ p:Pt,∀ s:Nat,p.side=s→s < nf→ -1≤zC fs p∧zC fs p≤1):=fun p s hs Ic=> Zl hdir hs (by rw [hf];exact Ic);have Hf:=zq hf;have Hp:=zq hp;have Rf:=zq rf;have Rp:=zq rp;have yh:bK (∀ i,i < n→Sm (ps.getD i default).fr∧Sm (ps.getD i default).en):=fun i hi=> nL _ (bU (by rw [hp];exact hi) default);have Hpb:=zq hpb;have Hjb:=zq hjb;have R5:bK (∀ i,i < n→∃ s:Nat,(ps.getD i default).side=s∧s < nf):=fun i hi=> by
  have:=E7 (hpb i hi);rwa [hf] at this
 have T0:=zq (bT.new w #[aD a nf ca,aD b nf cb] 64);have BT:=zq ((aL w.heap.size w).alloc (aH _) (aN #[aD a nf ca,aD b nf cb] 64));clear hE hf hl hp hdir nL rf ra rp hw hpb hjb;go_enter func100,ntmps100;go_wp2;go_loopw [17] (fun i wr=> ∃ k:Nat,i=aC aB k∧k≤n∧bK (Below w.heap.size w wr)∧bK (bT wr w.heap.size #[aD a nf ca,aD b nf cb] 64)) (fun i _=> n - (aK i).toNat);case atStart=> exact⟨0,rfl,bM _,BT.out,T0.out⟩
 case round=>
  clear BT T0;obtain⟨k,rfl,hk,HB,Nu⟩:=hrel;by_cases hlt:k < n
  ·obtain⟨pb,po,rfl,c0,c1,c2⟩:=(Rp.out.below HB.out).at (i:=k) (by rw [Hp.out];exact hlt) rfl;have hlen:=yh.out k hlt;have HBb:=zq (fun (x:Pt)=> HB.out.alloc HB.out.size (aN #[aC aB x.side,aA (bs x.fr),aA (bs x.en)] 68));obtain⟨s,Ep,Ic⟩:=R5.out k hlt;have hAb:=HA.out (ps.getD k default) s Ep Ic;have HPa:bK (¬ zC fs (ps.getD k default) < 0∧(right=true→¬ zC fs (ps.getD k default)=0)):=by
    have:=Hpb.out k hlt;unfold CG at this;simp only [bQ,dP,decide_eq_false_iff_not,Bool.and_eq_false_iff] at this;exact⟨this.2.1,fun hr=> this.2.2.resolve_left (by rw [hr];decide)⟩
   generalize ps.getD k default=p at *;have HBp:=zq (HBb.out p);have qb:=bT.new wr #[aC aB p.side,aA (bs p.fr),aA (bs p.en)] 68;have Qb:=zq qb;clear HBb qb;have Hc:=zq (HO.out p.en p.fr hlen.2 hlen.1);have HSf:=zq (HS.out p.fr hlen.1);have Gq:=zq (HS.out p.en hlen.2);have HAd:bK (zC fs p=(fH p.en p.fr).1 * E6 (fs.getD p.side.toNat default)):=rfl;rw [Ep] at HAd;generalize zC fs p=AD at *;generalize (fH p.en p.fr).1=CC at *;clear hlen;obtain⟨side,fr,en⟩:=p;simp only [] at *;subst Ep;generalize bs fr=FR at *;generalize bs en=EN at *;obtain⟨t0,t1, -, -,tl⟩:=Nu.out.two;have g1:¬ (s:Int) < 0:=by omega
   have g2:¬ (nf:Int)≤(s:Int):=by omega
   go_wp2_with fail
   with_reducible refine(HSf.out _ HBp.out).mono ?_
   rintro e W1 ⟨rfl,hb1⟩;have eC:=zq (aQ HBp.out hb1);have Q1:=zq (Qb.out.below hb1 Qb.out.lt);have Tu:=zq ((Nu.out.alloc (aN #[aC aB s,aA FR,aA EN] 68)).below hb1 (Nu.out.alloc _).lt);obtain⟨e0,e1,e2⟩:=Q1.out.three;obtain⟨t0,t1, -, -,tl⟩:=Tu.out.two;have el:=Q1.out.lt;clear hb1 HSf;go_wp2_with fail
   with_reducible refine(Gq.out _ eC.out).mono ?_
   rintro e W2 ⟨rfl,hb2⟩;have eT:=zq (aQ eC.out hb2);have Q2:=zq (Q1.out.below hb2 Q1.out.lt);have HTr2:=zq (Tu.out.below hb2 Tu.out.lt);rw [show((s:Int)).toNat=s from rfl] at HAd;have HFs:bK (∀ W,bE aE 49 #[(fs.getD s default).v] W (Rt (aC aB (uH (fs.getD s default))) W)):=fun W=> sE _ W;have HTs:=zq (HT.out s Ic);obtain⟨fb,fo,rfl,f0,f1,f2,f3,f4⟩:=(Rf.out.below eT.out).at (i:=s) (by rw [Hf.out];exact Ic) rfl;unfold Fr.v Fr.cells at HFs;generalize fs.getD s default=f at *;generalize E6 f=FW at *;generalize uH f=DF at *;obtain⟨uY,fco,fdir,JJ,fst⟩:=f;simp only [] at *;generalize bs JJ=FSP at *;generalize bs fst=FST at *;obtain⟨e0,e1,e2⟩:=Q2.out.three;obtain⟨t0,t1, -, -,tl⟩:=HTr2.out.two;have el:=Q2.out.lt;have hw:IntKind.i64.wrap (CC * FW)=AD:=by rw [← HAd.out];exact bI _ (by omega)
   clear hb2 Gq HAd eC Q1 Q2 Qb HBp Nu Tu g1 g2;go_wp2;go_cut [9] (fun v W=> v=aC aB AD∧bK (Below W2.heap.size W2 W));case first=>
    go_region_held3 (fun w' => (w'.cell? ⟨wr.heap.size,0,none⟩=some (aC aB s)∧w'.cell? ⟨wr.heap.size,1,none⟩=some (aA FR)∧w'.cell? ⟨wr.heap.size,2,none⟩=some (aA EN))∧(w'.cell? ⟨w.heap.size,0,none⟩=some (aD (some ⟨fb,fo,none⟩) nf ca)∧w'.cell? ⟨w.heap.size,1,none⟩=some (aD b nf cb))∧w'.cell? ⟨fb,fo + s * 5,none⟩=some (aV uY)∧w'.cell? ⟨fb,fo + s * 5 + 1,none⟩=some (aC aB fco)∧w'.cell? ⟨fb,fo + s * 5 + 2,none⟩=some (aC aB fdir)∧w'.cell? ⟨fb,fo + s * 5 + 3,none⟩=some (aA FSP)∧w'.cell? ⟨fb,fo + s * 5 + 4,none⟩=some (aA FST)) (go_keep)
     (first
      | (go_at_call 42;with_reducible refine(Hc.out _ (by first | exact eT.out.drew | exact aQ eT.out hBt.out | exact aQ eT.out hBf.out)).mono ?_;rintro e w1 ⟨rfl,hb1⟩;have hBo:=zq (aQ (by first | exact hBt.out | exact hBf.out | exact(aL _ W2).drew) hb1);have:=ck hb1 wr.heap.size 0 (aC aB s);have:=ck hb1 wr.heap.size 1 (aA FR);have:=ck hb1 wr.heap.size 2 (aA EN);have:=ck hb1 w.heap.size 0 (aD (some ⟨fb,fo,none⟩) nf ca);have:=ck hb1 w.heap.size 1 (aD b nf cb);have m0:=bR hb1 (p:=⟨fb,fo + s * 5,none⟩) (v:=aV uY) (by simp [*]);have m1:=bR hb1 (p:=⟨fb,fo + s * 5 + 1,none⟩) (v:=aC aB fco) (by simp [*]);have m2:=bR hb1 (p:=⟨fb,fo + s * 5 + 2,none⟩) (v:=aC aB fdir) (by simp [*]);have m3:=bR hb1 (p:=⟨fb,fo + s * 5 + 3,none⟩) (v:=aA FSP) (by simp [*]);have m4:=bR hb1 (p:=⟨fb,fo + s * 5 + 4,none⟩) (v:=aA FST) (by simp [*]))
      | (go_at_call 49;with_reducible refine(HFs.out _).mono ?_;rintro e w1 ⟨rfl,hb1⟩;have hBf:=zq (aQ (by first | exact hBo.out | exact(aL _ W2).drew) hb1);have:=ck hb1 wr.heap.size 0 (aC aB s);have:=ck hb1 wr.heap.size 1 (aA FR);have:=ck hb1 wr.heap.size 2 (aA EN);have:=ck hb1 w.heap.size 0 (aD (some ⟨fb,fo,none⟩) nf ca);have:=ck hb1 w.heap.size 1 (aD b nf cb);have m0:=bR hb1 (p:=⟨fb,fo + s * 5,none⟩) (v:=aV uY) (by simp [*]);have m1:=bR hb1 (p:=⟨fb,fo + s * 5 + 1,none⟩) (v:=aC aB fco) (by simp [*]);have m2:=bR hb1 (p:=⟨fb,fo + s * 5 + 2,none⟩) (v:=aC aB fdir) (by simp [*]);have m3:=bR hb1 (p:=⟨fb,fo + s * 5 + 3,none⟩) (v:=aA FSP) (by simp [*]);have m4:=bR hb1 (p:=⟨fb,fo + s * 5 + 4,none⟩) (v:=aA FST) (by simp [*]))
      | (go_at_call 48;with_reducible refine(HTs.out _).mono ?_;rintro e w1 ⟨rfl,hb1⟩;have hBt:=zq (aQ (by first | exact hBo.out | exact hBf.out) hb1);have:=ck hb1 wr.heap.size 0 (aC aB s);have:=ck hb1 wr.heap.size 1 (aA FR);have:=ck hb1 wr.heap.size 2 (aA EN);have:=ck hb1 w.heap.size 0 (aD (some ⟨fb,fo,none⟩) nf ca);have:=ck hb1 w.heap.size 1 (aD b nf cb);have m0:=bR hb1 (p:=⟨fb,fo + s * 5,none⟩) (v:=aV uY) (by simp [*]);have m1:=bR hb1 (p:=⟨fb,fo + s * 5 + 1,none⟩) (v:=aC aB fco) (by simp [*]);have m2:=bR hb1 (p:=⟨fb,fo + s * 5 + 2,none⟩) (v:=aC aB fdir) (by simp [*]);have m3:=bR hb1 (p:=⟨fb,fo + s * 5 + 3,none⟩) (v:=aA FSP) (by simp [*]);have m4:=bR hb1 (p:=⟨fb,fo + s * 5 + 4,none⟩) (v:=aA FST) (by simp [*])))
    all_goals
     go_wp2;go_meet;case rel=> exact⟨by first | rfl | rw [hw],by first | exact hBt.out | exact hBo.out⟩
   case rest=>
   obtain⟨rfl,HB3⟩:=hcut;have JL:=zq (aQ eT.out HB3.out);have HTx:=zq (HTr2.out.below HB3.out HTr2.out.lt);clear hw eT HB3 HFs HTs Hc f0 f1 f2 f3 f4 e0 e1 e2 el t0 t1 tl HTr2;obtain⟨d1,d2⟩:=HPa.out;by_cases d3:AD=0
   ·subst d3;cases right with
    | true=> exact absurd rfl (d2 rfl)
    | false=>
     go_wp2;go_roundw;case rel=> exact⟨k + 1,by go_num,by omega,JL.out,HTx.out⟩
     case measure=> simp only [aK];omega
   ·have d3:(AD==0)=false:=by simpa using d3
    clear d2;cases right;all_goals
     go_wp2;go_roundw;case rel=> exact⟨k + 1,by go_num,by omega,JL.out,HTx.out⟩
     case measure=> simp only [aK];omega
  ·obtain rfl:n=k:=by omega
   clear HS HO HT HA hlt;go_wp2;go_loopw [70] (fun i wr=> ∃ j:Nat,i=aC aB j∧j≤n∧bK (Below w.heap.size w wr)∧bK (bT wr w.heap.size #[aD a nf ca,aD b nf cb] 64)) (fun i _=> n - (aK i).toNat);case atStart=> exact⟨0,rfl,bM _,HB.out,Nu.out⟩
   case round=>
    clear HB Nu;obtain⟨j,rfl,hj,HB,Nu⟩:=hrel;by_cases hlt:j < n
    ·have qi:(j + 1) % n < n:=Nat.mod_lt _ (by omega);have ef:=Dy j n;have tL:=R5.out j hlt;have JH:=R5.out _ qi;have hjj:=Hjb.out j hlt;generalize (j + 1) % n=q at *;obtain⟨pb,po,rfl,c0,c1,c2⟩:=(Rp.out.below HB.out).at (i:=j) (by rw [Hp.out];exact hlt) rfl;obtain⟨pb',po',e1,d0,d1,d2⟩:=(Rp.out.below HB.out).at (i:=q) (by rw [Hp.out];exact qi) rfl;injection e1 with e1;injection e1 with e1 e2;subst e1 e2;have HJj:=zq (HJ.out _ _ tL JH hjj);clear tL JH hjj;generalize ps.getD j default=p at *;generalize ps.getD q default=p2 at *;unfold Pt.v Pt.cells at HJj;obtain⟨s1,u1,v1⟩:=p;obtain⟨s2,u2,v2⟩:=p2;simp only [] at *;generalize bs u1=U1 at *;generalize bs v1=V1 at *;generalize bs u2=U2 at *;generalize bs v2=V2 at *;have Kg:IntKind.i64.wrap ((j:Int) + 1)=(j:Int) + 1:=bI _ (by omega);have NK:¬ n=0:=by omega
     have hqi:(q:Int) < (n:Int):=by omega
     have tN:(0:Int)≤(q:Int):=by omega
     obtain⟨t0,t1, -, -,tl⟩:=Nu.out.two;have HBp:=zq (HB.out.alloc HB.out.size (aN #[aC aB s1,aA U1,aA V1] 68));go_wp2;go_cut [86] (fun v W=> v=aV false∧bK (Below wr.heap.size wr W));case first=>
      go_region_held3 (fun w' => (w'.cell? ⟨wr.heap.size,0,none⟩=some (aC aB s1)∧w'.cell? ⟨wr.heap.size,1,none⟩=some (aA U1)∧w'.cell? ⟨wr.heap.size,2,none⟩=some (aA V1))∧(w'.cell? ⟨w.heap.size,0,none⟩=some (aD a nf ca)∧w'.cell? ⟨w.heap.size,1,none⟩=some (aD b nf cb))∧w'.cell? ⟨pb,po + q * 3,none⟩=some (aC aB s2)∧w'.cell? ⟨pb,po + q * 3 + 1,none⟩=some (aA U2)∧w'.cell? ⟨pb,po + q * 3 + 2,none⟩=some (aA V2)) (go_keep)
       (first
        | (go_at_call 164;with_reducible refine(HJj.out _ HBp.out.drew).mono ?_;rintro e w1 ⟨rfl,hb1⟩;have hBo:=zq (((aL wr.heap.size wr).alloc (aH _) _).drew.trans (hb1.mono (by simp)));have:=ck hb1 wr.heap.size 0 (aC aB s1);have:=ck hb1 wr.heap.size 1 (aA U1);have:=ck hb1 wr.heap.size 2 (aA V1);have:=ck hb1 w.heap.size 0 (aD a nf ca);have:=ck hb1 w.heap.size 1 (aD b nf cb);have m3:=bR hb1 (p:=⟨pb,po + q * 3,none⟩) (v:=aC aB s2) (by simp [*]);have m4:=bR hb1 (p:=⟨pb,po + q * 3 + 1,none⟩) (v:=aA U2) (by simp [*]);have m5:=bR hb1 (p:=⟨pb,po + q * 3 + 2,none⟩) (v:=aA V2) (by simp [*])))
      all_goals
       go_wp2;go_meet;case rel=> exact⟨rfl,hBo.out⟩
     case rest=>
     obtain⟨rfl,eC⟩:=hcut;have JL:=zq (aQ HB.out eC.out);have HTx:=zq (Nu.out.below eC.out Nu.out.lt);clear Kg ef HB eC Nu t0 t1 tl HBp;go_wp2;go_roundw;case rel=> exact⟨j + 1,by go_num,by omega,JL.out,HTx.out⟩
     case measure=> simp only [aK];omega
    ·obtain rfl:n=j:=by omega
     go_wp2;go_ret;exact⟨rfl,HB.out⟩
def eo(fs:List Fr)(at':List (List UInt8))(ls:List Lp)(right:Bool):Nat→Bool:=fun i=> !tM fs at' (ls.getD i default).ps right
def tO(fs:List Fr)(at':List (List UInt8))(ls:List Lp)(right:Bool):Bool:= !anyN (eo fs at' ls right) ls.length
theorem Zm{fs:List Fr}{at':List (List UInt8)}{ls:List Lp}{right:Bool}(h:tO fs at' ls right =true){i:Nat}(hi:i<ls.length):tM fs at' (ls.getD i default).ps right =true:=by
 unfold tO at h;have h1:=cP.1 (by simpa using h) i hi;unfold eo at h1;simpa using h1
theorem OI{fs:List Fr}{at':List (List UInt8)}{ls:List Lp}{right:Bool}(h:tO fs at' ls right =true){i j:Nat}(hi:i<ls.length)(hj:j<(ls.getD i default).ps.length):∃s:Nat,((ls.getD i default).ps.getD j default).side=s∧s<fs.length:=by
 have h2:=Zm h hi;unfold tM at h2;simp only[bQ]at h2;exact E7 (IM (by simpa using h2.1.2) hj)
theorem tr_all1(a b c:Option cO)(nf n ca cb cc b1 b2:Nat)(fs:List Fr)(at':List (List UInt8))(ps:List Pt)(right:Bool)(w:aF)(hE:mN w)
 (hf:fs.length=nf)(hl:at'.length=nf)(hp:ps.length=n)(hn:n≤96)(hdir:∀f∈fs,f.dir=1∨f.dir= -1)(nL:∀p∈ps,Sm p.fr∧Sm p.en)
 (rf:vT w a fs)(ra:yJ w b at')(rp:FE w c ps)(h0:w.cell? ⟨b1,0,none⟩=some (aD a nf ca))(h1:w.cell? ⟨b1,1,none⟩=some (aD b nf cb))(h2:w.cell? ⟨b2,0,none⟩=some (aV right))(hw:tM fs at' ps right =true):
 bE aE 99 #[aD c n cc,aY (some ⟨b1,0,none⟩),aY (some ⟨b2,0,none⟩)] w (Rt (aV false) w):=by
 have HW:=zq (yg a b c nf n ca cb cc fs at' ps right w hE hf hl hp hn hdir nL rf ra rp hw);clear hE hf hl hp hdir nL rf ra rp hw;go_enter func99,ntmps99;go_wp2_with fail
 refine HW.out.mono ?_;rintro e W1⟨rfl,hb1⟩;go_wp2;go_ret;exact⟨rfl,hb1⟩
theorem Qr (a b c:Option cO) (nf n ca cb cc:Nat) (fs:List Fr) (at' :List (List UInt8)) (ls:List Lp) (right:Bool) (w:aF) (hE:mN w)
 (hf:fs.length=nf) (hl:at'.length=nf) (hs:ls.length=n) (hn:n≤24) (hdir:∀ f∈fs,f.dir=1∨f.dir= -1) (Ns:Tp ls)
 (rf:vT w a fs) (ra:yJ w b at') (rl:E5 w c ls) (hA:tO fs at' ls right=true) :
 bE aE 33 #[cF #[aD a nf ca,aD b nf cb],aD c n cc,aV right] w (Rt (aV true) w):=by
 have q1:=(bT.new w #[aD a nf ca,aD b nf cb] 64).alloc (aN #[aV right] 4);have q2:=bT.new (w.alloc (aN #[aD a nf ca,aD b nf cb] 64)) #[aV right] 4;rw [bH] at q2;have hB:=((aL w.heap.size w).alloc (aH _) (aN #[aD a nf ca,aD b nf cb] 64)).alloc (by simp) (aN #[aV right] 4);obtain⟨W0,eY⟩:∃ W,(w.alloc (aN #[aD a nf ca,aD b nf cb] 64)).alloc (aN #[aV right] 4)=W:=⟨_,rfl⟩;rw [eY] at q1 q2 hB;have HH:=zq (To 99 #[aY (some ⟨w.heap.size,0,none⟩),aY (some ⟨w.heap.size + 1,0,none⟩)] (enters_of func99 (by kernel_rfl) rfl) c n cc ls (fun _=> false) W0 hs (by omega) (rl.below hB) (fun i hi W2 h2=> by
  have hm:=bU (i:=i) (by rw [hs];exact hi) (default:Lp);obtain⟨k1,k2⟩:=Ns _ hm;have lM:=aQ hB h2;obtain⟨pb,po, -, -,h3⟩:=(rl.below lM).at (i:=i) (by rw [hs];exact hi) rfl;have t1:=q1.below h2 q1.lt;have t2:=q2.below h2 q2.lt;exact tr_all1 a b _ nf _ ca cb _ w.heap.size (w.heap.size + 1) fs at' _ right W2 (hE.below lM) hf hl rfl k1 hdir k2 (rf.below lM) (ra.below lM) h3 (t1.cell 0) (t1.cell 1) (t2.cell 0) (Zm hA (by rw [hs];exact hi))))
 rw [Gl fun _ _=> rfl] at HH;have HB:=zq hB;have FC:=zq eY;clear hE hf hl hs hdir Ns rf ra rl q1 q2 hB eY hA;go_enter func33,ntmps33;go_wp2_with fail
 rw [FC.out];refine HH.out.mono ?_;rintro e W1 ⟨rfl,hb1⟩;go_wp2;go_ret;exact⟨rfl,aQ HB.out hb1⟩
structure Po where
 x:List UInt8
 y:List UInt8
abbrev Po.cells(p:Po):Array aP:= #[aA (bs p.x),aA (bs p.y)]
abbrev Po.v(p:Po):aP:=cF p.cells
instance:Inhabited Po:=⟨⟨[],[]⟩⟩
def bW(fs:List Fr)(at':List (List UInt8))(p:Pt):Po:=
 if(fs.getD p.side.toNat default).up=true then⟨at'.getD p.side.toNat [],p.fr⟩else⟨p.fr,at'.getD p.side.toNat []⟩
theorem Aq{P:dN}{fn:Func}{p:Tmp}{ty T:dT}(h:fn.results= #[.cell p ty])(tmps:Array aP)(w:aF)(g:Nat)(x y:aP)
 (hp:tmps.getD p aO=aY (some ⟨g,0,none⟩))(hb:bT w g #[x,y] T)(ha:∀w,(isAgg ty).run P w=.ok true w)(hs:∀w,(sizeOf ty).run P w=.ok 2 w):
 (lF fn tmps).run P w=.ok (cF #[x,y]) w:=by
 have Td:tmps[p]?.getD aO=aY (some ⟨g,0,none⟩):=by simpa using hp
 have c0:=hb.cell 0;have c1:=hb.cell 1;simp only[aJ,aI,bC]at c0 c1;simp[lF,h,go_sem,Td,c0,c1,ha,hs]
theorem Ar(a b:Option cO)(n ca cb:Nat)(fs:List Fr)(at':List (List UInt8))(p:Pt)(s:Nat)(w:aF)
 (hs:p.side=s)(Ic:s<n)(hf:fs.length=n)(hl:at'.length=n)(rf:vT w a fs)(ra:yJ w b at'):
 bE aE 52 #[cF #[aD a n ca,aD b n cb],p.v] w (Rt ((bW fs at' p).v) w):=by
 obtain⟨b1,o1,rfl,c0,c1,c2,c3,c4⟩:=rf.at (i:=s) (by omega) rfl;obtain⟨b2,o2,rfl,k0⟩:=ra s (by omega);obtain⟨ps,pf,pt⟩:=p;obtain rfl:ps=s:=hs;have R:bK (bW fs at' ⟨s,pf,pt⟩=if(fs.getD s default).up=true then⟨at'.getD s [],pf⟩else⟨pf,at'.getD s []⟩):=rfl;have l1:b1<w.heap.size:=bB w ⟨b1,o1+s*5,none⟩ c0;have l2:b2<w.heap.size:=bB w ⟨b2,o2+s,none⟩ k0;have u2:∀k,b2<w.heap.size+k:=fun k=>by omega
 have u1:∀k,b1<w.heap.size+k:=fun k=>by omega
 have v7:¬b2=w.heap.size+1+1:=by omega
 have v8:¬w.heap.size+1+1=b2:=by omega
 have v9:¬b2=w.heap.size+1:=by omega
 have u5:b2<w.heap.size+1:=by omega
 have u3:b1<w.heap.size+1+1:=by omega
 have u4:b2<w.heap.size+1+1:=by omega
 have v2:∀k,¬b2=w.heap.size+k:=fun k=>by omega
 have v5:∀k,¬w.heap.size+k=b2:=fun k=>by omega
 have v4:¬b2=w.heap.size:=by omega
 have v6:¬w.heap.size=b2:=by omega
 have Q1:bK (∀x y,bT ((((w.alloc (aN #[aD (some ⟨b1,o1,none⟩) n ca,aD (some ⟨b2,o2,none⟩) n cb] 64)).alloc (aN #[aC aB s,aA (bs pf),aA (bs pt)] 68)).alloc (aN #[x,y] 53)).drew) (w.heap.size+1+1) #[x,y] 53):=fun x y=>by
  have:=bT.new ((w.alloc (aN #[aD (some ⟨b1,o1,none⟩) n ca,aD (some ⟨b2,o2,none⟩) n cb] 64)).alloc (aN #[aC aB s,aA (bs pf),aA (bs pt)] 68)) #[x,y] 53;rwa[bH,bH]at this
 have HB:bK (∀x y,Below w.heap.size w ((((w.alloc (aN #[aD (some ⟨b1,o1,none⟩) n ca,aD (some ⟨b2,o2,none⟩) n cb] 64)).alloc (aN #[aC aB s,aA (bs pf),aA (bs pt)] 68)).alloc (aN #[x,y] 53)).drew)):=fun x y=>
  ((((aL w.heap.size w).alloc (aH _) _).alloc (by simp) _).alloc (by simp;omega) _).drew
 have KZ:bK (∀x y,(((w.alloc (aN #[aD (some ⟨b1,o1,none⟩) n ca,aD (some ⟨b2,o2,none⟩) n cb] 64)).alloc (aN #[aC aB s,aA (bs pf),aA (bs pt)] 68)).alloc (aN #[x,y] 53)).drew.cell? ⟨b2,o2+s,none⟩=some (aA (bs (at'.getD s [])))):=fun x y=>((HB.out x y).cell (p:=⟨b2,o2+s,none⟩) l2).trans k0;clear rf ra hf hl;generalize fs.getD s default=f at *;generalize at'.getD s []=A at *;obtain⟨uY,fco,fdir,JJ,fst⟩:=f;simp only[]at *;unfold Pt.v Pt.cells;simp only[];cases uY;case' false=>have R2:bK ((bW fs at' ⟨s,pf,pt⟩).v=cF #[aA (bs pf),aA (bs A)]):=by show Po.v _=_;rw[R.out];rfl
 case' true=>have R2:bK ((bW fs at' ⟨s,pf,pt⟩).v=cF #[aA (bs A),aA (bs pf)]):=by show Po.v _=_;rw[R.out];rfl
 all_goals
  clear R;generalize bW fs at' ⟨s,pf,pt⟩=RC at *;generalize bs A=As at *;generalize bs pf=PF at *;generalize bs pt=PT at *;go_enter func52,ntmps52;go_wp2;have kk:=KZ.out (aA {data:= #[]}) (aA {data:= #[]});go_region_held3 (fun w'=>(w'.cell? ⟨w.heap.size+1,0,none⟩=some (aC aB s)∧w'.cell? ⟨w.heap.size+1,1,none⟩=some (aA PF)∧w'.cell? ⟨w.heap.size+1,2,none⟩=some (aA PT))∧(w'.cell? ⟨w.heap.size,0,none⟩=some (aD (some ⟨b1,o1,none⟩) n ca)∧w'.cell? ⟨w.heap.size,1,none⟩=some (aD (some ⟨b2,o2,none⟩) n cb))∧w'.cell? ⟨b2,o2+s,none⟩=some (aA As)) ((try refine⟨⟨?_,?_,?_⟩,⟨?_,?_⟩,?_⟩)<;>(first |exact kk|exact KZ.out _ _|go_keep)) (fail)
  go_wp2;refine dU (Aq (T:=53) Tryz.results52 _ _ (w.heap.size+1+1) _ _ rfl (Q1.out _ _) isAgg53 sizeOf53) rfl ⟨by rw[R2.out]<;>rfl,HB.out _ _⟩
def oQ(qs:List Po):List aP:=qs.flatMap fun q=>[aA (bs q.x),aA (bs q.y)]
theorem Tv(qs:List Po)(q:Po):oQ (qs++[q])=oQ qs++[aA (bs q.x),aA (bs q.y)]:=by simp[oQ]
theorem WS(qs:List Po):(oQ qs).length=2*qs.length:=by
 induction qs with
 |nil=>rfl
 |cons q qs ih=>simp[oQ]at *;omega
theorem OJ:∀(qs:List Po)(i:Nat),i<qs.length→(oQ qs)[i*2]? =some (aA (bs (qs.getD i default).x))∧(oQ qs)[i*2+1]? =some (aA (bs (qs.getD i default).y))
 |[],i,h=>by simp at h
 |q::qs,0,_=>⟨rfl,rfl⟩
 |q::qs,i+1,h=>by
  have ih:=OJ qs i (by simpa using h)
  have e1:(i+1)*2=i*2+1+1:=by omega
  have e2:(i+1)*2+1=(i*2+1)+1+1:=by omega
  have e:oQ (q::qs)=aA (bs q.x)::aA (bs q.y)::oQ qs:=rfl
  rw[e2,e1,e]
  simp only[bC,List.getD_cons_succ]
  exact ih
def OK(W:aF)(a:Option cO)(qs:List Po):Prop:=
 ∀i,i<qs.length→∃b off,a=some ⟨b,off,none⟩∧W.cell? ⟨b,off+i*2,none⟩=some (aA (bs (qs.getD i default).x))∧W.cell? ⟨b,off+i*2+1,none⟩=some (aA (bs (qs.getD i default).y))
theorem OK.below{w w':aF}{a:Option cO}{qs:List Po}(h:OK w a qs)(hb:Below w.heap.size w w'):OK w' a qs:=by
 intro i hi;obtain⟨b,off,rfl,h1,h2⟩:=h i hi;exact⟨b,off,rfl,(hb.cell (p:=⟨b,off+i*2,none⟩) (bB w _ h1)).trans h1,(hb.cell (p:=⟨b,off+i*2+1,none⟩) (bB w _ h2)).trans h2⟩
theorem OK.own{w:aF}{cL e:Nat}{a:Option cO}{n cap:Nat}{qs:List Po}(h:w.ownsRow cL e 2 (aD a n cap) n (oQ qs)):OK w a qs:=by
 intro i hi;have hl:=h.1;rw[WS]at hl;rcases h.2 with⟨_,h2⟩|⟨g,c,oL,hv,_⟩
 ·omega
 ·injection hv with e1 e2 e3;subst e1 e3;obtain⟨k1,k2⟩:=OJ qs i hi;refine⟨g,0,rfl,?_,?_⟩
  ·rw[cC,dZ h (i*2) (by omega),k1]
  ·rw[cC,dZ h (i*2+1) (by omega),k2]
structure Lo where
 a:Option cO
 cap:Nat
 qs:List Po
instance:Inhabited Lo:=⟨⟨none,0,[]⟩⟩
def Qs(W:aF)(a:Option cO)(ls:List Lo):Prop:=
 ∀i,i<ls.length→∃b off,a=some ⟨b,off,none⟩∧W.cell? ⟨b,off+i,none⟩=some (aD (ls.getD i default).a (ls.getD i default).qs.length (ls.getD i default).cap)∧OK W (ls.getD i default).a (ls.getD i default).qs
theorem Qs.below{w w':aF}{a:Option cO}{ls:List Lo}(h:Qs w a ls)(hb:Below w.heap.size w w'):Qs w' a ls:=by
 intro i hi;obtain⟨b,off,rfl,h1,h2⟩:=h i hi;exact⟨b,off,rfl,(hb.cell (p:=⟨b,off+i,none⟩) (bB w _ h1)).trans h1,h2.below hb⟩
def eU(fs:List Fr)(at':List (List UInt8))(ls:List Lp):List (List Po):=ls.map fun l=>l.ps.map fun p=>bW fs at' p
theorem info_pt:(Tryz.prog.info? 53).map (fun i=>(i.zero,i.size,i.bytes))=some (some (cF #[aA ⟨#[]⟩,aA ⟨#[]⟩]),2,32):=by kernel_rfl
theorem info_lo:(Tryz.prog.info? 51).map (fun i=>(i.zero,i.size,i.bytes))=some (some (aD none 0 0),1,24):=by kernel_rfl
theorem app_pt{w:aF}{cM:Array fX}{rest:List fX}{o:fX}{a:mI}{Q:Exit→mI→aF→Prop}(FN:o.guard=none)(s x:Operand)
 (ho:o.op=.call {callee:=.builtin .append,args:= #[s,x],argTypes:= #[51,51]})(cL:Nat)
 (v:aP)(n:Nat)(xs:List aP)(hs:a.eval s=v)(dI:w.ownsRow cL 53 2 v n xs)
 (y z:ByteArray)(hx:a.eval x=aD (some ⟨w.heap.size,0,none⟩) 1 1)
 (Np:n+1≤2147483648)(jH:cL≤w.heap.size)
 (h:∀g cap w',w'.ownsRow cL 53 2 (aD (some ⟨g,0,none⟩) (n+1) cap) (n+1) (xs++[aA y,aA z])→cL≤g→w.grownBy w' v.ownBlock→
  NE aE cM Q rest (a.put o.dst (aD (some ⟨g,0,none⟩) (n+1) cap)) w'):
 NE aE cM Q (o::rest) a (w.alloc (aN #[aA y,aA z] 53)):=by
 obtain⟨i0,hi,yH,zB,sS⟩:=lI info_pt;exact uE FN s x 51 ho cL 53 i0 (cF #[aA ⟨#[]⟩,aA ⟨#[]⟩]) 2 32 underlying51 hi yH zB sS rfl (by decide) v n xs hs dI [aA y,aA z] hx rfl (by simp[kA]) Np (by decide) jH h
theorem app_lo{w:aF}{cM:Array fX}{rest:List fX}{o:fX}{a:mI}{Q:Exit→mI→aF→Prop}(FN:o.guard=none)(s x:Operand)
 (ho:o.op=.call {callee:=.builtin .append,args:= #[s,x],argTypes:= #[47,47]})(cL:Nat)
 (v:aP)(n:Nat)(xs:List aP)(hs:a.eval s=v)(dI:w.ownsRow cL 51 1 v n xs)
 (ad:Option cO)(m c:Nat)(hx:a.eval x=aD (some ⟨w.heap.size,0,none⟩) 1 1)
 (Np:n+1≤2147483648)(jH:cL≤w.heap.size)
 (h:∀g cap w',w'.ownsRow cL 51 1 (aD (some ⟨g,0,none⟩) (n+1) cap) (n+1) (xs++[aD ad m c])→cL≤g→w.grownBy w' v.ownBlock→
  NE aE cM Q rest (a.put o.dst (aD (some ⟨g,0,none⟩) (n+1) cap)) w'):
 NE aE cM Q (o::rest) a (w.alloc (aN #[aD ad m c] 51)):=by
 obtain⟨i0,hi,yH,zB,sS⟩:=lI info_lo;exact uE FN s x 47 ho cL 51 i0 (aD none 0 0) 1 24 underlying47 hi yH zB sS rfl (by decide) v n xs hs dI [aD ad m c] hx rfl (by simp[kA]) Np (by decide) jH h
theorem pE{w:aF}{b1 b2 e1 e2 s1 s2 n1 n2:Nat}{v1 v2:aP}{xs ys:List aP}(h1:w.ownsRow b1 e1 s1 v1 n1 xs)(h2:w.ownsRow b2 e2 s2 v2 n2 ys)(iC:e1≠e2):v1.ownBlock=none∨v1.ownBlock≠v2.ownBlock:=by
 rcases h1.2 with⟨h,_⟩|⟨g1,c1,cur1,h,_,k1,_⟩
 ·left;rw[h];rfl
 ·right;rw[h];rcases h2.2 with⟨h',_⟩|⟨g2,c2,cur2,h',_,k2,_⟩
  ·rw[h'];simp[jW]
  ·rw[h'];simp only[jW,ne_eq,vY];rintro rfl;rw[k1]at k2;injection k2 with k2;injection k2 with _ k3;exact iC k3
def loV(l:Lo):aP:=aD l.a l.qs.length l.cap
def Au(B:Nat)(W:aF)(v:aP)(los:List Lo):Prop:=
 W.ownsRow B 51 1 v los.length (los.map loV)∧∀l∈los,W.ownsRow B 53 2 (loV l) l.qs.length (oQ l.qs)
theorem Au.below{B:Nat}{W W':aF}{v:aP}{los:List Lo}(h:Au B W v los)(hb:Below W.heap.size W W'):Au B W' v los:=
 ⟨bJ h.1 hb,fun l hl=>bJ (h.2 l hl) hb⟩
theorem Au.grow{B:Nat}{W W':aF}{v:aP}{los:List Lo}{l:Lo}{g cap:Nat}(h:Au B W v los)(hl:W.ownsRow B 53 2 (loV l) l.qs.length (oQ l.qs))
 (hg:W.grownBy W' v.ownBlock)(dI:W'.ownsRow B 51 1 (aD (some ⟨g,0,none⟩) (los.length+1) cap) (los.length+1) (los.map loV++[loV l])):
 Au B W' (aD (some ⟨g,0,none⟩) (los.length+1) cap) (los++[l]):=by
 refine⟨by rw[bO,eV];exact dI,fun x hx=>?_⟩;rcases List.mem_append.1 hx with hx|hx
 ·exact(h.2 x hx).kept hg (pE (h.2 x hx) h.1 (by decide))
 ·rw[List.mem_singleton.1 hx];exact hl.kept hg (pE hl h.1 (by decide))
theorem Au.reads{B:Nat}{W:aF}{a:Option cO}{n cap:Nat}{los:List Lo}(h:Au B W (aD a n cap) los):Qs W a los:=by
 intro i hi;have hl:=bU hi (default:Lo);have h2:=h.2 _ hl;rcases h.1.2 with⟨_,h3⟩|⟨g,c,oL,hv,_⟩
 ·omega
 ·injection hv with e1 e2 e3;subst e1 e2 e3;refine⟨g,0,rfl,?_,OK.own h2⟩;rw[cC,dZ h.1 i (by omega)];simp[aG,hi,loV]
def RetP(w:aF)(Gr:List (List Po))(err:Int)(e:wG)(w':aF):Prop:=
 (∃a cap,∃los:List Lo,e=bA (.tuple #[aD a Gr.length cap,aC aB err])∧los.map Lo.qs=Gr∧Qs w' a los)∧Below w.heap.size w w'
theorem OL (a b:Option cO) (nf n ca cb:Nat) (fs:List Fr) (ls:List Lp) (z:List UInt8) (w:aF) (hE:mN w)
 (hT:Kf w a b nf n fs ls) (hz:Lz z) (hA:tO fs (fR fs z) ls false=true) :
 bE aE 18 #[aD a nf ca,aD b n cb,aA (bs z)] w (RetP w (eU fs (fR fs z) ls) 0):=by
 have fE:=(aL w.heap.size w).alloc (aH _) (aN #[aA (bs z)] 34);have rz:=yJ.one w z;have HC:=zq (sF a b (some ⟨w.heap.size,0,none⟩) nf n 1 ca cb 1 fs ls [z] _ (hE.below fE) (hT.below fE) rfl (by decide) (fun x hx=> by rw [eJ] at hx;subst hx;exact hz) rz);obtain⟨hf,hl,eu,hn,NQ,Ns,rf,rl⟩:=hT;have IN:bK (∀ b2 c2 W,Below w.heap.size w W→yJ W b2 (fR fs z)→bE aE 33 #[cF #[aD a nf ca,aD b2 nf c2],aD b n cb,aV false] W (Rt (aV true) W)):=fun b2 c2 W hW ha=>
  Qr a b2 b nf n ca c2 cb fs (fR fs z) ls false W (hE.below hW) hf (by rw [uA];exact hf) hl hn (fun f hm=> (NQ f hm).dir) Ns (rf.below hW) ha (rl.below hW) hA
 have qj:bK (∀ i,i < n→∀ j,j < (ls.getD i default).ps.length→∀ b2 c2 W,Below w.heap.size w W→yJ W b2 (fR fs z)→
  bE aE 52 #[cF #[aD a nf ca,aD b2 nf c2],((ls.getD i default).ps.getD j default).v] W (Rt ((bW fs (fR fs z) ((ls.getD i default).ps.getD j default)).v) W)):=fun i hi j hj b2 c2 W hW ha=> by
  obtain⟨s,h1,h2⟩:=OI hA (by rw [hl];exact hi) hj;exact Ar a b2 nf ca c2 fs (fR fs z) _ s W h1 (by omega) hf (by rw [uA];exact hf) (rf.below hW) ha
 have yh:bK (∀ i,i < n→(ls.getD i default).ps.length≤96):=fun i hi=> (Ns _ (bU (by rw [hl];exact hi) default)).1;have Hl:=zq hl;have Rl:=zq rl;have fV:=zq fE;clear hE hf hl NQ Ns hz rf rl rz fE hA;have hL' :fR fs (([z]:List (List UInt8)).getD 0 [])=fR fs z:=rfl;generalize hL:fR fs z=L at *;generalize bs z=Z at *;clear hL;unfold dr at HC;rw [hL'] at HC;go_enter func18,ntmps18;go_wp2_with fail
 refine HC.out.mono ?_;rintro e W1 ⟨⟨a2,n2,c2,rfl,hk⟩,hb1⟩;obtain⟨h4,ha⟩:=hk (by first | exact Nat.zero_lt_one | trivial | simp);obtain rfl:=h4.symm;have eC:=zq (aQ fV.out hb1);have WR:=zq (eC.out.alloc eC.out.size (aN #[aD a nf ca,aD a2 nf c2] 64));have QT:=zq (bT.new W1 #[aD a nf ca,aD a2 nf c2] 64);have Ha:=zq (ha.below ((aL W1.heap.size W1).alloc (aH _) (aN #[aD a nf ca,aD a2 nf c2] 64)));clear ha hb1 HC fV;go_wp2_with fail
 refine(IN.out _ _ _ WR.out Ha.out).mono ?_;rintro e W3 ⟨rfl,hb2⟩;have HB3:=zq (aQ WR.out hb2);have QT:=zq (QT.out.below hb2 QT.out.lt);have Ha:=zq (Ha.out.below hb2);obtain⟨G,hG⟩:∃ G,W1.heap.size=G:=⟨_,rfl⟩;rw [hG] at QT ⊢;clear hb2 IN WR hG eC;have O0:bK (Au W3.heap.size W3 (aD none 0 0) []):=⟨⟨by simp, .inl ⟨rfl,rfl⟩⟩,fun l hl=> absurd hl (by simp)⟩;go_wp2;go_loopw [10,33] (fun o i wr=> ∃ (ad:Option cO) (co:Nat) (los:List Lo),i=aC aB (los.length:Nat)∧los.length≤n∧o=aD ad los.length co∧bK (los.map Lo.qs=(eU fs L ls).take los.length)∧bK (Au W3.heap.size wr (aD ad los.length co) los)∧bK (Below W3.heap.size W3 wr)) (fun _ i _=> n - (aK i).toNat);case atStart=> exact⟨_,0, [],rfl,bM _,rfl,rfl,O0.out,aL _ _⟩
 case round=>
  clear O0;obtain⟨ad,co,los,rfl,hk,rfl,Hq,HO,HB⟩:=hrel;have vL:=zq (aQ HB3.out HB.out);obtain⟨k,yi⟩:∃ k,los.length=k:=⟨_,rfl⟩;rw [yi] at hk Hq HO ⊢;by_cases hlt:k < n
  ·obtain⟨lb,lo,rfl,c0,rp⟩:=(Rl.out.below vL.out).at (i:=k) (by rw [Hl.out];exact hlt) rfl;have Rp:=zq rp;have KP:=zq (qj.out k hlt);have Hpt:bK ((eU fs L ls).take (k + 1)=(eU fs L ls).take k ++ [(ls.getD k default).ps.map fun p=> bW fs L p]):=by
    show _=_;unfold eU;rw [cN (by rw [aZ,Hl.out];exact hlt)];simp [aG,Hl.out,hlt]
   have Hkk:=zq yi;have IP:=yh.out k hlt;generalize ls.getD k default=l at *;generalize l.a=la at *;generalize l.cap=lcp at *;obtain⟨qs,Tw⟩:∃ qs,l.ps.map (fun p=> bW fs L p)=qs:=⟨_,rfl⟩;rw [Tw] at Hpt;have Hqs:bK (∀ j,j < l.ps.length→qs.take (j + 1)=qs.take j ++ [bW fs L (l.ps.getD j default)]):=fun j hj=> by
    rw [← Tw,cN (by rw [aZ];exact hj)];simp [aG,hj]
   have Hql:bK (qs.length=l.ps.length):=by show _=_;rw [← Tw,aZ]
   clear Tw rp yi;rename aF=> wo;have QTo:=zq (QT.out.below HB.out QT.out.lt);obtain⟨m,hm⟩:∃ m,l.ps.length=m:=⟨_,rfl⟩;rw [hm] at KP Hqs Hql c0 IP;have Hm:=zq hm;clear hm;go_wp2;go_loopw [13,39] (fun o i wr=> ∃ (j:Nat) (al:Option cO) (cl:Nat),i=aC aB j∧j≤m∧o=aD al j cl∧bK (wr.ownsRow wo.heap.size 53 2 (aD al j cl) j (oQ (qs.take j)))∧bK (Below wo.heap.size wo wr)) (fun _ i _=> m - (aK i).toNat);case atStart=> exact⟨0,none,0,rfl,bM _,rfl,⟨by simp [oQ], .inl ⟨rfl,rfl⟩⟩,aL _ _⟩
   case round=>
    obtain⟨j,al,cl,rfl,hj,rfl,pU,Bl⟩:=hrel;obtain⟨t0,t1, -, -,tl⟩:=(QTo.out.below Bl.out QTo.out.lt).two;by_cases hjm:j < m
    ·obtain⟨pb,po,rfl,d0,d1,d2⟩:=(Rp.out.below Bl.out).at (i:=j) (by rw [Hm.out];exact hjm) rfl;have HCj:=zq (fun (W:aF) (h:Below wr.heap.size wr W)=> KP.out j hjm a2 c2 W (aQ (aQ vL.out Bl.out) h) (((Ha.out.below HB.out).below Bl.out).below h));have Hqj:=zq (Hqs.out j hjm);unfold Pt.v Pt.cells at HCj;generalize l.ps.getD j default=p at *;generalize bW fs L p=C at *;unfold Po.v Po.cells at HCj;obtain⟨ps,pf,pe⟩:=p;obtain⟨cx,cy⟩:=C;simp only [] at *;generalize bs pf=PF at *;generalize bs pe=PEn at *;obtain⟨CX,hCX⟩:∃ s,bs cx=s:=⟨_,rfl⟩;obtain⟨CY,hCY⟩:∃ s,bs cy=s:=⟨_,rfl⟩;rw [hCX,hCY] at HCj;have HCX:=zq hCX;have HCY:=zq hCY;clear hCX hCY;have hBp:=(aL wr.heap.size wr).alloc (aH _) (aN #[aC aB ps,aA PF,aA PEn] 68);have HBp:=zq hBp;clear hBp;go_wp2_with fail
     refine(HCj.out _ HBp.out).mono ?_;rintro e W5 ⟨rfl,hb5⟩;have hb6:=aQ HBp.out hb5;have xX:=zq (aQ Bl.out hb6);have iV:=bJ pU.out hb6;clear hb5 hb6 HCj pU Bl;go_wp2_with (at_builtin;refine app_pt rfl _ _ rfl wo.heap.size (aD al j cl) j _ rfl iV _ _ rfl (by omega) xX.out.size ?_;intro g6 cap6 w6 Av hg6 yj)
     have zV:=zq (dO xX.out yj iV (aH _) xX.out.size);have e6:oQ (qs.take j) ++ [aA CX,aA CY]=oQ (qs.take (j + 1)):=by
      rw [Hqj.out,Tv,HCX.out,HCY.out]
     rw [e6] at Av;have Hown6:=zq Av;clear e6 iV Av yj xX;go_wp2;go_roundw;case rel=> exact⟨j + 1,_,cap6,by go_num,by omega,rfl,Hown6.out,zV.out⟩
     case measure=> simp only [aK];omega
    ·obtain rfl:m=j:=by omega
     have hqt:qs.take m=qs:=eM (by rw [Hql.out];exact aH _);rw [hqt] at pU;have Si:=zq (aQ HB.out Bl.out);have Nr:=zq (HO.out.below Bl.out);have Ox:=jO pU.out HB.out.size;have ez:=zq Ox;clear hqt Ox pU Bl HO;have WU:bK ((los ++ [(⟨al,cl,qs⟩:Lo)]).map Lo.qs=(eU fs L ls).take (k + 1)):=by
      show _=_;rw [eV,Hq.out,Hpt.out];rfl
     have oR:=Nr.out.1;rw [Hkk.out] at oR;have hlen8:(los ++ [(⟨al,cl,qs⟩:Lo)]).length=k + 1:=by rw [bO,Hkk.out];rfl
     have Ty:=zq hlen8;clear hlen8;go_wp2_with (at_builtin;refine app_lo rfl _ _ rfl W3.heap.size (aD ad k co) k _ rfl oR al m cl rfl (by omega) Si.out.size ?_;intro g8 Tz w8 Gs hg8 LK)
     have HB8:=zq (dO Si.out LK oR (aH _) Si.out.size);have HO8:bK (Au W3.heap.size w8 (aD (some ⟨g8,0,none⟩) (k + 1) Tz) (los ++ [⟨al,cl,qs⟩])):=by
      have:=Au.grow (l:=⟨al,cl,qs⟩) (g:=g8) (cap:=Tz) Nr.out (by
       have:=ez.out;show RY _ _ _ _ (aD al qs.length cl) qs.length (oQ qs);rw [Hql.out];exact this) LK (by
       rw [Hkk.out];show RY _ _ _ _ _ _ (_ ++ [aD al qs.length cl]);rw [Hql.out];exact Gs)
      rwa [Hkk.out] at this
     clear oR Gs LK Nr ez;go_wp2;go_roundw;case rel=> exact⟨_,Tz,los ++ [⟨al,cl,qs⟩],by rw [Ty.out];go_num,by rw [Ty.out];omega,by rw [Ty.out],by rw [Ty.out];exact WU.out,by rw [Ty.out];exact HO8.out,HB8.out⟩
     case measure=> simp only [aK];omega
  ·obtain rfl:n=k:=by omega
   have Er:(eU fs L ls).take n=eU fs L ls:=eM (by unfold eU;rw [aZ,Hl.out];exact aH _);rw [Er] at Hq;have R:bK (RetP w (eU fs L ls) 0 (bA (.tuple #[aD ad n co,aC aB 0])) wr):=by
    have hlen:(eU fs L ls).length=n:=by unfold eU;rw [aZ,Hl.out]
    exact⟨⟨ad,co,los,by rw [hlen],Hq.out,Au.reads HO.out⟩,vL.out⟩
   clear Er yi;go_wp2;go_ret2;exact R.out
section
attribute[local go_sem] gM
structure qk(W:aF)(gx gy X Y:Nat)(xs ys:List (List UInt8)):Prop where
 lx:xs.length=X
 ly:ys.length=Y
 x:∀i,i<X→W.cell? ⟨gx,i,none⟩=some (aA (bs (xs.getD i [])))
 y:∀i,i<Y→W.cell? ⟨gy,i,none⟩=some (aA (bs (ys.getD i [])))
theorem qk.below{W W':aF}{gx gy X Y:Nat}{xs ys:List (List UInt8)}(h:qk W gx gy X Y xs ys)(hb:Below W.heap.size W W'):qk W' gx gy X Y xs ys:=
 ⟨h.lx,h.ly,fun i hi=>(hb.cell (p:=⟨gx,i,none⟩) (bB W _ (h.x i hi))).trans (h.x i hi),fun i hi=>(hb.cell (p:=⟨gy,i,none⟩) (bB W _ (h.y i hi))).trans (h.y i hi)⟩
def Bm(xs ys:List (List UInt8))(x y d:Nat):List UInt8:=if d%2=1 then ys.getD y []else xs.getD x []
theorem LL(G gx gy X Y cx cy m2 m3 m4:Nat)(S N:WL)(I:SL)(xs ys:List (List UInt8))(x y d:Nat)(hd:d<4)(hx:x<X)(hy:y<Y)(w:aF)(hg:gN w G (aD (some ⟨gx,0,none⟩) X cx) (aD (some ⟨gy,0,none⟩) Y cy) m2 m3 m4 S N I)(hl:qk w gx gy X Y xs ys):
 bE aE 174 #[aY (some ⟨G,0,none⟩),cF #[aC aB x,aC aB y],aC aB d] w (Rt (aA (bs (Bm xs ys x y d))) w):=by
 have fE:=(aL w.heap.size w).alloc (aH _) (aN #[aC aB x,aC aB y] 165);have IF:=hg.below fE;have hl0:=hl.below fE;have g0:=IF.blk.cell 0;have g1:=IF.blk.cell 1;have cX:=hl0.x x hx;have cY:=hl0.y y hy;have lG:=IF.blk.lt;obtain⟨e0,e1,-,-,lT⟩:=(bT.new w #[aC aB x,aC aB y] 165).two;have fV:=zq fE;have hxX:(x:Int)<X:=by omega
 have hyY:(y:Int)<Y:=by omega
 obtain⟨W0,eY⟩:∃W,w.alloc (aN #[aC aB x,aC aB y] 165)=W:=⟨_,rfl⟩;rw[eY]at fV e0 e1 lT g0 g1 cX cY lG;have FC:=zq eY;simp only[aJ,aI,bC]at g0 g1;have et:Int.tmod (d:Int) 2=((d%2:Nat):Int):=by rw[rM (by omega)];omega
 clear hg hl fE IF hl0 eY;by_cases hp:d%2=1
 ·have R:bK (Bm xs ys x y d=ys.getD y []):=ip hp;rw[hp]at et;generalize ys.getD y []=YV at *;go_enter func174,ntmps174;go_upto_region 2 with(fail)
  try rw[FC.out]
  clear FC;go_quiet (fail)
  go_wp2;go_ret;exact⟨by rw[R.out]<;>rfl,by first |exact fV.out|exact eF fV.out _⟩
 ·have Zn:d%2=0:=by omega
  have R:bK (Bm xs ys x y d=xs.getD x []):=iN hp;rw[Zn]at et;generalize xs.getD x []=XV at *;go_enter func174,ntmps174;go_upto_region 3 with(fail)
  try rw[FC.out]
  clear FC;go_quiet (fail)
  go_wp2;go_ret;exact⟨by rw[R.out]<;>rfl,by first |exact fV.out|exact eF fV.out _⟩
def nT(S:WL)(a b:Wy):Bool:=decide (a.d=b.d)&&decide (rR S a=rR S b)
theorem LM(Bg G:Nat)(xv yv:aP)(m2 m3 m4:Nat)(S N:WL)(I:SL)(a b:Wy)(w:aF)(hg:gN w G xv yv m2 m3 m4 S N I)(hb:bT w Bg #[aY (some ⟨G,0,none⟩)] 78):
 bE aE 172 #[kW a,kW b,aY (some ⟨Bg,0,none⟩)] w (Rt (aV (nT S a b)) w):=by
 obtain⟨x,y,d⟩:=a;obtain⟨x',y',d'⟩:=b;have fE:=((aL w.heap.size w).alloc (aH _) (aN #[aC aB x,aC aB y,aC aB d] 167)).alloc (by simp) (aN #[aC aB x',aC aB y',aC aB d'] 167);have q0:=(bT.new w #[aC aB x,aC aB y,aC aB d] 167).alloc (aN #[aC aB x',aC aB y',aC aB d'] 167);have q1:=bT.new (w.alloc (aN #[aC aB x,aC aB y,aC aB d] 167)) #[aC aB x',aC aB y',aC aB d'] 167;rw[bH]at q1;have IF:=hg.below fE;have b1:=(hb.below fE hb.lt).cell 0;obtain⟨W0,eY⟩:∃W,(w.alloc (aN #[aC aB x,aC aB y,aC aB d] 167)).alloc (aN #[aC aB x',aC aB y',aC aB d'] 167)=W:=⟨_,rfl⟩;rw[eY]at fE q0 q1 IF b1;obtain⟨a0,a1,a2⟩:=q0.three;obtain⟨c0,c1,c2⟩:=q1.three;have lA:=q0.lt;have lC:=q1.lt;have g2:=IF.blk.cell 2;have lG:=IF.blk.lt;simp only[aJ,aI,bC]at b1 g2;have fV:=zq fE;have FC:=zq eY;have HL1:=fun n=>uJ (w:=W0.drewN n) IF.s x y d;have ez:=fun n=>uJ (w:=W0.drewN n) IF.s x' y' d';have R:bK (nT S ⟨x,y,d⟩ ⟨x',y',d'⟩=(decide (d=d')&&decide (rR S ⟨x,y,d⟩=rR S ⟨x',y',d'⟩))):=rfl;generalize rR S ⟨x,y,d⟩=u at *;generalize rR S ⟨x',y',d'⟩=v at *;unfold kW;clear hg hb fE q0 q1 IF eY;by_cases hp:d=d'
 ·subst hp;by_cases hq:u=v
  ·subst hq;go_enter VJ,RZ;go_upto_region 1 with(fail)
   try rw[FC.out]
   clear FC;go_quiet (fail)
   go_wp2;go_ret;exact⟨by rw[R.out];simp,by first |exact fV.out|exact eF fV.out _⟩
  ·have hq1:decide (u=v)=false:=decide_eq_false hq;go_enter VJ,RZ;go_upto_region 1 with(fail)
   try rw[FC.out]
   clear FC;go_quiet (fail)
   go_wp2;go_ret;exact⟨by rw[R.out];simp[hq],by first |exact fV.out|exact eF fV.out _⟩
 ·have hp1:((d:Int)==(d':Int))=false:=by rw[beq_eq_false_iff_ne];omega
  have hp2:¬(d:Int)=(d':Int):=by omega
  go_enter VJ,RZ;go_upto_region 1 with(fail)
  try rw[FC.out]
  clear FC;go_quiet (fail)
  go_wp2;go_ret;exact⟨by rw[R.out];simp[hp],by first |exact fV.out|exact eF fV.out _⟩
end
theorem HB.inv{a b:Nat}{x:Rat}(h1:HB a b x)(h0:x≠0):HB b a x⁻¹:=by
 have hn:x.num≠0:=fun e=>h0 (Rat.num_eq_zero.1 e);refine⟨?_,?_⟩
 ·rw[Rat.num_inv,G9,eD];have:x.num.sign.natAbs≤1:=by rw[Int.natAbs_sign];split <;>omega
  exact Nat.lt_of_le_of_lt (Nat.mul_le_mul_right _ this) (by rw[Nat.one_mul];exact h1.2)
 ·rw[Rat.den_inv,iN hn];exact h1.1
theorem HB.div{a b c d:Nat}{x y:Rat}(h1:HB a b x)(h2:HB c d y)(h0:y≠0):HB (a+d) (b+c) (x/y):=by
 rw[bg];exact h1.mul (h2.inv h0)
theorem bsT_inj{x y:Rat}(h:bs (bG x)=bs (bG y)):x=y:=by
 have h1:bG x=bG y:=by rw[←fY (bG x),h,fY]
 rw[←gG x,h1,gG]
theorem TA(x y:Rat):((bs (bG x)).toList==(bs (bG y)).toList)=decide (x=y):=by
 rw[dV,dV,fY,fY];by_cases h:x=y
 ·subst h;simp
 ·rw[decide_eq_false h];exact beq_eq_false_iff_ne.2 fun e=>h (bsT_inj (by rw[e]))
theorem yk(x:Rat):((bs (bG x)).toList==[48])=decide (x=0):=by
 have:=TA x 0;rwa[Dx,show(bs [48]).toList=[48] by rw[dV];rfl]at this
theorem Zo(f g:FQ):sC f g=((g.co-f.co:Int):Rat):=by unfold sC;rw[NI]
theorem gap_hb{f g:FQ}(hf:f.Good)(hg:g.Good):HB 5 1 (sC f g):=by
 rw[Zo];exact HB.int (by have:=hf.co0;have:=hf.co1;have:=hg.co0;have:=hg.co1;omega)
theorem zE{x y:Int}{a b:Nat}(h1:x.natAbs≤a)(h2:y.natAbs≤b):(x*y).natAbs≤a*b:=by
 rw[G9];exact Nat.mul_le_mul h1 h2
theorem FQ.Good.vq{q:FQ}(h:q.Good):∃(n:Int)(d:Nat),n.natAbs≤48∧1≤d∧d≤48∧q.vel*((d:Int):Rat)=(n:Rat):=by
 obtain⟨n,d,h1,h2,h3,h4⟩:=h.v;refine⟨q.dir*n,d,?_,h2,h3,?_⟩
 ·have:=h.dir;rw[G9,eD,show q.dir.natAbs=1 by omega];omega
 ·unfold FQ.vel;rw[Rat.mul_assoc,h4,lX]
theorem Dz{q:FQ}(h:q.Good):Ce q.t:=by
 obtain⟨k,h1,h2⟩:=h.t;refine Ce.of (N:=k) (D:=1) (by rw[h2];exact Rat.mul_one _) (by decide) (by omega) (by decide)
theorem Zp{f:FQ}{gap:Int}(hf:f.Good)(hg:gap.natAbs≤65536)(h0:f.vel≠0):Ce (f.t+gap/f.vel):=by
 obtain⟨n,d,h1,h2,h3,h4⟩:=hf.vq;obtain⟨k,h5,h6⟩:=hf.t;have hn:n≠0:=fun e=>by
  rw[e]at h4;have hd:((d:Int):Rat)≠0:=by exact_mod_cast (by omega:(d:Int)≠0)
  rcases Rat.mul_eq_zero.1 h4 with h|h
  ·exact h0 h
  ·exact hd h
 refine Ce.of (N:=k*n+gap*d) (D:=n) ?_ hn ?_ (by omega)
 ·rw[Rat.intCast_add,lX,lX,←h6,←h4];have:=tu (a:=(gap:Rat)) h0;generalize(gap:Rat)/f.vel=x at *;rw[←this];grind
 ·have e1:=zE (x:=k) (y:=n) (a:=65536) (by omega) h1;have e2:=zE (x:=gap) (y:=d) (b:=48) hg (by omega);omega
theorem lev_two{f g:FQ}{gap:Int}(hf:f.Good)(hg:g.Good)(hgp:gap.natAbs≤65536)(h0:f.vel-g.vel≠0):Ce (((gap:Rat)+(f.vel*f.t-g.vel*g.t))/(f.vel-g.vel)):=by
 obtain⟨n,d,h1,h2,h3,h4⟩:=hf.vq;obtain⟨k,h5,h6⟩:=hf.t;obtain⟨m,e,i1,i2,i3,i4⟩:=hg.vq;obtain⟨j,i5,i6⟩:=hg.t;have hd:((d:Int):Rat)≠0:=by exact_mod_cast (by omega:(d:Int)≠0)
 have he:((e:Int):Rat)≠0:=by exact_mod_cast (by omega:(e:Int)≠0)
 have hD:((n*e-m*d:Int):Rat)=(f.vel-g.vel)*(((d:Int):Rat)*((e:Int):Rat)):=by
  rw[NI,lX,lX,←h4,←i4];grind
 refine Ce.of (N:=gap*(d*e)+(n*e*k-m*d*j)) (D:=n*e-m*d) ?_ (fun z=>?_) ?_ ?_
 ·have:=tu (a:=(gap:Rat)+(f.vel*f.t-g.vel*g.t)) h0;rw[hD,←Rat.mul_assoc,this];simp only[Rat.intCast_add,NI,lX];rw[←h4,←i4,h6,i6];grind
 ·rw[z]at hD;rcases Rat.mul_eq_zero.1 hD.symm with h|h
  ·exact h0 h
  ·rcases Rat.mul_eq_zero.1 h with h|h
   ·exact hd h
   ·exact he h
 ·have b1:=zE (x:=d) (y:=e) (a:=48) (b:=48) (by omega) (by omega);have b2:=zE hgp b1;have b3:=zE (zE (y:=(e:Int)) (b:=48) h1 (by omega)) (y:=(k:Int)) (b:=65536) (by omega);have b4:=zE (zE (y:=(d:Int)) (b:=48) i1 (by omega)) (y:=(j:Int)) (b:=65536) (by omega);generalize gap*((d:Int)*e)=A at *;generalize n*(e:Int)*k=B at *;generalize m*(d:Int)*j=C at *;omega
 ·have b3:=zE (y:=(e:Int)) (b:=48) h1 (by omega);have b4:=zE (y:=(d:Int)) (b:=48) i1 (by omega);generalize n*(e:Int)=A at *;generalize m*(d:Int)=B at *;omega
theorem fe{f g:FQ}(hf:f.Good)(hg:g.Good):∀z∈iP f g,Ce z:=by
 intro z hz;have hgp:(g.co-f.co).natAbs≤65536:=by have:=hf.co0;have:=hf.co1;have:=hg.co0;have:=hg.co1;omega
 unfold iP at hz;rw[Zo]at hz;simp only[List.mem_append,List.mem_cons,List.not_mem_nil,or_false]at hz;rcases hz with(((rfl|rfl)|h)|h)|h
 ·exact Dz hf
 ·exact Dz hg
 ·by_cases c:f.vel≠0
  ·rw[ip c,eJ]at h;subst h;exact Zp hf hgp c
  ·rw[iN c]at h;cases h
 ·by_cases c:g.vel≠0
  ·rw[ip c,eJ]at h;subst h;have:=Zp (gap:= -(g.co-f.co)) hg (by omega) c;rwa[Rat.intCast_neg,bg,Rat.neg_mul,←bg,←Rat.sub_eq_add_neg]at this
  ·rw[iN c]at h;cases h
 ·by_cases c:f.vel≠g.vel
  ·rw[ip c,eJ]at h;subst h;exact lev_two hf hg hgp (by grind)
  ·rw[iN c]at h;cases h
end
section
open Go Go.RowKit Go.Shelf Go.Lib
section
attribute[local go_sem] gM
def mO(B B1 B2:Nat)(V V':aF):Prop:=Below B V V'∧dW (fun k=>k=B1∨k=B2) V V'
theorem mO.trans{B B1 B2:Nat}{X Y Z:aF}(h:mO B B1 B2 X Y)(k:mO B B1 B2 Y Z):mO B B1 B2 X Z:=⟨h.1.trans k.1,h.2.trans k.2⟩
theorem mO.call{B B1 B2:Nat}{X Y:aF}(h:Below X.heap.size X Y)(hB:B≤X.heap.size)(h1:B1<X.heap.size)(h2:B2<X.heap.size):mO B B1 B2 X Y:=
 ⟨h.mono hB,dW.below h (by rintro k (rfl|rfl)<;>assumption)⟩
theorem mO.blk1{B B1 B2:Nat}{X Y:aF}(h:mO B B1 B2 X Y){cs:Array aP}{T:dT}(k:bT X B1 cs T):bT Y B1 cs T:=(h.2 B1 (.inl rfl)).trans k
theorem mO.blk2{B B1 B2:Nat}{X Y:aF}(h:mO B B1 B2 X Y){cs:Array aP}{T:dT}(k:bT X B2 cs T):bT Y B2 cs T:=(h.2 B2 (.inr rfl)).trans k
def ce2(f g:FQ):List Rat:=[f.t,g.t]
def qp(f g:FQ):List Rat:=ce2 f g++(if f.vel≠0 then[f.t+sC f g/f.vel]else[])
def yl(f g:FQ):List Rat:=qp f g++(if g.vel≠0 then[g.t-sC f g/g.vel]else[])
theorem Gt(f g:FQ):iP f g=yl f g++(if f.vel≠g.vel then[(sC f g+(f.vel*f.t-g.vel*g.t))/(f.vel-g.vel)]else[]):=rfl
theorem Qt{xs ys:List Rat}{c:Prop}[Decidable c]{x:Rat}(h:ys=xs++(if c then[x]else[])):(c→ys=xs++[x])∧(¬c→ys=xs):=
 ⟨fun k=>by rw[h,ip k],fun k=>by rw[h,iN k,pZ]⟩
theorem Qu{P xs ys zs:List Rat}{x:Rat}(h1:ys=xs++[x])(h2:P=ys++zs):P.getD xs.length 0=x∧xs.length<P.length∧ys.length=xs.length+1:=by
 subst h1 h2;refine⟨by simp[aG],by simp,by simp⟩
theorem yb{e:wG}{P R:Prop}(h:(e=bA (aV true)∧P)∨(e=bA (aV false)∧R)):∃b:Bool,e=bA (aV b)∧bK ((b=true∧P)∨(b=false∧R)):=by
 rcases h with⟨h,p⟩|⟨h,r⟩
 ·exact⟨true,h,.inl ⟨rfl,p⟩⟩
 ·exact⟨false,h,.inr ⟨rfl,r⟩⟩
theorem ym(f g:FQ):∃zs,iP f g=yl f g++zs:=⟨_,Gt f g⟩
theorem yn(f g:FQ):∃zs,iP f g=qp f g++zs:=⟨_,(Gt f g).trans (List.append_assoc ..)⟩
def LN(f g:FQ)(k:Nat):Rat:=(iP f g).getD k 0
theorem yq(B1 B2 B:Nat)(f g:FQ)(hf:f.Good)(hg:g.Good)(w:aF)(hB:B≤w.heap.size)(hl1:B1<w.heap.size)(Ox:B2<w.heap.size)
 (hE:∀V,Below B w V→mN V)(q1:bT w B1 f.fr.cells 58)(q2:bT w B2 g.fr.cells 58):
 Qc eP 8 aE 191 #[aY (some ⟨B1,0,none⟩),aY (some ⟨B2,0,none⟩)] (fun k=> #[aA (bs (bG (LN f g k)))]) (mO B B1 B2) (iP f g).length w:=by
 intro l J Jx W hW hJ hY h0;have K0:mO B B1 B2 w W:=mO.call hW hB hl1 Ox;have p1:=K0.blk1 q1;have p2:=K0.blk2 q2;have hE:=zq (fun V(h:Below B W V)=>hE V (K0.1.trans h));have WK:B≤W.heap.size:=aU hB hW.size;have hl1':B1<W.heap.size:=p1.lt;have hl2':B2<W.heap.size:=p2.lt;clear q1 q2 K0 hB hl1 Ox hW;have WV:=gap_hb hf hg;have v1:=hf.hvel;have v2:=hg.hvel;have m1:=v1.mul hf.ht;have m2:=v2.mul hg.ht;have sm:=m1.sub m2 (k:=10) (by decide) (by decide);have am:=WV.add sm (k:=12) (by decide) (by decide);have sv:=v1.sub v2 (k:=4) (by decide) (by decide);have OM:=zq (fun V(h:Below B W V)=>yI f hf V (hE.out V h));have NU:=zq (fun V(h:Below B W V)=>yI g hg V (hE.out V h));have HW1:=zq (fun V(h:Below B W V)=>Gi V (hE.out V h) f.co (by have:=hf.co0;have:=hf.co1;omega));have yr:=zq (fun V(h:Below B W V)=>Gi V (hE.out V h) g.co (by have:=hg.co0;have:=hg.co1;omega));have HGp:bK (∀V,Below B W V→bE aE 193 #[aA (bs (bG (g.co:Rat))),aA (bs (bG (f.co:Rat)))] V (Rt (aA (bs (bG (sC f g)))) V)):=fun V h=>LD _ _ V (hE.out V h) (show Cr 16 5 1 5 1 (g.co:Rat) (f.co:Rat)from⟨hg.hco,hf.hco,by decide⟩);have Te:=zq (fun(h0:f.vel≠0)V(h:Below B W V)=>WP _ _ V (hE.out V h) (show Cr 17 5 1 2 2 (sC f g) f.vel from⟨WV,v1,by decide⟩) h0);have Sj:=zq (fun(h0:f.vel≠0)V(h:Below B W V)=>WO _ _ V (hE.out V h) (show Cr 16 5 1 7 3 f.t (sC f g/f.vel)from⟨hf.ht,WV.div v1 h0,by decide⟩));have NM:=zq (fun(h0:g.vel≠0)V(h:Below B W V)=>WP _ _ V (hE.out V h) (show Cr 17 5 1 2 2 (sC f g) g.vel from⟨WV,v2,by decide⟩) h0);have HS2:=zq (fun(h0:g.vel≠0)V(h:Below B W V)=>LD _ _ V (hE.out V h) (show Cr 16 5 1 7 3 g.t (sC f g/g.vel)from⟨hg.ht,WV.div v2 h0,by decide⟩));have yt:=zq (fun V(h:Below B W V)=>Qm _ _ V (hE.out V h) (show Mu 2 2 5 1 f.vel f.t from⟨v1,hf.ht,by decide⟩));have HM2:=zq (fun V(h:Below B W V)=>Qm _ _ V (hE.out V h) (show Mu 2 2 5 1 g.vel g.t from⟨v2,hg.ht,by decide⟩));have qq:=zq (fun V(h:Below B W V)=>LD _ _ V (hE.out V h) (show Cr 16 7 3 7 3 (f.vel*f.t) (g.vel*g.t)from⟨m1,m2,by decide⟩));have HAm:=zq (fun V(h:Below B W V)=>WO _ _ V (hE.out V h) (show Cr 16 5 1 11 6 (sC f g) (f.vel*f.t-g.vel*g.t)from⟨WV,sm,by decide⟩));have HSv:=zq (fun V(h:Below B W V)=>LD _ _ V (hE.out V h) (show Cr 16 2 2 2 2 f.vel g.vel from⟨v1,v2,by decide⟩));have HDl:=zq (fun(h0:f.vel-g.vel≠0)V(h:Below B W V)=>WP _ _ V (hE.out V h) (show Cr 17 13 7 5 4 (sC f g+(f.vel*f.t-g.vel*g.t)) (f.vel-g.vel)from⟨am,sv,by decide⟩) h0);have c4:=zq (Qt (Gt f g));have c3:=zq (Qt (xs:=qp f g) (ys:=yl f g) rfl);have c2:=zq (Qt (xs:=ce2 f g) (ys:=qp f g) rfl);have z1:=zq (yk f.vel);have z2:=zq (yk g.vel);have z3:=zq (TA f.vel g.vel);clear WV hf hg hE v1 v2 m1 m2 sm am sv;have ff:bK (∀k V,k<(iP f g).length→J k V→YieldAt eP 7 aE l #[aA (bs (bG ((iP f g).getD k 0)))] V fun e V'=>(e=bA (aV true)∧J (k+1) V'∧mO B B1 B2 V V')∨(e=bA (aV false)∧Jx (k+1) V')):=hY;have HJ:=zq hJ;have IF:(iP f g).getD 0 0=f.t:=rfl;have hg1:(iP f g).getD 1 0=g.t:=rfl
 have hlen:2≤(iP f g).length:=by rw[Gt,yl,qp,ce2];simp only[bO,bD,bV];omega
 have Y2:bK (f.vel≠0→(qp f g).length≤(iP f g).length∧∀V,J (ce2 f g).length V→YieldAt eP 7 aE l #[aA (bs (bG (f.t+sC f g/f.vel)))] V fun e V'=>(e=bA (aV true)∧J (qp f g).length V'∧mO B B1 B2 V V')∨(e=bA (aV false)∧Jx (qp f g).length V')):=fun h=>by
  obtain⟨zs,hz⟩:=yn f g;obtain⟨e1,e2,e3⟩:=Qu (c2.out.1 h) hz;refine⟨by rw[hz,bO];omega,fun V hV=>?_⟩;have:=ff.out _ V e2 hV;rwa[e1,←e3]at this
 have Y3:bK (g.vel≠0→(yl f g).length≤(iP f g).length∧∀V,J (qp f g).length V→YieldAt eP 7 aE l #[aA (bs (bG (g.t-sC f g/g.vel)))] V fun e V'=>(e=bA (aV true)∧J (yl f g).length V'∧mO B B1 B2 V V')∨(e=bA (aV false)∧Jx (yl f g).length V')):=fun h=>by
  obtain⟨zs,hz⟩:=ym f g;obtain⟨e1,e2,e3⟩:=Qu (c3.out.1 h) hz;refine⟨by rw[hz,bO];omega,fun V hV=>?_⟩;have:=ff.out _ V e2 hV;rwa[e1,←e3]at this
 have Y4:bK (f.vel≠g.vel→∀V,J (yl f g).length V→YieldAt eP 7 aE l #[aA (bs (bG ((sC f g+(f.vel*f.t-g.vel*g.t))/(f.vel-g.vel))))] V fun e V'=>(e=bA (aV true)∧J (iP f g).length V'∧mO B B1 B2 V V')∨(e=bA (aV false)∧Jx (iP f g).length V')):=fun h=>by
  obtain⟨e1,e2,e3⟩:=Qu (zs:=[]) (c4.out.1 h) (pZ _).symm;intro V hV;have:=ff.out _ V e2 hV;rwa[e1,←e3]at this
 have L2:bK (f.vel=0→(qp f g).length=(ce2 f g).length):=fun h=>by rw[c2.out.2 (fun k=>k h)]
 have L3:bK (g.vel=0→(yl f g).length=(qp f g).length):=fun h=>by rw[c3.out.2 (fun k=>k h)]
 have L4:bK (f.vel=g.vel→(iP f g).length=(yl f g).length):=fun h=>by rw[c4.out.2 (fun k=>k h)]
 have Y0:=zq (fun V(h:J 0 V)=>ff.out 0 V (by omega) h);have Y1:=zq (fun V(h:J 1 V)=>ff.out 1 V (by omega) h);rw[IF]at Y0;rw[hg1]at Y1;have c0:W.cell? ⟨B1,0,none⟩=some (aV f.up):=p1.cell 0;have c1:W.cell? ⟨B1,1,none⟩=some (aC aB f.co):=p1.cell 1;have de:W.cell? ⟨B1,2,none⟩=some (aC aB f.dir):=p1.cell 2;have c3':W.cell? ⟨B1,3,none⟩=some (aA (bs (bG f.v))):=p1.cell 3;have c4':W.cell? ⟨B1,4,none⟩=some (aA (bs (bG f.t))):=p1.cell 4;have d4:W.cell? ⟨B2,4,none⟩=some (aA (bs (bG g.t))):=p2.cell 4;have P1:bK (bT W B1 #[aV f.up,aC aB f.co,aC aB f.dir,aA (bs (bG f.v)),aA (bs (bG f.t))] 58):=p1;have P2:bK (bT W B2 #[aV g.up,aC aB g.co,aC aB g.dir,aA (bs (bG g.v)),aA (bs (bG g.t))] 58):=p2;have Q1:=zq P1.out;have Q2:=zq P2.out;have OM:bK (∀V,Below B W V→bE aE 192 #[cF #[aV f.up,aC aB f.co,aC aB f.dir,aA (bs (bG f.v)),aA (bs (bG f.t))]] V (Rt (aA (bs (bG f.vel))) V)):=OM;have NU:bK (∀V,Below B W V→bE aE 192 #[cF #[aV g.up,aC aB g.co,aC aB g.dir,aA (bs (bG g.v)),aA (bs (bG g.t))]] V (Rt (aA (bs (bG g.vel))) V)):=NU;have H0:=zq h0;have HYa:=zq hY;obtain⟨N,hN⟩:∃N,(iP f g).length=N:=⟨_,rfl⟩;rw[hN]at hlen Y2 Y3 Y4 L4⊢;have L1:bK ((ce2 f g).length=2):=rfl;generalize(ce2 f g).length=k2 at *;generalize(qp f g).length=k3 at *;generalize(yl f g).length=k4 at *;have HN:=zq hN;clear p1 p2 h0 hY hJ ff IF hg1 hN;generalize bs (bG f.v)=S1 at *;generalize bs (bG g.v)=S2 at *;generalize bs (bG f.t)=T1 at *;generalize bs (bG g.t)=T2 at *;generalize bs (bG f.vel)=VT at *;generalize bs (bG g.vel)=WT at *;generalize bs (bG (sC f g))=GT at *;generalize bs (bG (f.co:Rat))=C1 at *;generalize bs (bG (g.co:Rat))=C2 at *;generalize f.up=up1 at *;generalize f.dir=dir1 at *;generalize g.up=up2 at *;generalize g.dir=dir2 at *;refine callsIn_of_wp func191 rfl trivial ?_ rfl;simp only[ntmps191,List.size_toArray,bD,bV,Nat.reduceAdd,Nat.reduceSub,Array.replicate_succ,Array.replicate_zero,List.push_toArray,List.append_toArray,List.nil_append,List.cons_append];obtain⟨fn,tmps,assign,body,hy,hR⟩:=Y0.out W H0.out;clear Y0;gi_wp2;refine hR.mono ?_;rintro e W1 (⟨rfl,hJ1,fg⟩|⟨rfl,hx⟩);case inr=>
  gi_wp2;repeat(refine⟨fun _ h=>(by cases h),?_⟩;gi_wp2)
  refine dU (Do rfl _ _ _) rfl ?_;exact⟨⟨_,rfl⟩,.inr ⟨1,aU (by decide) hlen,hx⟩⟩
 have K1:=zq fg;have d4:=(K1.out.2.cell (p:=⟨B2,4,none⟩) (.inr rfl)).trans d4;obtain⟨fn,tmps,assign,body,hy,hR⟩:=Y1.out W1 hJ1;clear Y1 H0 hJ1 fg c0 c1 de c3' c4';gi_wp2;refine hR.mono ?_;rintro e W2 (⟨rfl,hJ2,hk2⟩|⟨rfl,hx⟩);case inr=>
  gi_wp2;refine dU (Do rfl _ _ _) rfl ?_;exact⟨⟨_,rfl⟩,.inr ⟨2,hlen,hx⟩⟩
 have K2:=zq (K1.out.trans hk2);have HJ2:=zq hJ2;clear hJ2 hk2 K1 d4 hlen;have P1:=zq (K2.out.blk1 P1.out);have P2:=zq (K2.out.blk2 P2.out);gi_wp2;obtain⟨c0,c1,de,c3',c4'⟩:=P1.out.front;obtain⟨d0,d1,d2,d3,d4⟩:=P2.out.front;have KB2:=zq K2.out.1;have JH:B≤W2.heap.size:=aU WK KB2.out.size;gi_cut [4,5]from 7 (fun a b V=>a=aA VT∧b=aA WT∧bK (Below W2.heap.size W2 V));case first =>
  refine wpIn_wide.2 ?_;go_region_held3 (fun w'=>w'.cell? ⟨B1,0,none⟩=some (aV up1)∧w'.cell? ⟨B1,1,none⟩=some (aC aB f.co)∧w'.cell? ⟨B1,2,none⟩=some (aC aB dir1)∧w'.cell? ⟨B1,3,none⟩=some (aA S1)∧w'.cell? ⟨B1,4,none⟩=some (aA T1)∧w'.cell? ⟨B2,0,none⟩=some (aV up2)∧w'.cell? ⟨B2,1,none⟩=some (aC aB g.co)∧w'.cell? ⟨B2,2,none⟩=some (aC aB dir2)∧w'.cell? ⟨B2,3,none⟩=some (aA S2)∧w'.cell? ⟨B2,4,none⟩=some (aA T2)) (go_keep)
   (first
    |(go_at_call 192;with_reducible refine(OM.out _ KB2.out.drew).mono ?_;rintro e w1 ⟨rfl,hb1⟩;have FD:=zq (aQ (aL _ W2).drew hb1);have:=ck hb1 B1 0 (aV up1);have:=ck hb1 B1 1 (aC aB f.co);have:=ck hb1 B1 2 (aC aB dir1);have:=ck hb1 B1 3 (aA S1);have:=ck hb1 B1 4 (aA T1);have:=ck hb1 B2 0 (aV up2);have:=ck hb1 B2 1 (aC aB g.co);have:=ck hb1 B2 2 (aC aB dir2);have:=ck hb1 B2 3 (aA S2);have:=ck hb1 B2 4 (aA T2))
    |(go_at_call 192;with_reducible refine(NU.out _ (KB2.out.trans (FD.out.mono JH))).mono ?_;rintro e w2 ⟨rfl,hb2⟩;have lM:=zq (aQ FD.out hb2);have:=ck hb2 B1 0 (aV up1);have:=ck hb2 B1 1 (aC aB f.co);have:=ck hb2 B1 2 (aC aB dir1);have:=ck hb2 B1 3 (aA S1);have:=ck hb2 B1 4 (aA T1);have:=ck hb2 B2 0 (aV up2);have:=ck hb2 B2 1 (aC aB g.co);have:=ck hb2 B2 2 (aC aB dir2);have:=ck hb2 B2 3 (aA S2);have:=ck hb2 B2 4 (aA T2)))
  all_goals
   gi_wp2;gi_meet;case rel=>exact⟨rfl,rfl,lM.out⟩
 case rest=>
 obtain⟨rfl,rfl,eT⟩:=hcut;rename aF=>W3;have HJ3:=zq (HJ.out _ _ _ HJ2.out eT.out);have K3:=zq (K2.out.trans (mO.call eT.out (aU WK K2.out.1.size) P1.out.lt P2.out.lt));have KB3:=zq K3.out.1;have hs3:B≤W3.heap.size:=aU WK KB3.out.size;clear c0 c1 de c3' c4' d0 d1 d2 d3 d4;have P1:=zq (P1.out.below eT.out P1.out.lt);have P2:=zq (P2.out.below eT.out P2.out.lt);clear eT HJ2 K2;obtain⟨c0,c1,de,c3',c4'⟩:=P1.out.front;obtain⟨d0,d1,d2,d3,d4⟩:=P2.out.front;gi_wp2;gi_cut [6]from 7 (fun a V=>a=aA GT∧bK (Below W3.heap.size W3 V));case first =>
  refine wpIn_wide.2 ?_;go_region_held3 (fun w'=>w'.cell? ⟨B1,1,none⟩=some (aC aB f.co)∧w'.cell? ⟨B1,4,none⟩=some (aA T1)∧w'.cell? ⟨B2,1,none⟩=some (aC aB g.co)∧w'.cell? ⟨B2,4,none⟩=some (aA T2)) (go_keep)
   (first
    |(go_at_call 194;with_reducible refine(yr.out _ KB3.out.drew).mono ?_;rintro e w1 ⟨rfl,hb1⟩;have FD:=zq (aQ (aL _ W3).drew hb1);have:=ck hb1 B1 1 (aC aB f.co);have:=ck hb1 B1 4 (aA T1);have:=ck hb1 B2 1 (aC aB g.co);have:=ck hb1 B2 4 (aA T2))
    |(go_at_call 194;with_reducible refine(HW1.out _ (KB3.out.trans (FD.out.mono hs3))).mono ?_;rintro e w2 ⟨rfl,hb2⟩;have lM:=zq (aQ FD.out hb2);have:=ck hb2 B1 1 (aC aB f.co);have:=ck hb2 B1 4 (aA T1);have:=ck hb2 B2 1 (aC aB g.co);have:=ck hb2 B2 4 (aA T2))
    |(go_at_call 193;with_reducible refine(HGp.out _ (KB3.out.trans (lM.out.mono hs3))).mono ?_;rintro e w3 ⟨rfl,hb3⟩;have Dw:=zq (aQ lM.out hb3);have:=ck hb3 B1 1 (aC aB f.co);have:=ck hb3 B1 4 (aA T1);have:=ck hb3 B2 1 (aC aB g.co);have:=ck hb3 B2 4 (aA T2)))
  all_goals
   gi_wp2;gi_meet;case rel=>exact⟨rfl,Dw.out⟩
 case rest=>
 obtain⟨rfl,HB3⟩:=hcut;rename aF=>W4;have HJ4:bK (J k2 W4):=by have:=HJ.out _ _ _ HJ3.out HB3.out;rw[L1.out];exact this
 have K4:=zq (K3.out.trans (mO.call HB3.out (aU WK K3.out.1.size) P1.out.lt P2.out.lt));have KB4:=zq K4.out.1;have hs4:B≤W4.heap.size:=aU WK KB4.out.size;clear c0 c1 de c3' c4' d0 d1 d2 d3 d4;have P1:=zq (P1.out.below HB3.out P1.out.lt);have P2:=zq (P2.out.below HB3.out P2.out.lt);clear HB3 HJ3 K3 OM NU HW1 yr HGp;obtain⟨-,c1,-,-,c4'⟩:=P1.out.front;obtain⟨-,d1,-,-,d4⟩:=P2.out.front;gi_wp2;gi_cut [42]from 7 (fun v V=>(v=aV false∧bK (J k3 V)∧bK (mO B B1 B2 W V))∨(v=aV true∧bK (∃k,k≤N∧Jx k V)));case first =>
  by_cases hv:f.vel=0
  ·have WW:(VT.toList==[48])=true:=by rw[z1.out];exact decide_eq_true hv
   have L2:=L2.out hv;refine wpIn_wide.2 ?_;refine Kb (S:=(fun _=>True)) (by kernel_rfl) ?_ (fun jP=>?_)
   ·trivial
   refine tH 0 rfl ?_;refine tH 1 rfl ?_;refine tH 2 rfl ?_;refine sH 3 rfl ?_;refine sH 4 rfl ?_;refine sH 5 rfl ?_;refine sH 6 rfl ?_;refine sH 7 rfl ?_;refine sH 8 rfl ?_;refine sH 9 rfl ?_;refine sH 10 rfl ?_;refine sH 11 rfl ?_;refine tH 12 rfl ?_;try simp only[cS,aX,aR,aS,aM,aT,aW]
   refine EI (by kernel_rfl) ?_ _;gi_wp2;gi_meet;case rel=>exact .inl ⟨rfl,HJ.out k3 W4 _ (by rw[L2];exact HJ4.out) (aL _ W4).drew,K4.out.trans (mO.call (aL _ W4).drew hs4 P1.out.lt P2.out.lt)⟩
  ·have WW:(VT.toList==[48])=false:=by rw[z1.out];exact decide_eq_false hv
   have Te:=zq (Te.out hv);have Sj:=zq (Sj.out hv);obtain⟨hk3,hY2⟩:=Y2.out hv;have HY2:=zq hY2;clear hv hY2;generalize bs (bG (sC f g/f.vel))=D1 at *;generalize bs (bG (f.t+sC f g/f.vel))=A1 at *;gi_region_with
    (first
     |(refine⟨trivial,?_⟩;gi_at_call 196;(with_reducible refine(callsIn_wide.2 (Te.out _ KB4.out.drew)).mono ?_);rintro e w1 ⟨rfl,hb1⟩;have FD:=zq (aQ (aL _ W4).drew hb1);have:=ck hb1 B1 4 (aA T1);have:=ck hb1 B2 4 (aA T2))
     |(refine⟨trivial,?_⟩;gi_at_call 195;(with_reducible refine(callsIn_wide.2 (Sj.out _ (KB4.out.trans (FD.out.mono hs4)))).mono ?_);rintro e w2 ⟨rfl,hb2⟩;have lM:=zq (aQ FD.out hb2);have:=ck hb2 B1 4 (aA T1);have:=ck hb2 B2 4 (aA T2);obtain⟨fny,tmy,asy,boy,hy,hRy⟩:=HY2.out w2 (HJ.out _ _ _ HJ4.out lM.out))
     |(refine hRy.mono ?_;rintro e w3 yu;obtain⟨by3,rfl,HRy⟩:=yb yu))
   all_goals
    gi_wp2;gi_meet;case rel=>
     rcases HRy.out with⟨hb,Ze,hK⟩|⟨hb,hx⟩
     ·exact .inl ⟨by rw[hb];rfl,Ze,(K4.out.trans (mO.call lM.out hs4 P1.out.lt P2.out.lt)).trans hK⟩
     ·exact .inr ⟨by rw[hb];rfl,k3,hk3,hx⟩
 case rest=>
 rcases hcut with⟨rfl,HJ5,K5⟩|⟨rfl,HX⟩;case inr=>
  gi_wp2;refine dU (Do rfl _ _ _) rfl ?_;exact⟨⟨_,rfl⟩,.inr HX.out⟩
 rename aF=>W5;have P1:=zq (K5.out.blk1 Q1.out);have P2:=zq (K5.out.blk2 Q2.out);clear HJ4 K4 KB4 hs4 c1 c4' d1 d4 Te Sj Y2 L2 z1;have KB5:=zq K5.out.1;have hs5:B≤W5.heap.size:=aU WK KB5.out.size;obtain⟨-,c1,-,-,c4'⟩:=P1.out.front;obtain⟨-,d1,-,-,d4⟩:=P2.out.front;gi_wp2;gi_cut [55]from 7 (fun v V=>(v=aV false∧bK (J k4 V)∧bK (mO B B1 B2 W V))∨(v=aV true∧bK (∃k,k≤N∧Jx k V)));case first =>
  by_cases hv:g.vel=0
  ·have WW:(WT.toList==[48])=true:=by rw[z2.out];exact decide_eq_true hv
   have L3:=L3.out hv;refine wpIn_wide.2 ?_;refine Kb (S:=(fun _=>True)) (by kernel_rfl) ?_ (fun jP=>?_)
   ·trivial
   refine tH 0 rfl ?_;refine tH 1 rfl ?_;refine tH 2 rfl ?_;refine sH 3 rfl ?_;refine sH 4 rfl ?_;refine sH 5 rfl ?_;refine sH 6 rfl ?_;refine sH 7 rfl ?_;refine sH 8 rfl ?_;refine sH 9 rfl ?_;refine sH 10 rfl ?_;refine sH 11 rfl ?_;refine tH 12 rfl ?_;try simp only[cS,aX,aR,aS,aM,aT,aW]
   refine EI (by kernel_rfl) ?_ _;gi_wp2;gi_meet;case rel=>exact .inl ⟨rfl,HJ.out k4 W5 _ (by rw[L3];exact HJ5.out) (aL _ W5).drew,K5.out.trans (mO.call (aL _ W5).drew hs5 P1.out.lt P2.out.lt)⟩
  ·have WW:(WT.toList==[48])=false:=by rw[z2.out];exact decide_eq_false hv
   have NM:=zq (NM.out hv);have HS2:=zq (HS2.out hv);obtain⟨hk4,hY3⟩:=Y3.out hv;have HY3:=zq hY3;clear hv hY3;generalize bs (bG (sC f g/g.vel))=D2 at *;generalize bs (bG (g.t-sC f g/g.vel))=A2 at *;gi_region_with
    (first
     |(refine⟨trivial,?_⟩;gi_at_call 196;(with_reducible refine(callsIn_wide.2 (NM.out _ KB5.out.drew)).mono ?_);rintro e w1 ⟨rfl,hb1⟩;have FD:=zq (aQ (aL _ W5).drew hb1);have:=ck hb1 B1 4 (aA T1);have:=ck hb1 B2 4 (aA T2))
     |(refine⟨trivial,?_⟩;gi_at_call 193;(with_reducible refine(callsIn_wide.2 (HS2.out _ (KB5.out.trans (FD.out.mono hs5)))).mono ?_);rintro e w2 ⟨rfl,hb2⟩;have lM:=zq (aQ FD.out hb2);have:=ck hb2 B1 4 (aA T1);have:=ck hb2 B2 4 (aA T2);obtain⟨fny,tmy,asy,boy,hy,hRy⟩:=HY3.out w2 (HJ.out _ _ _ HJ5.out lM.out))
     |(refine hRy.mono ?_;rintro e w3 yu;obtain⟨by3,rfl,HRy⟩:=yb yu))
   all_goals
    gi_wp2;gi_meet;case rel=>
     rcases HRy.out with⟨hb,Ze,hK⟩|⟨hb,hx⟩
     ·exact .inl ⟨by rw[hb];rfl,Ze,(K5.out.trans (mO.call lM.out hs5 P1.out.lt P2.out.lt)).trans hK⟩
     ·exact .inr ⟨by rw[hb];rfl,k4,hk4,hx⟩
 case rest=>
 rcases hcut with⟨rfl,HJ6,K6⟩|⟨rfl,HX⟩;case inr=>
  gi_wp2;refine dU (Do rfl _ _ _) rfl ?_;exact⟨⟨_,rfl⟩,.inr HX.out⟩
 rename aF=>W6;have P1:=zq (K6.out.blk1 Q1.out);have P2:=zq (K6.out.blk2 Q2.out);clear HJ5 K5 KB5 hs5 c1 c4' d1 d4 NM HS2 Y3 L3 z2;have KB6:=zq K6.out.1;have hs6:B≤W6.heap.size:=aU WK KB6.out.size;obtain⟨-,c1,-,-,c4'⟩:=P1.out.front;obtain⟨-,d1,-,-,d4⟩:=P2.out.front;by_cases hv:f.vel=g.vel
 ·have WW:(VT.toList==WT.toList)=true:=by rw[z3.out];exact decide_eq_true hv
  have L4:=zq (L4.out hv);clear hv;gi_wp2;go_end0;exact⟨⟨_,rfl⟩,.inl (by rw[L4.out];exact HJ6.out)⟩
 ·have WW:(VT.toList==WT.toList)=false:=by rw[z3.out];exact decide_eq_false hv
  have HDl:=zq (HDl.out (by grind));have HY4:=zq (Y4.out hv);clear hv Y4 L4;generalize bs (bG (f.vel*f.t))=M1 at *;generalize bs (bG (g.vel*g.t))=M2 at *;generalize bs (bG (f.vel*f.t-g.vel*g.t))=SM at *;generalize bs (bG (sC f g+(f.vel*f.t-g.vel*g.t)))=AM at *;generalize bs (bG (f.vel-g.vel))=SV at *;generalize bs (bG ((sC f g+(f.vel*f.t-g.vel*g.t))/(f.vel-g.vel)))=DL at *;have qr:bK (Below W6.heap.size W6 W6.drew):=(aL _ W6).drew;gi_wp2;gi_region_with
   (first
    |(refine⟨trivial,?_⟩;gi_at_call 197;(with_reducible refine(callsIn_wide.2 (yt.out _ KB6.out.drew)).mono ?_);rintro e w1 ⟨rfl,hb1⟩;have FD:=zq (aQ qr.out hb1);have:=ck hb1 B1 4 (aA T1);have:=ck hb1 B2 4 (aA T2))
    |(refine⟨trivial,?_⟩;gi_at_call 197;(with_reducible refine(callsIn_wide.2 (HM2.out _ (KB6.out.trans (FD.out.mono hs6)))).mono ?_);rintro e w2 ⟨rfl,hb2⟩;have lM:=zq (aQ FD.out hb2);have:=ck hb2 B1 4 (aA T1);have:=ck hb2 B2 4 (aA T2))
    |(refine⟨trivial,?_⟩;gi_at_call 193;(with_reducible refine(callsIn_wide.2 (qq.out _ (KB6.out.trans (lM.out.mono hs6)))).mono ?_);rintro e w3 ⟨rfl,hb3⟩;have Dw:=zq (aQ lM.out hb3))
    |(refine⟨trivial,?_⟩;gi_at_call 195;(with_reducible refine(callsIn_wide.2 (HAm.out _ (KB6.out.trans (Dw.out.mono hs6)))).mono ?_);rintro e w4 ⟨rfl,hb4⟩;have Ov:=zq (aQ Dw.out hb4))
    |(refine⟨trivial,?_⟩;gi_at_call 193;(with_reducible refine(callsIn_wide.2 (HSv.out _ (KB6.out.trans (Ov.out.mono hs6)))).mono ?_);rintro e w5 ⟨rfl,hb5⟩;have hB5:=zq (aQ Ov.out hb5))
    |(refine⟨trivial,?_⟩;gi_at_call 196;(with_reducible refine(callsIn_wide.2 (HDl.out _ (KB6.out.trans (hB5.out.mono hs6)))).mono ?_);rintro e w6 ⟨rfl,hb6⟩;have hB6:=zq (aQ hB5.out hb6);obtain⟨fny,tmy,asy,boy,hy,hRy⟩:=HY4.out w6 (HJ.out _ _ _ HJ6.out hB6.out))
    |(refine hRy.mono ?_;rintro e w7 yu;obtain⟨by3,rfl,HRy⟩:=yb yu))
  all_goals
   gi_wp2;go_end0;rcases HRy.out with⟨-,Ze,-⟩|⟨-,hx⟩
   ·exact⟨⟨_,rfl⟩,.inl Ze⟩
   ·exact⟨⟨_,rfl⟩,.inr ⟨N,aH _,hx⟩⟩
end
end
section
open Go.Shelf
def Tryz.cmK_ren:iK:=⟨fun |43=>102|n=>n,fun |22=>62|23=>34|3=>3|4=>4|0=>0|n=>n,fun |n=>n⟩
theorem Tryz.cmK:Go.Proofs.SlLaysE.n43 aE Tryz.cmK_ren:={
 mixed:=by kernel_rfl
 f43:=⟨Tryz.f102.name,by decide,func102.trans (congrArg some (by kernel_rfl))⟩
 t0:=rA
 a0:=BW
 z0:=zQ
 v0:=sQ
 t3:=dL
 a3:=jG
 z3:=iB
 v3:=gZ
 t4:=fM
 a4:=lN
 z4:=jV
 v4:=gC
 t22:=kE
 a22:=KD
 z22:=sizeOf62
 v22:=zeroValue62
 a23:=isAgg34
 z23:=sizeOf34}
open Go Go.RowKit Go.Lib Go.Sort Go.Shelf
theorem TC(ds:List (List UInt8)):∀z,z∈mV ds.toArray ds.length↔z∈ds:=by
 intro z;have hg:∀j,j<ds.length→ds.toArray[j]! =ds.getD j []:=fun j hj=>by simp[aG,hj]
 unfold mV;constructor
 ·intro h;obtain⟨j,hj,rfl⟩:=List.mem_map.1 h;have hj:=List.mem_range.1 (List.mem_filter.1 hj).1;rw[hg j hj];exact bU hj []
 ·intro h;obtain⟨j,hj,rfl⟩:=List.getElem_of_mem h;have:∀k j,j<ds.length→j≤k→ds.getD j []∈List.map (fun x=>ds.toArray[x]!) (List.filter (keeps ds.toArray) (List.range ds.length)):=by
   intro k;induction k with
   |zero=>
    intro j hj h0;obtain rfl:j=0:=by omega
    refine List.mem_map.2 ⟨0,List.mem_filter.2 ⟨List.mem_range.2 hj,?_⟩,hg 0 hj⟩;simp[keeps]
   |succ k ih=>
    intro j hj hk;by_cases hkp:keeps ds.toArray j=true
    ·exact List.mem_map.2 ⟨j,List.mem_filter.2 ⟨List.mem_range.2 hj,hkp⟩,hg j hj⟩
    ·unfold keeps at hkp;rw[decide_eq_true_eq]at hkp;have h0:j≠0:=fun e=>hkp (.inl e);have he:ds.toArray[j]! =ds.toArray[j-1]! :=cZ fun e=>hkp (.inr e);rw[hg j hj,hg (j-1) (by omega)]at he;rw[he];exact ih (j-1) (by omega) (by omega)
  have:=this j j hj (aH _);rwa[show ds.getD j []=ds[j] by simp[aG,hj]]at this
def CmpRet(g n cap:Nat)(ds:List (List UInt8))(w:aF)(e:wG)(w':aF):Prop:=
 ∃(m:Nat)(L:List (List UInt8)),e=bA (aD (some ⟨g,0,none⟩) m cap)∧L.length=m∧m≤n∧(∀z,z∈L↔z∈ds)∧KO w' (some ⟨g,0,none⟩) (dK L)∧w.grownBy w' (some g)
theorem LP (cL g n cap:Nat) (ds:List (List UInt8)) (w:aF) (hn:n≤1000) (hl:ds.length=n)
 (dI:w.ownsRow cL 34 1 (aD (some ⟨g,0,none⟩) n cap) n (dK ds)) :
 bE aE 102 #[aD (some ⟨g,0,none⟩) n cap] w fun e w' => ∃ L:List (List UInt8),L=mV ds.toArray n∧e=bA (aD (some ⟨g,0,none⟩) L.length cap)∧L.length≤n∧(∀ z,z∈L↔z∈ds)∧KO w' (some ⟨g,0,none⟩) (dK L)∧w.grownBy w' (some g):=by
 obtain⟨-,hglt,hnc, -⟩:=kU dI;have hH:Holds (fun l:List UInt8=> aA (bs l)) w g 0 ds.toArray:=by
  intro j hj;have hj:j < ds.length:=by simpa using hj
  rw [cC];refine⟨?_,kF dI j⟩;rw [dZ dI j (by omega)];simp [dK,hj]
 have heq:EqlAt aE 34 (fun l:List UInt8=> aA (bs l)) (fun x y=> decide (x=y)):=by
  refine⟨fun x y w=> ?_,fun op a b x y w=> (EqlAt.string aE 34).2 op a b (bs x) (bs y) w⟩;rw [(EqlAt.string aE 34).1 (bs x) (bs y) w];simp only [dV,fY];congr 2;rw [pI];simp
 have iC:NeqAt aE 34 (fun l:List UInt8=> aA (bs l)) (fun x y=> decide (x=y)):=by
  refine⟨fun x y w=> ?_,heq.2⟩;rw [(NeqAt.string aE 34).1 (bs x) (bs y) w];simp only [dV,fY];congr 3;rw [pI];simp
 have H:=AnyE.slices_Compact Tryz.cmK (fun l:List UInt8=> aA (bs l)) (fun _=> rfl) heq iC [] (fun w=> by kernel_rfl) g 0 cap ds.toArray w hH (by simp;omega) (by simp;omega);have BX:ds.toArray.size=n:=by simp [hl]
 rw [BX] at H;refine Calls.mono H ?_;rintro e w' ⟨rfl,q,rfl⟩;have hm:=TC ds;rw [hl] at hm;have hlen:(mV ds.toArray n).length≤n:=by
  unfold mV;rw [aZ];exact aU (List.length_filter_le _ _) (by simp)
 generalize mV ds.toArray n=L at *;refine⟨L,rfl,rfl,hlen,hm, ?_, ?_⟩
 ·intro i hi;rw [oP] at hi;have hh:=holds_putRow (fun l:List UInt8=> aA (bs l)) (Sort.ahead w q) g 0 ds.toArray (L ++ List.replicate (n - L.length) []).toArray (holds_ahead _ w q g 0 _ hH) (by simp;omega);obtain⟨h1, -⟩:=hh i (by simp;omega);refine⟨g,0,rfl, ?_⟩;rw [h1,wM L hi];have:(L ++ List.replicate (n - L.length) [])[i]? =some L[i]:=by rw [List.getElem?_append_left hi];simp [hi]
  simp [aG,hi,this]
 ·refine⟨rfl,rfl,rfl,by simp [putRow,mapBlock,Sort.ahead],fun k _ hk=> ?_⟩;show(Ik w.heap g _)[k]? =_;rw [Co,iN (fun e=> hk (by rw [e]))]
theorem Qv(cL g n cap:Nat)(ds:List (List UInt8))(w:aF)(hn:n≤1000)(hl:ds.length=n)
 (dI:w.ownsRow cL 34 1 (aD (some ⟨g,0,none⟩) n cap) n (dK ds)):
 bE aE 102 #[aD (some ⟨g,0,none⟩) n cap] w (CmpRet g n cap ds w):=by
 refine(LP cL g n cap ds w hn hl dI).mono ?_;rintro e w'⟨L,-,he,h1,h2,h3,h4⟩;exact⟨L.length,L,he,rfl,h1,h2,h3,h4⟩
end
section
open Go
def Result.dge{α:Type}(d:Nat):Result α→Prop
 |.ok _ w=>d≤w.drawn
 |.halt _ w=>d≤w.drawn
theorem Result.dge_mono{α:Type}{d e:Nat}(h:d≤e){r:Result α}(hr:Result.dge e r):Result.dge d r:=by
 cases r with
 |ok a w=>exact aU h hr
 |halt a w=>exact aU h hr
theorem Qw{α:Type}:∀(a:Ask α)(w:aF),w.drawn≤(w.ask a).2.drawn
 |.done a,w=>aH _
 |.ask what range k,w=>by
  unfold World.ask
  dsimp only
  split
  ·exact Qw (k 0) w
  ·exact aU (Hv w.drawn) (Qw _ {w with drawn:=w.drawn+1})
theorem sys_dge(w:aF)(c:Sys):w.drawn≤(w.sys c).2.drawn:=by
 have h:=Qw (Kernel.perform c w.os) w;unfold World.sys;split
 ·exact aH _
 ·rename_i h1;rw[h1]at h;exact h
def TD{ε β:Type}(P:β→Prop)(x:Except ε β):Prop:=∀b,x=.ok b→P b
theorem TD.bind{ε α β:Type}{P:β→Prop}{x:Except ε α}{f:α→Except ε β}(h:∀a,TD P (f a)):TD P (x>>=f):=by
 intro b hb;cases x with
 |error e=>cases hb
 |ok a=>exact h a b hb
theorem TD.thr{ε β:Type}{P:β→Prop}{e:ε}:TD P (MonadExcept.throw e:Except ε β):=fun b hb=>by cases hb
theorem NV{p:dN}{w w':aF}{a:cO}{u:dT}{k:cO}{v:aP}{b:Bool}{l:List cO}(h:w.viewStore p a u k v b=.ok (w',l)):w'.drawn=w.drawn:=by
 have:TD (fun r:aF×List cO=>r.1.drawn=w.drawn) (w.viewStore p a u k v b):=by
  unfold World.viewStore;repeat' (first |(refine TD.bind fun _=>?_)|exact TD.thr|(intro b hb;cases hb;rfl)|split)
 exact this _ h
theorem Qx{p:dN}{w w':aF}{a:cO}{v:aP}{b:Bool}{l:List cO}(h:w.farStore p a v b=.ok (w',l)):w'.drawn=w.drawn:=by
 unfold World.farStore at h;split at h
 ·split at h
  ·rename_i r hr;cases h;exact NV hr
  ·cases h
 ·cases h
theorem mF{α:Type}(p:dN)(s:Sem α)(w:aF):Result.dge w.drawn (s.run p w):=by
 induction s generalizing w with
 |pure a=>exact aH _
 |load m a k ih=>
  unfold eH;split
  ·exact ih _ w
  ·split
   ·exact ih _ w
   ·exact aH _
 |store m a v k ih=>
  cases v<;>(try exact aH _)<;>
  ·simp only[eH];split
   ·split
    ·exact aH _
    ·exact ih (w.setCell _ _)
   ·split
    ·rename_i h;have:=ih ‹aF›;rw[Qx h]at this;exact this
    ·exact aH _
 |new o k ih=>exact ih _ _
 |shape r k ih=>exact ih _ _
 |freeze a n k ih=>
  have h:=ih (w.freeze a n);have e:(w.freeze a n).drawn=w.drawn:=by unfold World.freeze;split <;>rfl
  rw[e]at h;exact h
 |frozen a k ih=>exact ih _ _
 |getObj r k ih=>
  unfold eH;split
  ·exact aH _
  ·exact ih _ _
  ·exact aH _
 |setObj r o k ih=>
  unfold eH;split
  ·exact aH _
  ·exact ih _
  ·exact aH _
 |choose q k ih=>
  unfold eH;split
  ·exact ih _ _
  ·exact Result.dge_mono (Hv _) (ih _ {w with drawn:=w.drawn+1})
 |sys c k ih=>exact Result.dge_mono (sys_dge w c) (ih _ _)
 |program k ih=>exact ih _ _
 |mark m k ih=>exact ih _
 |halt h=>exact aH _
theorem mM{α:Type}{p:dN}{s:Sem α}{w w':aF}{a:α}(h:s.run p w=.ok a w'):w.drawn≤w'.drawn:=by
 have:=mF p s w;rw[h]at this;exact this
def GStep.dge(d:Nat):GStep→Prop
 |.go _ w _=>d≤w.drawn
 |.comm _ _ _ _ w _=>d≤w.drawn
 |.spawn _ _ w _=>d≤w.drawn
 |.count _ w _=>d≤w.drawn
 |.timer _ _ w _=>d≤w.drawn
 |.alone _ _ w _=>d≤w.drawn
 |.newcoro _ _ _ w _=>d≤w.drawn
 |.coroswitch _ _ _ w _=>d≤w.drawn
 |.collect _ w _=>d≤w.drawn
 |.watch _ w _=>d≤w.drawn
 |.ended _ _ _=>True
theorem GStep.dge_after{d:Nat}{es:Array Event}{s:GStep}(h:GStep.dge d s):GStep.dge d (s.after es):=by
 cases s<;>exact h
theorem GStep.dge_ite{d:Nat}{c:Prop}[Decidable c]{a b:GStep}(ha:GStep.dge d a)(hb:GStep.dge d b):GStep.dge d (if c then a else b):=by
 split
 ·exact ha
 ·exact hb
theorem Bn{p:dN}{WX:Bool}{fr:xU}{cs:List xU}{dy:Option R6}{v:aP}{d:Nat}{w:aF}(h:d≤w.drawn):GStep.dge d (doReturn p WX fr cs dy v w):=by
 unfold doReturn
 repeat' split
 all_goals first |exact h|trivial
theorem TE{w:aF}{fd:Nat}{t:ByteArray}{o:Outcome}{d:Nat}:GStep.dge d (endWith w fd t o):=by
 unfold endWith
 dsimp only
 repeat' split
 all_goals trivial
theorem BO{p:dN}{fr:xU}{v:aP}{w:aF}{d:Nat}(h:d≤w.drawn):GStep.dge d (endPrinting p fr v w):=by
 unfold endPrinting;dsimp only;split
 ·exact h
 ·trivial
theorem Gu{p:dN}{fr:xU}{cs:List xU}{dy:Option R6}{m:String}{w:aF}{d:Nat}(h:d≤w.drawn):GStep.dge d (endFatal p fr cs dy m w):=by
 unfold endFatal;extract_lets chain raw shown;have hr:=mF p shown w;revert hr;generalize eH p shown w=r;intro hr;split
 ·exact aU h hr
 ·trivial
 ·trivial
theorem TF{p:dN}{fr:xU}{dy:R6}{f:Fatal}{w:aF}{d:Nat}(h:d≤w.drawn):GStep.dge d (writeOn p fr dy f w):=by
 unfold writeOn;extract_lets on;split
 ·trivial
 ·extract_lets j1 j2 j3 j4 write;clear_value write;simp only[pK];have hr:=mF p write w;revert hr;generalize eH p write w=r;intro hr;split
  ·rename_i e;cases e;exact aU h hr
  ·rename_i e;cases e;exact aU h hr
  ·trivial
  ·trivial
theorem die_dge{p:dN}{fr:xU}{dy:R6}{w:aF}{d:Nat}(h:d≤w.drawn):GStep.dge d (die p fr dy w):=by
 unfold die;split
 ·exact TF h
 ·split
  ·split
   ·exact h
   ·exact TE
  ·dsimp only;split
   ·exact h
   ·rename_i s _;have hr:=mF p (withAddress s) w;revert hr;generalize eH p (withAddress s) w=r;intro hr;split
    ·exact aU h hr
    ·trivial
   ·rename_i t recv name _;refine GStep.dge_after ?_;simp only[pK];have hr:=mF p (invoke (.fn (.method name) #[]) #[.iface t recv]) w;revert hr;generalize eH p (invoke (.fn (.method name) #[]) #[.iface t recv]) w=r;intro hr;split
    ·exact aU h hr
    ·exact aU h hr
    ·trivial
    ·exact BO (aU h hr)
    ·trivial
   ·trivial
theorem IQ{p:dN}{fr:xU}{cs:List xU}{dy:Option R6}{df:Deferred}{w:aF}{d:Nat}(h:d≤w.drawn):GStep.dge d (callDeferred p fr cs dy df w):=by
 unfold callDeferred
 refine GStep.dge_ite trivial ?_
 ·simp only[pK]
  refine GStep.dge_after ?_
  have hr:=mF p (invoke df.target df.args) w
  revert hr
  generalize eH p (invoke df.target df.args) w=r
  intro hr
  repeat' split
  all_goals first |exact aU h hr|trivial|exact Gu (aU h hr)
theorem WY{p:dN}{WX:Bool}{fr:xU}{cs:List xU}{dy:Option R6}{w:aF}{d:Nat}(h:d≤w.drawn):GStep.dge d (unwind p WX fr cs dy w):=by
 unfold unwind;split
 ·rename_i b _ ds _;refine GStep.dge_after ?_;simp only[pK];have hr:=mF p (bj b) w;revert hr;generalize eH p (bj b) w=r;intro hr;split
  ·exact aU h hr
  ·trivial
 ·exact IQ h
 ·split
  ·trivial
  ·rename_i chain _;refine GStep.dge_ite trivial ?_;split
   ·exact h
   ·split
    ·refine GStep.dge_ite h ?_;have hr:=mF p (reportChain chain false) w;revert hr;generalize eH p (reportChain chain false) w=r;intro hr;split
     ·exact aU h hr
     ·trivial
     ·trivial
    ·split
     ·exact BO h
     ·trivial
  ·split
   ·exact Bn h
   ·rename_i fn _;refine GStep.dge_after ?_;simp only[pK];have hr:=mF p (lF fn fr.tmps) w;revert hr;generalize eH p (lF fn fr.tmps) w=r;intro hr;split
    ·exact Bn (aU h hr)
    ·trivial
    ·trivial
theorem fh{p:dN}{fr:xU}{cs:List xU}{dy:Option R6}{g:Nat}{w:aF}{d:Nat}(h:d≤w.drawn):GStep.dge d (early p fr cs dy g w):=by
 unfold early;extract_lets refuse notYet;have hn:∀w:aF,d≤w.drawn→GStep.dge d (notYet w):=fun w h=>by
  simp only[notYet];split
  ·exact h
  ·trivial
 refine GStep.dge_ite (hn w h) ?_;split
 ·trivial
 ·rename_i f _;extract_lets there;refine GStep.dge_ite (hn w h) ?_;refine GStep.dge_ite (hn w h) ?_;split
  ·trivial
  ·exact h
  ·trivial
  ·exact hn w h
  ·refine GStep.dge_ite h ?_;refine GStep.dge_ite (hn w h) ?_;have hr:=mF p (choose (.early g)) w;revert hr;generalize eH p (choose (.early g)) w=r;intro hr;split
   ·exact hn _ (aU h hr)
   ·exact aU h hr
   ·trivial
theorem wN{p:dN}{CH:Bool}{fr:xU}{cs:List xU}{dy:Option R6}{s:Sem Next}{w:aF}{d:Nat}(h:d≤w.drawn):GStep.dge d (stepG.apply p CH fr cs dy s w):=by
 unfold stepG.apply
 extract_lets go kind
 have e:∃es,(if CH=true then s.runT p w #[]else(s.run p w,#[]))=(s.run p w,es):=by
  split
  ·exact⟨_,pK _ _ _ _⟩
  ·exact⟨_,rfl⟩
 obtain⟨es,e⟩:=e
 rw[e]
 dsimp only
 have hr:=mF p s w
 revert hr
 generalize eH p s w=r
 intro hr
 refine GStep.dge_after ?_
 clear e
 repeat' split
 all_goals first |exact aU h hr|trivial|exact Gu (aU h hr)|exact fh (aU h hr)|skip
theorem yw{p:dN}{CH:Bool}{fr:xU}{cs:List xU}{dy:Option R6}{w:aF}{d:Nat}(h:d≤w.drawn):GStep.dge d (stepG.oper p CH fr cs dy w):=by
 unfold stepG.oper;split
 ·trivial
 ·split
  ·exact wN h
  ·exact wN h
theorem LQ{α:Type}{d:Nat}{x:Option α}{a:GStep}{f:α→GStep}(ha:GStep.dge d a)(hf:∀y,GStep.dge d (f y)):GStep.dge d (x.elim a f):=by
 cases x with
 |none=>exact ha
 |some y=>exact hf y
theorem yx{p:dN}{WX CH:Bool}{fr:xU}{cs:List xU}{dy:Option R6}{w:aF}{d:Nat}(h:d≤w.drawn):GStep.dge d (stepG.exec p WX CH fr cs dy w):=by
 unfold stepG.exec;extract_lets go hence lost leave;have hl:∀j,GStep.dge d (leave j):=fun j=>by
  simp only[leave];split
  ·exact GStep.dge_ite h trivial
  ·rename_i l _;refine GStep.dge_after ?_;simp only[pK];have hr:=mF p (N8 l j) w;revert hr;generalize eH p (N8 l j) w=r;intro hr;split
   ·exact Bn (aU h hr)
   ·trivial
 have ht:∀l,GStep.dge d (hence l):=fun l=>h;clear_value leave;split
 ·exact hl _
 ·exact hl _
 ·exact ht _
 ·exact ht _
 ·exact ht _
 ·exact ht _
 ·exact ht _
 ·split
  ·exact ht _
  ·trivial
 ·exact ht _
 ·exact ht _
 ·exact ht _
 ·exact ht _
 ·exact LQ (hl _) ht
 ·exact LQ (hl _) ht
 ·refine GStep.dge_after ?_;rename_i f params assign body k _;simp only[pK];have hr:=mF p (Instr.enterLoop fr.fn fr.tmps params assign body fr.roundOf) w;revert hr;generalize eH p (Instr.enterLoop fr.fn fr.tmps params assign body fr.roundOf) w=r;intro hr;split
  ·exact wN (aU h hr)
  ·trivial
 ·trivial
 ·exact wN h
 ·refine GStep.dge_after ?_;rename_i l k _;simp only[pK];have hr:=mF p (Instr.endLoop l) w;revert hr;generalize eH p (Instr.endLoop l) w=r;intro hr;split
  ·exact aU h hr
  ·exact aU h hr
  ·trivial
 ·trivial
 ·exact wN h
 ·rename_i row args _ _;cases Extern.next row with
  |none=>trivial
  |some e=>exact wN h
 ·rename_i id cM draw k _;refine GStep.dge_ite (ht _) ?_;have hr:=mF p (choose (.order fr.fn id)) w;revert hr;generalize eH p (choose (.order fr.fn id)) w=r;intro hr;split
  ·exact aU h hr
  ·trivial
 ·exact ht _
 ·exact GStep.dge_ite (yw h) h
theorem fi{p:dN}{WX CH:Bool}{g:pn}{w:aF}{d:Nat}(h:d≤w.drawn):GStep.dge d (stepG p WX g w CH):=by
 unfold stepG;dsimp only;split
 ·exact die_dge h
 ·exact yx h
 ·exact WY h
def Stepped.dge(d:Nat):Stepped→Prop
 |.next m=>d≤m.world.drawn
 |.ended _ _=>True
theorem Kh{rest:Rest}{cases:Array CommCase}{w w':aF}(h:waitingAt rest cases w=some w'):w'.drawn=w.drawn:=by
 unfold waitingAt at h;split at h
 ·split at h
  ·cases h;rfl
  ·cases h
 ·cases h;rfl
theorem Ki{p:dN}{rest:Rest}{gs:Array pn}{i:Nat}{g:pn}{cases:Array CommCase}{bl:Bool}{sh:CommShape}{w:aF}{d:Nat}(h:d≤w.drawn):Stepped.dge d (communicate p rest gs i g cases bl sh w).1:=by
 unfold communicate;extract_lets put illMade me other ready pick;split
 ·trivial
 ·split
  ·split
   ·split
    ·rename_i hw;show _≤World.drawn _;rw[Kh hw];exact h
    ·trivial
   ·exact h
  ·have hr:=mF p pick w;revert hr;generalize eH p pick w=r;intro hr;cases r with
   |halt a w1=>trivial
   |ok a w1=>
    obtain⟨k,c,way⟩:=a;have hw:d≤w1.drawn:=aU h hr;dsimp only;split
    ·have hz:=mF p (runtimePanic (.plain "send on closed channel"):Sem Unit) w1;revert hz;generalize eH p (runtimePanic (.plain "send on closed channel"):Sem Unit) w1=r2;intro hz;split
     ·exact aU hw hz
     ·trivial
    ·exact hw
    ·exact hw
    ·split
     ·exact hw
     ·split
      ·rename_i hq;have hz:=mM hq;exact aU hw hz
      ·trivial
    ·exact hw
    ·exact hw
    ·trivial
theorem TG{p:dN}{gs:Array pn}{rest:Rest}{w:aF}{d:Nat}(h:d≤w.drawn):Stepped.dge d (look p gs rest w):=by
 unfold look;split
 ·extract_lets;split;dsimp only;split
  ·trivial
  ·split
   ·trivial
   ·split
    ·rename_i hq;have hz:=mM hq;exact aU h hz
    ·trivial
    ·trivial
 ·trivial
theorem fj{p:dN}{m:vD}{k:Nat}{d:Nat}(h:d≤m.world.drawn):Stepped.dge d (serve p m k):=by
 unfold serve;split
 ·trivial
 ·exact h
 ·extract_lets;split
  ·trivial
  ·exact h
theorem TH(w:aF)(c:Nat):(drain w c).2.drawn=w.drawn:=by
 unfold drain;split <;>rfl
theorem Gv(m:vD)(k:Nat)(t:Timer)(a b:Nat):(retime m k t a b).2.world.drawn=m.world.drawn:=by
 unfold retime;cases t.chan with
 |none=>rfl
 |some c=>exact TH _ _
theorem NW{m m':vD}{op:TimerOp}{v:aP}(h:timerOp m op=.ok (v,m')):m'.world.drawn=m.world.drawn:=by
 unfold timerOp at h;split at h
 ·split at h
  ·cases h;rfl
  ·split at h
   ·split at h
    ·cases h
    ·cases h;rfl
   ·cases h
 ·unfold timerOp.named at h;split at h
  ·injection h with h;exact(congrArg (fun r:aP×vD=>r.2.world.drawn) h).symm.trans (Gv _ _ _ _ _)
  ·cases h
 ·split at h
  ·rename_i m1 hm;have hm1:m1.world.drawn=m.world.drawn:=by
    unfold timerOp.opened at hm;split at hm
    ·split at hm
     ·cases hm;rfl
     ·cases hm
    ·cases hm;rfl
   unfold timerOp.named at h;split at h
   ·injection h with h;exact((congrArg (fun r:aP×vD=>r.2.world.drawn) h).symm.trans (Gv _ _ _ _ _)).trans hm1
   ·cases h
  ·cases h
 ·cases h;rfl
theorem yy{p:dN}{m:vD}{i:Nat}{l:Bool}{d:Nat}(h:d≤m.world.drawn):Stepped.dge d (runT p m i l).1:=by
 unfold runT;extract_lets rest world;split;rename_i g gs _;extract_lets wake fn pos s cM done;have hs:GStep.dge d s:=fi h;clear_value s;split
 ·trivial
 ·exact Ki hs
 ·exact hs
 ·exact hs
 ·simp only[done];split
  ·trivial
  ·exact hs
 ·exact hs
 ·exact TG hs
 ·exact hs
 ·exact hs
 ·simp only[done];split
  ·exact hs
  ·exact hs
  ·trivial
 ·simp only[done];split
  ·rename_i hq;show d≤World.drawn _;have:=NW hq;dsimp only at this;rw[this];exact hs
  ·exact hs
  ·trivial
  ·trivial
def Move.dge(d:Nat):Move→Prop
 |.goroutine m _=>d≤m.world.drawn
 |.machine s _=>Stepped.dge d s
theorem IR{p:dN}{m:vD}{d:Nat}(h:d≤m.world.drawn):Move.dge d (askOn p m):=by
 unfold askOn;extract_lets mono rs ds pick;have hp:∀m:vD,d≤m.world.drawn→Move.dge d (pick m):=fun m h=>by
  simp only[pick];split
  ·trivial
  ·rename_i hq;have h1:=aU h (mM hq);split
   ·exact h1
   ·split
    ·trivial
    ·rename_i Nw;exact aU h1 (mM Nw)
 clear_value pick;split
 ·trivial
 ·rename_i hq;have h1:=aU h (mM hq);clear hq;clear_value rs;split
  ·exact fj h1
  ·extract_lets m2;cases rs with
   |nil=>
    dsimp only;split
    ·exact h1
    ·split
     ·exact h1
     ·split
      ·trivial
      ·trivial
   |cons r rs=>
    dsimp only;split
    ·exact hp _ h1
    ·split
     ·trivial
     ·rename_i Nw;exact hp _ (aU h1 (mM Nw))
     ·rename_i Nw;have hz:=mM Nw;exact aU h1 hz
     ·rename_i Nw;have hz:=mM Nw;exact hp _ (aU h1 hz)
theorem ON{p:dN}{m:vD}{d:Nat}(h:d≤m.world.drawn):Move.dge d (ask p m):=by
 unfold ask;split
 ·split
  ·trivial
  ·rename_i hq;have hl:=TG (p:=p) (gs:=m.gs) (rest:=m.rest) (aU h (mM hq));split
   ·rename_i Nw;rw[Nw]at hl;exact IR hl
   ·exact hl
  ·rename_i hq;exact IR (aU h (mM hq))
 ·exact IR h
theorem yz{p:dN}{m:vD}{d:Nat}(h:d≤m.world.drawn):Move.dge d (move p m):=by
 unfold move;split
 ·split
  ·exact h
  ·trivial
 ·split
  ·split
   ·exact h
   ·exact ON h
  ·exact ON h
theorem za{p:dN}{m:vD}{d:Nat}(h:d≤m.world.drawn):Stepped.dge d (step p m):=by
 unfold step stepT;have hm:=yz (p:=p) h;split
 ·rename_i hq;rw[hq]at hm;exact yy hm
 ·rename_i hq;rw[hq]at hm;exact hm
theorem zb{p:dN}{n:Nat}:∀{m:vD} {d:Nat},d≤m.world.drawn→Stepped.dge d (runN p n m):=by
 induction n with
 |zero=>intro m d h;exact h
 |succ n ih=>
  intro m d h;unfold runN;have hs:=za (p:=p) h;split
  ·rename_i hq;rw[hq]at hs;exact ih hs
  ·trivial
theorem Steps.dge{p:dN}{m m':vD}(h:Steps p m m'):m.world.drawn≤m'.world.drawn:=by
 obtain⟨n,h⟩:=h;have:=zb (p:=p) (n:=n) (aH m.world.drawn);rw[h]at this;exact this
theorem TI{P:dN}{f:FuncId}{args:Array aP}{w:aF}{R:wG→aF→Prop}(h:bE P f args w R)(hR:∀e w',R e w'→∃v,e=bA v):bE P f args w fun e w'=>R e w'∧w.drawn≤w'.drawn:=by
 intro cs;obtain⟨e,w',fr,h1,h2,h3,h4⟩:=h cs;obtain⟨v,rfl⟩:=hR e w' h1;exact⟨_,w',fr,⟨h1,Steps.dge h2⟩,h2,h3,h4⟩
end
section
open Go.Shelf
def Tryz.sortN_ren:iK:=⟨fun |6=>101|15=>166|14=>165|28=>219|29=>220|20=>211|21=>212|22=>213|23=>214|24=>215|25=>216|26=>217|27=>218|46=>244|47=>245|48=>246|49=>247|50=>248|57=>273|n=>n,fun |22=>62|24=>34|25=>85|3=>3|39=>236|0=>0|53=>285|55=>287|4=>4|46=>279|45=>278|50=>207|5=>5|9=>9|66=>310|70=>314|76=>337|77=>174|n=>n,fun |n=>n⟩
theorem Tryz.sortN:Go.Proofs.SlLaysF.n6 aE Tryz.sortN_ren:={
 mixed:=by kernel_rfl
 f6:=⟨Tryz.f101.name,by decide,func101.trans (congrArg some (by kernel_rfl))⟩
 f14:=⟨Tryz.f165.name,by decide,func165.trans (congrArg some (by kernel_rfl))⟩
 f15:=func166.trans (congrArg some (by kernel_rfl))
 f20:=⟨Tryz.f211.name,by decide,func211.trans (congrArg some (by kernel_rfl))⟩
 f21:=⟨Tryz.f212.name,by decide,func212.trans (congrArg some (by kernel_rfl))⟩
 f22:=⟨Tryz.f213.name,by decide,func213.trans (congrArg some (by kernel_rfl))⟩
 f23:=⟨Tryz.f214.name,by decide,func214.trans (congrArg some (by kernel_rfl))⟩
 f24:=⟨Tryz.f215.name,by decide,func215.trans (congrArg some (by kernel_rfl))⟩
 f25:=⟨Tryz.f216.name,by decide,func216.trans (congrArg some (by kernel_rfl))⟩
 f26:=⟨Tryz.f217.name,by decide,func217.trans (congrArg some (by kernel_rfl))⟩
 f27:=⟨Tryz.f218.name,by decide,func218.trans (congrArg some (by kernel_rfl))⟩
 f28:=func219.trans (congrArg some (by kernel_rfl))
 f29:=func220.trans (congrArg some (by kernel_rfl))
 f46:=⟨Tryz.f244.name,by decide,func244.trans (congrArg some (by kernel_rfl))⟩
 f47:=func245.trans (congrArg some (by kernel_rfl))
 f48:=func246.trans (congrArg some (by kernel_rfl))
 f49:=⟨Tryz.f247.name,by decide,func247.trans (congrArg some (by kernel_rfl))⟩
 f50:=⟨Tryz.f248.name,by decide,func248.trans (congrArg some (by kernel_rfl))⟩
 f57:=⟨Tryz.f273.name,by decide,func273.trans (congrArg some (by kernel_rfl))⟩
 t0:=rA
 a0:=BW
 z0:=zQ
 v0:=sQ
 t3:=dL
 a3:=jG
 z3:=iB
 v3:=gZ
 t4:=fM
 a4:=lN
 z4:=jV
 v4:=gC
 t5:=underlying5
 a5:=isAgg5
 z5:=sizeOf5
 v5:=zeroValue5
 t9:=underlying9
 a9:=isAgg9
 z9:=sizeOf9
 v9:=zeroValue9
 t22:=kE
 a22:=KD
 z22:=sizeOf62
 v22:=zeroValue62
 a24:=isAgg34
 z24:=sizeOf34
 t25:=underlying85
 a25:=isAgg85
 z25:=sizeOf85
 v25:=zeroValue85
 t39:=underlying236
 a39:=isAgg236
 z39:=sizeOf236
 v39:=zeroValue236
 t45:=underlying278
 a45:=isAgg278
 z45:=sizeOf278
 v45:=zeroValue278
 t46:=underlying279
 a46:=isAgg279
 z46:=sizeOf279
 v46:=zeroValue279
 t50:=underlying207
 a50:=isAgg207
 z50:=sizeOf207
 v50:=zeroValue207
 t53:=underlying285
 a53:=isAgg285
 z53:=sizeOf285
 v53:=zeroValue285
 t55:=underlying287
 a55:=isAgg287
 z55:=sizeOf287
 v55:=zeroValue287
 t66:=underlying310
 a66:=isAgg310
 z66:=sizeOf310
 v66:=zeroValue310
 t70:=underlying314
 a70:=isAgg314
 z70:=sizeOf314
 v70:=zeroValue314
 t76:=underlying337
 a76:=isAgg337
 z76:=sizeOf337
 v76:=zeroValue337
 t77:=underlying174
 a77:=isAgg174
 z77:=sizeOf174
 v77:=zeroValue174}
open Go Go.RowKit Go.Lib Go.Sort Go.Shelf
abbrev Nm(s:List UInt8):Prop:=Sm s
structure fk where
 s:List UInt8
 ok:Nm s
instance:Inhabited fk:=⟨⟨bG 0,Sm.of (HB.zero.mono (by decide) (by decide))⟩⟩
def TJ(x:fk):aP:=aA (bs x.s)
def cfN(x y:fk):Int:=(fH x.s y.s).1
theorem Sm.inj{s t:List UInt8}(h:Sm s)(k:Sm t)(e:cT s=cT t):s=t:=by rw[←h.eq,←k.eq,e]
theorem cmpR_lt(x y:Rat):nH x y<0↔x<y:=by
 unfold nH;split
 ·exact⟨fun _=>‹_›,fun _=>by decide⟩
 ·split
  ·exact⟨fun h=>absurd h (by decide),fun h=>absurd h ‹_›⟩
  ·exact⟨fun h=>absurd h (by decide),fun h=>absurd h ‹_›⟩
theorem Sm.lt{s t:List UInt8}(h:Sm s)(k:Sm t):(fH s t).1<0↔cT s<cT t:=by rw[h.cmp k];exact cmpR_lt _ _
theorem ltN(x y:fk):YK cfN x y=decide (cT x.s<cT y.s):=by
 unfold YK cfN;rw[decide_eq_decide];exact Sm.lt x.ok y.ok
theorem swoN:SWO (YK cfN):={
 irrefl x:=by rw[ltN];exact decide_eq_false (by grind)
 trans x y z h1 h2:=by rw[ltN,decide_eq_true_eq]at *;grind
 ntrans x y z h1 h2:=by rw[ltN,decide_eq_false_iff_not]at *;grind}
theorem totN(x y:fk)(h1:YK cfN x y=false)(h2:YK cfN y x=false):x=y:=by
 rw[ltN,decide_eq_false_iff_not]at h1 h2;have e:=x.ok.inj y.ok (by grind);obtain⟨a,ha⟩:=x;obtain⟨b,hb⟩:=y;have e:a=b:=e;subst e;rfl
theorem grow_of{w w':aF}(h:Below w.heap.size w w')(hd:w.drawn≤w'.drawn):∃q os,w'=grow (w.drewN q) os:=by
 refine⟨w'.drawn-w.drawn,w'.heap.extract w.heap.size w'.heap.size,?_⟩;obtain⟨OO,tape',WZ,os',output'⟩:=w';have e1:os'=w.os:=h.os;have e2:tape'=w.tape:=h.tape;have e3:output'=w.output:=h.output;have hs:w.heap.size≤OO.size:=h.size;have hb:∀k,k<w.heap.size→OO[k]? =w.heap[k]? :=h.block;have hd:w.drawn≤WZ:=hd;subst e1 e2 e3;have eh:OO=w.heap++OO.extract w.heap.size OO.size:=by
  apply Array.ext_getElem?;intro k;by_cases hk:k<w.heap.size
  ·rw[xV hk];exact hb k hk
  ·rw[Array.getElem?_append_right (by omega),Array.getElem?_extract];by_cases hk2:k<OO.size
   ·rw[ip (by omega)];congr 1;omega
   ·rw[iN (by omega),Array.getElem?_eq_none (by omega)]
 rw[World.mk.injEq];exact⟨eh,rfl,by show WZ=w.drawn+(WZ-w.drawn);omega,rfl,rfl⟩
theorem Calls.grown{f:FuncId}{args:Array aP}{w:aF}{v:aP}(h:bE aE f args w (Rt (v) w)):bE aE f args w fun e w'=>e=bA v∧∃q os,w'=grow (w.drewN q) os:=
 (TI h fun _ _ hR=>⟨_,hR.1⟩).mono fun _ _⟨⟨h1,h2⟩,h3⟩=>⟨h1,grow_of h2 h3⟩
theorem yK{α:Type}[Inhabited α](enc:α→aP)(w:aF)(g off m:Nat)(d:Array α)(os:Array Obj):w.grownBy (Jr enc w g off m d os) (some g):=by
 refine⟨rfl,rfl,rfl,?_,fun k hk iC=>?_⟩
 ·show w.heap.size≤(Ik w.heap g _++os).size;rw[Array.size_append,Il];omega
 ·show(Ik w.heap g _++os)[k]? =_;rw[xV (by rw[Il];exact hk),Co,iN (fun e=>iC (by rw[e]))]
theorem OP{α:Type}[Inhabited α](enc:α→aP)(w:aF)(cL g n cap m:Nat)(e:dT)(d d':List α)(os:Array Obj)(ho:w.ownsRow cL e 1 (aD (some ⟨g,0,none⟩) n cap) n (d.map enc))(hl:d'.length=n):
 (Jr enc w g 0 m d'.toArray os).ownsRow cL e 1 (aD (some ⟨g,0,none⟩) n cap) n (d'.map enc):=by
 obtain⟨h1,h2⟩:=ho;refine⟨by rw[aZ];omega,.inr ?_⟩;rcases h2 with⟨h2,-⟩|⟨g',c',oL,h2,h3,h4,h5,h6,h7,h8⟩
 ·cases h2
 ·cases h2;refine⟨g,cap,putCells enc 0 d'.toArray oL,rfl,h3,?_,h5,h6,by unfold putCells;rw[Array.size_mapIdx];exact h7,?_⟩
  ·show(Ik w.heap g _++os)[g]? =_;have hg:g<w.heap.size:=(Array.getElem?_eq_some_iff.1 h4).1;rw[xV (by rw[Il];exact hg),Co,ip rfl,h4];rfl
  ·apply List.ext_getElem?;intro i;rw[List.getElem?_take,List.getElem?_map,Array.getElem?_toList];unfold putCells;rw[Array.getElem?_mapIdx];by_cases hi:i<n
   ·have hc:i<oL.size:=by rw[h7];omega
    rw[ip (by omega),Array.getElem?_eq_getElem hc,List.getElem?_eq_getElem (by omega),BV,BV,ip ⟨bM _,by simp;omega⟩];have:i<d'.toArray.size:=by simp;omega
    rw[Nat.sub_zero,getElem!_pos d'.toArray i this];simp
   ·rw[iN (by omega),List.getElem?_eq_none (by omega)];rfl
def leQ(x y:List UInt8):Bool:=decide (cT x≤cT y)
theorem zc(ds:List fk):(ds.mergeSort fun x y=> !(YK cfN) y x).map fk.s=(ds.map fk.s).mergeSort leQ:=by
 have e:(fun x y:fk=> !(YK cfN) y x)=fun x y=>leQ x.s y.s:=by
  funext x y;rw[ltN];unfold leQ;by_cases h:cT y.s<cT x.s
  ·rw[decide_eq_true h,decide_eq_false (by grind)];rfl
  ·rw[decide_eq_false h,decide_eq_true (by grind)];rfl
 rw[e];exact List.map_mergeSort fun _ _ _ _=>rfl
theorem TK(cf:Nat)(eg:∀args w,(callFunc cf args).run aE w=.ok (.enter cf args) w)(hcf:∀(x y:List UInt8)(W:aF),mN W→Sm x→Sm y→bE aE cf #[aA (bs x),aA (bs y)] W (Rt (aC aB (fH x y).1) W))
 (cL g n cap:Nat)(ds:List (List UInt8))(w0 w:aF)(hE:mN w0)(hB:Below w0.heap.size w0 w)(hb:w0.heap.size≤cL)(hn:n≤1000000)(hl:ds.length=n)(hs:∀s∈ds,Nm s)
 (dI:w.ownsRow cL 34 1 (aD (some ⟨g,0,none⟩) n cap) n (dK ds)):
 bE aE 101 #[aD (some ⟨g,0,none⟩) n cap,.func (.func cf) #[] #[]] w fun e w'=>(∃v,e=bA v)∧w'.ownsRow cL 34 1 (aD (some ⟨g,0,none⟩) n cap) n (dK (ds.mergeSort leQ))∧w.grownBy w' (some g):=by
 obtain⟨dt,rfl⟩:∃dt:List fk,ds=dt.map fk.s:=⟨ds.attach.map fun x=>⟨x.1,hs x.1 x.2⟩,by rw[lY];exact(List.attach_map_subtype_val ds).symm⟩;obtain⟨hbg,hglt,hnc,-⟩:=kU dI;rw[aZ]at hl;have estr:∀l:List fk,dK (l.map fk.s)=l.map TJ:=fun l=>by unfold dK;rw[lY];rfl
 rw[estr]at dI;have hH:Holds TJ w g 0 dt.toArray:=by
  intro j hj;have hj:j<dt.length:=by simpa using hj
  rw[cC];refine⟨?_,kF dI j⟩;rw[dZ dI j (by omega)];simp[hj]
 have hcmp:CmpLays1 aE cf #[] TJ cfN g 0 dt.toArray.size w:=by
  intro m os dk hk x y;have hEW:mN (Jr TJ w g 0 m dk os):=hE.below (dO (v:=aD (some ⟨g,0,none⟩) n cap) hB (yK TJ w g 0 m dk os) dI hb hB.size);exact Calls.grown (hcf x.s y.s _ hEW x.ok y.ok)
 have H:=Any.slices_SortFunc_total Tryz.sortN TJ (fun _=>rfl) cfN swoN cf #[] g 0 cap dt.toArray w eg hcmp hH hglt (by simp;omega) totN;have BX:dt.toArray.size=n:=by simp[hl]
 rw[BX]at H;refine H.mono ?_;rintro e w'⟨rfl,m,os,rfl⟩;refine⟨⟨_,rfl⟩,?_,yK TJ w g 0 m _ os⟩;rw[←zc,estr];exact OP TJ w cL g n cap m _ dt _ os dI (by rw[List.length_mergeSort];exact hl)
end
end Go.Proofs.YtkchhginppjaiaaGreatDoor
