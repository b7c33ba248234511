import Derived.Outline
import Derived.OrdersHeld
import Derived.Deep.AppendLies
import Derived.Below
import Derived.Lib.Hide
import Derived.BigQuiet
import Derived.Deep.QuietTactic
import Derived.Shelf.SlicesE.Compact
import Derived.Carry
import Derived.Test.YtckgmoobicmbnaaGreatDoorZ0
import Derived.Test.YtckgmoobicmbnaaGreatDoorZ1
import Derived.Test.YtckgmoobicmbnaaGreatDoorZ2
import Derived.Test.YtckgmoobicmbnaaGreatDoorZ5
import Derived.Test.YtckgmoobicmbnaaGreatDoorZ6
namespace Go.Proofs.YtckgmoobicmbnaaGreatDoor
set_option maxRecDepth 100000
set_option maxHeartbeats 8000000
set_option linter.all false
open Go.Proofs.Tryz
open _root_.Array renaming replicate_succ->bR,replicate_zero->bS,replicate->fY
open _root_.Bool renaming and_eq_true->bK,or_eq_false_iff->dO,eq_iff_iff->DG
open _root_.Classical renaming byContradiction->vD
open _root_.Go renaming World->aF,undef->aP,Value->aS,Calls->aW,bodyPost_ret->cI,Addr->cT,Program->dP,TypeId->eC,getD_set_ne->eZ,Oper->gL,Act->kZ,heap_setCell_other->nY,ownFrom_below->oA,Operand->qV,ready_mono->qY,results_none->tE,info_parts->vJ,Exit->yK,wpList->FH,getD_set_true->RK
open Go.Act renaming put->dK
open Go.ByteArray renaming toList_eq->cJ
open Go.Code renaming region->oF
open Go.Ending renaming returned->aQ
open Go.Instr renaming index->mQ
open Go.IntKind renaming i64->aE
open Go.IntWalk renaming i64_in->aX
open Go.Lib renaming compactUpTo->uT
open Go.Obj renaming cells->aJ,map->zv
open Go.Oper renaming semAt_some->dW,wp->ir
open Go.OwnFrom renaming and->cU
open Go.Proofs renaming enters_of->nH
open Go.Proofs.Tryz renaming prog->aC,underlying54->mh
open Go.Region renaming ready->cV,wanted->eT,Mode->gU,binds->pR
open Go.RowKit renaming intOf->aK,Hid->bH
open Go.RowKit.Below renaming refl->aH,heap_alloc->vS
open Go.Sem renaming run->gN
open Go.Shelf renaming Ren->iK
open Go.Value renaming string->aA,slice->aB,int->aD,bool->aN,pointer->bA,tuple->cC,agg->cN,oneCell'->nO,ownBlock->tF
open Go.World renaming size_alloc->bB,block_lt_of_cell?->bG,size_setCell->jN,ownsRow_nil->Ba,ownsRow->Rn
open Go.World.ownsRow renaming cellAt->eX,frozenAt->fN
open _root_.List renaming getElem?_cons_zero->aI,getElem?_toArray->aL,setIfInBounds_toArray->aM,getD_eq_getElem?_getD->aO,set_cons_zero->aV,getElem_cons_succ->aY,getElem_cons_zero->aZ,set_cons_succ->bC,getElem_toArray->bD,length_cons->bF,getElem?_cons_succ->bM,append_toArray->bU,replicate->bV,size_toArray->bW,length_nil->bY,cons_append->bZ,push_toArray->cD,nil_append->cL,length_map->cO,length_append->cP,take_succ_eq_append_getElem->dU,getElem_of_mem->eU,take_of_length_le->fM,length_set->fP,eq_of_mem_replicate->sC,map_append->tW,range->vN,getElem_mem->Cc,getElem_set_self->Di,getElem_set_ne->Fv,replicate_succ'->XK,getElem_set->zu
open _root_.Nat renaming le_refl->aG,le_trans->bE,lt_of_lt_of_le->bL,zero_le->bN,reduceAdd->cW,reduceSub->cX,zero_add->dZ
open _root_.Option.some renaming injEq->rC
open _root_.Or renaming inl->rJ
open _root_.Trans renaming trans->cB
section
open Go Go.RowKit Go.Lib
theorem info_pt:(Tryz.prog.info? 66).map (fun i=>(i.zero,i.size,i.bytes))=some (some (cN #[aA ⟨#[]⟩,aA ⟨#[]⟩]),2,32):=by kernel_rfl
theorem info_lo:(Tryz.prog.info? 64).map (fun i=>(i.zero,i.size,i.bytes))=some (some (aB none 0 0),1,24):=by kernel_rfl
theorem app_pt{w:aF}{cR:Array gL}{rest:List gL}{o:gL}{a:kZ}{Q:yK→kZ→aF→Prop}(Is:o.guard=none)(s x:qV)
 (ho:o.op=.call {callee:=.builtin .append,args:= #[s,x],argTypes:= #[64,64]})(base:Nat)
 (v:aS)(n:Nat)(xs:List aS)(hs:a.eval s=v)(hown:w.ownsRow base 66 2 v n xs)
 (y z:ByteArray)(hx:a.eval x=aB (some ⟨w.heap.size,0,none⟩) 1 1)
 (M8:n+1≤2147483648)(kJ:base≤w.heap.size)
 (h:∀g cap w',w'.ownsRow base 66 2 (aB (some ⟨g,0,none⟩) (n+1) cap) (n+1) (xs++[aA y,aA z])→base≤g→w.grownBy w' v.ownBlock→
  FH aC cR Q rest (a.put o.dst (aB (some ⟨g,0,none⟩) (n+1) cap)) w'):
 FH aC cR Q (o::rest) a (w.alloc (aJ #[aA y,aA z] 66)):=by
 obtain⟨i0,hi,zL,vX,oL⟩:=vJ info_pt;exact rO Is s x 64 ho base 66 i0 (cN #[aA ⟨#[]⟩,aA ⟨#[]⟩]) 2 32 underlying64 hi zL vX oL rfl (by decide) v n xs hs hown [aA y,aA z] hx rfl (by simp[nO]) M8 (by decide) kJ h
theorem app_lo{w:aF}{cR:Array gL}{rest:List gL}{o:gL}{a:kZ}{Q:yK→kZ→aF→Prop}(Is:o.guard=none)(s x:qV)
 (ho:o.op=.call {callee:=.builtin .append,args:= #[s,x],argTypes:= #[60,60]})(base:Nat)
 (v:aS)(n:Nat)(xs:List aS)(hs:a.eval s=v)(hown:w.ownsRow base 64 1 v n xs)
 (ad:Option cT)(m c:Nat)(hx:a.eval x=aB (some ⟨w.heap.size,0,none⟩) 1 1)
 (M8:n+1≤2147483648)(kJ:base≤w.heap.size)
 (h:∀g cap w',w'.ownsRow base 64 1 (aB (some ⟨g,0,none⟩) (n+1) cap) (n+1) (xs++[aB ad m c])→base≤g→w.grownBy w' v.ownBlock→
  FH aC cR Q rest (a.put o.dst (aB (some ⟨g,0,none⟩) (n+1) cap)) w'):
 FH aC cR Q (o::rest) a (w.alloc (aJ #[aB ad m c] 64)):=by
 obtain⟨i0,hi,zL,vX,oL⟩:=vJ info_lo;exact rO Is s x 60 ho base 64 i0 (aB none 0 0) 1 24 underlying60 hi zL vX oL rfl (by decide) v n xs hs hown [aB ad m c] hx rfl (by simp[nO]) M8 (by decide) kJ h
theorem wT{w:aF}{b1 b2 e1 e2 s1 s2 n1 n2:Nat}{v1 v2:aS}{xs ys:List aS}(h1:w.ownsRow b1 e1 s1 v1 n1 xs)(h2:w.ownsRow b2 e2 s2 v2 n2 ys)(jC:e1≠e2):v1.ownBlock=none∨v1.ownBlock≠v2.ownBlock:=by
 rcases h1.2 with⟨h,_⟩|⟨g1,c1,cur1,h,_,k1,_⟩
 ·left;rw[h];rfl
 ·right;rw[h];rcases h2.2 with⟨h',_⟩|⟨g2,c2,cur2,h',_,k2,_⟩
  ·rw[h'];simp[tF]
  ·rw[h'];simp only[tF,ne_eq,rC];rintro rfl;rw[k1]at k2;injection k2 with k2;injection k2 with _ k3;exact jC k3
def loV(l:Lo):aS:=aB l.a l.qs.length l.cap
def Ay(B:Nat)(W:aF)(v:aS)(fD:List Lo):Prop:=
 W.ownsRow B 64 1 v fD.length (fD.map loV)∧∀l∈fD,W.ownsRow B 66 2 (loV l) l.qs.length (pB l.qs)
theorem Ay.below{B:Nat}{W W':aF}{v:aS}{fD:List Lo}(h:Ay B W v fD)(hb:Below W.heap.size W W'):Ay B W' v fD:=
 ⟨dI h.1 hb,fun l hl=>dI (h.2 l hl) hb⟩
theorem Ay.grow{B:Nat}{W W':aF}{v:aS}{fD:List Lo}{l:Lo}{g cap:Nat}(h:Ay B W v fD)(hl:W.ownsRow B 66 2 (loV l) l.qs.length (pB l.qs))
 (hg:W.grownBy W' v.ownBlock)(hown:W'.ownsRow B 64 1 (aB (some ⟨g,0,none⟩) (fD.length+1) cap) (fD.length+1) (fD.map loV++[loV l])):
 Ay B W' (aB (some ⟨g,0,none⟩) (fD.length+1) cap) (fD++[l]):=by
 refine⟨by rw[cP,tW];exact hown,fun x hx=>?_⟩;rcases List.mem_append.1 hx with hx|hx
 ·exact(h.2 x hx).kept hg (wT (h.2 x hx) h.1 (by decide))
 ·rw[List.mem_singleton.1 hx];exact hl.kept hg (wT hl h.1 (by decide))
theorem Ay.reads{B:Nat}{W:aF}{a:Option cT}{n cap:Nat}{fD:List Lo}(h:Ay B W (aB a n cap) fD):RdLo W a fD:=by
 intro i hi;have hl:=eB hi (default:Lo);have h2:=h.2 _ hl;rcases h.1.2 with⟨_,h3⟩|⟨g,c,yU,hv,_⟩
 ·omega
 ·injection hv with e1 e2 e3;subst e1 e2 e3;refine⟨g,0,rfl,?_,Yx.own h2⟩;rw[dZ,eX h.1 i (by omega)];simp[aO,hi,loV]
def RetP(w:aF)(pts:List (List Po))(err:Int)(e:Ending)(w':aF):Prop:=
 (∃a cap,∃fD:List Lo,e=aQ (cC #[aB a pts.length cap,aD aE err])∧fD.map Lo.qs=pts∧RdLo w' a fD)∧Below w.heap.size w w'
def sX(fs:List Fr)(ls:List Lp)(z:List UInt8):Int:=if iL fs [z] ls≠0 then iL fs [z] ls else if tK fs (oZ fs z) ls false=true then 0 else 1
def CN(fs:List Fr)(ls:List Lp)(z:List UInt8):List (List Po):=if sX fs ls z=0 then sW fs (oZ fs z) ls else[]
theorem Qc{fs:List Fr}{zs:List (List UInt8)}{ls:List Lp}(h:iL fs zs ls=0):(∀f∈fs,B9 f=0)∧(∀z∈zs,gT z=0)∧ls.length≤24:=by
 unfold iL at h;by_cases h1:xM fs=true
 ·rw[ip h1]at h;cases h
 rw[iN h1]at h;by_cases h2:J0 zs zs.length=0
 ·rw[iN (by rw[h2];decide)]at h;by_cases h3:sU ls=true
  ·rw[ip h3]at h;cases h
  refine⟨fun f hf=>?_,fun z hz=>?_,?_⟩
  ·obtain⟨i,hi,rfl⟩:=eU hf;have h1:xM fs=false:=by simpa using h1
   unfold xM at h1;rw[dO]at h1;have:=dC.1 h1.2 i hi;unfold JZ at this;rw[show fs.getD i default=fs[i] by simp[aO,hi]]at this;simpa using this
  ·obtain⟨i,hi,rfl⟩:=eU hz;have:=IM h2 i hi;rwa[show zs.getD i []=zs[i] by simp[aO,hi]]at this
  ·have h3:sU ls=false:=by simpa using h3
   unfold sU at h3;rw[dO,decide_eq_false_iff_not]at h3;omega
 ·rw[ip h2]at h;exact absurd h h2
theorem Ow{fs:List Fr}{at':List (List UInt8)}{ls:List Lp}{right:Bool}(h:tK fs at' ls right =true){i j:Nat}(hi:i<ls.length)(hj:j<(ls.getD i default).ps.length):∃s:Nat,((ls.getD i default).ps.getD j default).side=s∧s<fs.length:=by
 unfold tK at h;have h1:=dC.1 (by simpa using h) i hi;unfold bd at h1;have h2:jF fs at' (ls.getD i default).ps right =true:=by simpa using h1
 unfold jF at h2;simp only[bK]at h2;exact LQ (Oq (by simpa using h2.1.2) hj)
theorem be (a b:Option cT) (nf n ca cb:Nat) (fs:List Fr) (ls:List Lp) (z:List UInt8) (w:aF) (hE:iM w)
 (hf:fs.length=nf) (hl:ls.length=n) (bf:nf≤1000000) (hn:n≤1000000) (Ig:∀ f∈fs,f.sp.length≤30∧f.st.length≤30) (Nx:Ws ls) (hz:z.length≤8000000)
 (rf:zR w a fs) (rl:E5 w b ls) :
 aW aC 27 #[aB a nf ca,aB b n cb,aA (bs z)] w (RetP w (CN fs ls z) (sX fs ls z)):=by
 have fA:=(aH w.heap.size w).alloc (aG _) (aJ #[aA (bs z)] 27);have rz:Ek (w.alloc (aJ #[aA (bs z)] 27)) (some ⟨w.heap.size,0,none⟩) [z]:=by
  intro i hi;have hi:i < 1:=hi;obtain rfl:i=0:=by omega
  exact⟨_,_,rfl,(bT.new w #[aA (bs z)] 27).cell 0⟩
 have HC:=zq (sV a b (some ⟨w.heap.size,0,none⟩) nf n 1 ca cb 1 fs ls [z] _ (hE.below fA) hf hl rfl bf hn (by decide) Ig (fun x hx=> by rw [List.mem_singleton] at hx;subst hx;exact hz) (fun l h=> (Nx l h).1) (rf.below fA) (rl.below fA) rz);have HOk:iL fs [z] ls=0→(∀ f∈fs,f.Ok)∧gT z=0:=fun h=> by
  obtain⟨h1,h2, -⟩:=Qc h;exact⟨fun f hm=> ⟨h1 f hm,(Ig f hm).1,(Ig f hm).2⟩,h2 z (List.mem_singleton.2 rfl)⟩
 have LR:bH (iL fs [z] ls=0→∀ b2 c2 W,Below w.heap.size w W→Ek W b2 (oZ fs z)→aW aC 38 #[cN #[aB a nf ca,aB b2 nf c2],aB b n cb,aN false] W (Rt (aN (tK fs (oZ fs z) ls false)) W)):=fun h b2 c2 W hW ha=> by
  obtain⟨h1,h2⟩:=HOk h;exact Wt a b2 b nf n ca c2 cb fs (oZ fs z) ls false W (hE.below hW) hf (by rw [Dv];exact hf) hl hn (fun f hm=> (h1 f hm).dir) Nx (rf.below hW) ha (rl.below hW)
 have HCor:bH (tK fs (oZ fs z) ls false=true→∀ i,i < n→∀ j,j < (ls.getD i default).ps.length→∀ b2 c2 W,Below w.heap.size w W→Ek W b2 (oZ fs z)→
  aW aC 70 #[cN #[aB a nf ca,aB b2 nf c2],((ls.getD i default).ps.getD j default).v] W (Rt ((dV fs (oZ fs z) ((ls.getD i default).ps.getD j default)).v) W)):=fun h i hi j hj b2 c2 W hW ha=> by
  obtain⟨s,h1,h2⟩:=Ow h (by rw [hl];exact hi) hj;exact Ax a b2 nf ca c2 fs (oZ fs z) _ s W h1 (by omega) hf (by rw [Dv];exact hf) (rf.below hW) ha
 have R1:bH (iL fs [z] ls≠0→sX fs ls z=iL fs [z] ls):=fun h=> by unfold sX;rw [ip h]
 have R2:bH (iL fs [z] ls=0→tK fs (oZ fs z) ls false=false→sX fs ls z=1):=fun h h2=> by unfold sX;rw [iN (by rw [h];decide),iN (by rw [h2];decide)]
 have R3:bH (iL fs [z] ls=0→tK fs (oZ fs z) ls false=true→sX fs ls z=0∧CN fs ls z=sW fs (oZ fs z) ls):=fun h h2=> by
  have:sX fs ls z=0:=by unfold sX;rw [iN (by rw [h];decide),ip h2]
  exact⟨this,by unfold CN;rw [ip this]⟩
 have R4:bH (∀ c,sX fs ls z=c→c≠0→CN fs ls z= []):=fun c h h2=> by unfold CN;rw [h,iN h2]
 have si:bH (∀ c:Int,sX fs ls z=c→c≠0→∀ W,Below w.heap.size w W→RetP w (CN fs ls z) (sX fs ls z) (aQ (cC #[aB none 0 0,aD aE c])) W):=fun c h h2 W hB=>
  ⟨⟨_,0, [],by rw [R4.out c h h2,h];rfl,by rw [R4.out c h h2];rfl,fun i hi=> absurd hi (by simp)⟩,hB⟩
 have Hps:bH (∀ i,i < n→(ls.getD i default).ps.length≤1000000):=fun i hi=> (Nx _ (eB (by rw [hl];exact hi) default)).1;have HZ0:bH (([z]:List (List UInt8)).getD 0 []=z):=rfl;have Hl:=zq hl;have Rl:=zq rl;have gY:=zq fA;clear hE hf hl Ig Nx hz rf rl rz fA HOk R4;generalize hPV:CN fs ls z=PV at *;generalize sX fs ls z=PE at *;have hL' :oZ fs (([z]:List (List UInt8)).getD 0 [])=oZ fs z:=rfl;generalize hL:oZ fs z=L at *;generalize bs z=Z at *;clear hPV hL;by_cases h0:iL fs [z] ls=0
 ·unfold P9 at HC;rw [h0,hL'] at HC;have LR:=zq (LR.out h0);have R2:=zq (R2.out h0);have R3:=zq (R3.out h0);clear h0 R1;generalize hAL:tK fs L ls false=AL at *;have HAL:=zq hAL;clear hAL;go_enter func27,ntmps27;go_wp2_with fail
  refine HC.out.mono ?_;rintro e W1 ⟨⟨a1,n1,c1,a2,n2,c2,rfl,hk⟩,hb1⟩;obtain⟨h1,h2,h3,hk⟩:=hk (by first | rfl | trivial);obtain⟨h4,ha⟩:=hk (by first | exact Nat.zero_lt_one | trivial | simp);obtain rfl:=h1.symm;obtain rfl:=h2.symm;obtain rfl:=h3.symm;obtain rfl:=h4.symm;have eW:=zq (aU gY.out hb1);have HBA:=zq (eW.out.alloc eW.out.size (aJ #[aB a nf ca,aB a2 nf c2] 70));have QT:=zq (bT.new W1 #[aB a nf ca,aB a2 nf c2] 70);have Ha:=zq (ha.below ((aH W1.heap.size W1).alloc (aG _) (aJ #[aB a nf ca,aB a2 nf c2] 70)));clear ha hb1 HC gY;go_wp2_with fail
  refine(LR.out _ _ _ HBA.out Ha.out).mono ?_;rintro e W3 ⟨rfl,hb2⟩;have HB3:=zq (aU HBA.out hb2);have QT:=zq (QT.out.below hb2 QT.out.lt);have Ha:=zq (Ha.out.below hb2);obtain⟨G,hG⟩:∃ G,W1.heap.size=G:=⟨_,rfl⟩;rw [hG] at QT ⊢;clear hb2 LR HBA hG eW;cases AL with
  | false=>
   have e1:=zq (R2.out rfl);go_wp2;go_ret2;exact si.out 1 e1.out (by decide) _ HB3.out
  | true=>
   obtain⟨e1,e2⟩:=R3.out rfl;have sz:=zq (HCor.out rfl);have E1:=zq e1;have E2:=zq e2;clear e1 e2 R2 R3 si HCor;have O0:bH (Ay W3.heap.size W3 (aB none 0 0) []):=⟨⟨by simp, .inl ⟨rfl,rfl⟩⟩,fun l hl=> absurd hl (by simp)⟩;go_wp2;go_loopw [10,33] (fun o i wr=> ∃ (ad:Option cT) (co:Nat) (fD:List Lo),i=aD aE (fD.length:Nat)∧fD.length≤n∧o=aB ad fD.length co∧bH (fD.map Lo.qs=(sW fs L ls).take fD.length)∧bH (Ay W3.heap.size wr (aB ad fD.length co) fD)∧bH (Below W3.heap.size W3 wr)) (fun _ i _=> n - (aK i).toNat);case atStart=> exact⟨_,0, [],rfl,bN _,rfl,rfl,O0.out,aH _ _⟩
   case round=>
    clear O0;obtain⟨ad,co,fD,rfl,hk,rfl,Hq,HO,HB⟩:=hrel;have vR:=zq (aU HB3.out HB.out);obtain⟨k,Ac⟩:∃ k,fD.length=k:=⟨_,rfl⟩;rw [Ac] at hk Hq HO ⊢;by_cases hlt:k < n
    ·obtain⟨lb,lo,rfl,c0,rp⟩:=(Rl.out.below vR.out).at (i:=k) (by rw [Hl.out];exact hlt) rfl;have Rp:=zq rp;have If:=zq (sz.out k hlt);have Hpt:bH ((sW fs L ls).take (k + 1)=(sW fs L ls).take k ++ [(ls.getD k default).ps.map fun p=> dV fs L p]):=by
      show _=_;unfold sW;rw [dU (by rw [cO,Hl.out];exact hlt)];simp [aO,Hl.out,hlt]
     have Hkk:=zq Ac;have Ib:=Hps.out k hlt;generalize ls.getD k default=l at *;generalize l.a=la at *;generalize l.cap=lcp at *;obtain⟨qs,Yy⟩:∃ qs,l.ps.map (fun p=> dV fs L p)=qs:=⟨_,rfl⟩;rw [Yy] at Hpt;have Hqs:bH (∀ j,j < l.ps.length→qs.take (j + 1)=qs.take j ++ [dV fs L (l.ps.getD j default)]):=fun j hj=> by
      rw [← Yy,dU (by rw [cO];exact hj)];simp [aO,hj]
     have Hql:bH (qs.length=l.ps.length):=by show _=_;rw [← Yy,cO]
     clear Yy rp Ac;rename aF=> wo;have QTo:=zq (QT.out.below HB.out QT.out.lt);obtain⟨m,hm⟩:∃ m,l.ps.length=m:=⟨_,rfl⟩;rw [hm] at If Hqs Hql c0 Ib;have Hm:=zq hm;clear hm;go_wp2;go_loopw [13,39] (fun o i wr=> ∃ (j:Nat) (al:Option cT) (cl:Nat),i=aD aE j∧j≤m∧o=aB al j cl∧bH (wr.ownsRow wo.heap.size 66 2 (aB al j cl) j (pB (qs.take j)))∧bH (Below wo.heap.size wo wr)) (fun _ i _=> m - (aK i).toNat);case atStart=> exact⟨0,none,0,rfl,bN _,rfl,⟨by simp [pB], .inl ⟨rfl,rfl⟩⟩,aH _ _⟩
     case round=>
      obtain⟨j,al,cl,rfl,hj,rfl,qO,Bh⟩:=hrel;obtain⟨t0,t1, -, -,tl⟩:=(QTo.out.below Bh.out QTo.out.lt).two;by_cases hjm:j < m
      ·obtain⟨pb,po,rfl,d0,d1,d2⟩:=(Rp.out.below Bh.out).at (i:=j) (by rw [Hm.out];exact hjm) rfl;have HCj:=zq (fun (W:aF) (h:Below wr.heap.size wr W)=> If.out j hjm a2 c2 W (aU (aU vR.out Bh.out) h) (((Ha.out.below HB.out).below Bh.out).below h));have Hqj:=zq (Hqs.out j hjm);unfold Pt.v Pt.cells at HCj;generalize l.ps.getD j default=p at *;generalize dV fs L p=C at *;unfold Po.v Po.cells at HCj;obtain⟨ps,pf,pe⟩:=p;obtain⟨cx,cy⟩:=C;simp only [] at *;generalize bs pf=PF at *;generalize bs pe=PEn at *;obtain⟨CX,hCX⟩:∃ s,bs cx=s:=⟨_,rfl⟩;obtain⟨CY,hCY⟩:∃ s,bs cy=s:=⟨_,rfl⟩;rw [hCX,hCY] at HCj;have HCX:=zq hCX;have HCY:=zq hCY;clear hCX hCY;have hBp:=(aH wr.heap.size wr).alloc (aG _) (aJ #[aD aE ps,aA PF,aA PEn] 47);have bc:=zq hBp;clear hBp;go_wp2_with fail
       refine(HCj.out _ bc.out).mono ?_;rintro e W5 ⟨rfl,hb5⟩;have hb6:=aU bc.out hb5;have yI:=zq (aU Bh.out hb6);have rS:=dI qO.out hb6;clear hb5 hb6 HCj qO Bh;go_wp2_with (at_builtin;refine app_pt rfl _ _ rfl wo.heap.size (aB al j cl) j _ rfl rS _ _ rfl (by omega) yI.out.size ?_;intro g6 cap6 w6 BW hg6 EW)
       have FC:=zq (eP yI.out EW rS (aG _) yI.out.size);have e6:pB (qs.take j) ++ [aA CX,aA CY]=pB (qs.take (j + 1)):=by
        rw [Hqj.out,Tk,HCX.out,HCY.out]
       rw [e6] at BW;have Hown6:=zq BW;clear e6 rS BW EW yI;go_wp2;go_roundw;case rel=> exact⟨j + 1,_,cap6,by go_num,by omega,rfl,Hown6.out,FC.out⟩
       case measure=> simp only [aK];omega
      ·obtain rfl:m=j:=by omega
       have hqt:qs.take m=qs:=fM (by rw [Hql.out];exact aG _);rw [hqt] at qO;have HBo:=zq (aU HB.out Bh.out);have IF:=zq (HO.out.below Bh.out);have hl2:=mZ qO.out HB.out.size;have HL2:=zq hl2;clear hqt hl2 qO Bh HO;have HLo:bH ((fD ++ [(⟨al,cl,qs⟩:Lo)]).map Lo.qs=(sW fs L ls).take (k + 1)):=by
        show _=_;rw [tW,Hq.out,Hpt.out];rfl
       have zF:=IF.out.1;rw [Hkk.out] at zF;have hlen8:(fD ++ [(⟨al,cl,qs⟩:Lo)]).length=k + 1:=by rw [cP,Hkk.out];rfl
       have Tl:=zq hlen8;clear hlen8;go_wp2_with (at_builtin;refine app_lo rfl _ _ rfl W3.heap.size (aB ad k co) k _ rfl zF al m cl rfl (by omega) HBo.out.size ?_;intro g8 Tm w8 GD hg8 LU)
       have HB8:=zq (eP HBo.out LU zF (aG _) HBo.out.size);have HO8:bH (Ay W3.heap.size w8 (aB (some ⟨g8,0,none⟩) (k + 1) Tm) (fD ++ [⟨al,cl,qs⟩])):=by
        have:=Ay.grow (l:=⟨al,cl,qs⟩) (g:=g8) (cap:=Tm) IF.out (by
         have:=HL2.out;show Rn _ _ _ _ (aB al qs.length cl) qs.length (pB qs);rw [Hql.out];exact this) LU (by
         rw [Hkk.out];show Rn _ _ _ _ _ _ (_ ++ [aB al qs.length cl]);rw [Hql.out];exact GD)
        rwa [Hkk.out] at this
       clear zF GD LU IF HL2;go_wp2;go_roundw;case rel=> exact⟨_,Tm,fD ++ [⟨al,cl,qs⟩],by rw [Tl.out];go_num,by rw [Tl.out];omega,by rw [Tl.out],by rw [Tl.out];exact HLo.out,by rw [Tl.out];exact HO8.out,HB8.out⟩
       case measure=> simp only [aK];omega
    ·obtain rfl:n=k:=by omega
     have oe:(sW fs L ls).take n=sW fs L ls:=fM (by unfold sW;rw [cO,Hl.out];exact aG _);rw [oe] at Hq;have R:bH (RetP w PV PE (aQ (cC #[aB ad n co,aD aE 0])) wr):=by
      have kK:PV.length=n:=by rw [E2.out];unfold sW;rw [cO,Hl.out]
      refine⟨⟨ad,co,fD,by rw [kK,E1.out],by rw [E2.out];exact Hq.out,Ay.reads HO.out⟩,vR.out⟩
     clear oe Ac;go_wp2;go_ret2;exact R.out
 ·have e1:=zq (R1.out h0);have e2:=zq (si.out _ (R1.out h0) h0);have h' :(iL fs [z] ls !=0)=true:=by rw [bne_iff_ne];exact h0
  unfold P9 at HC;generalize iL fs [z] ls=c at *;clear h0 R1 R2 R3 LR HCor si;go_enter func27,ntmps27;go_wp2_with fail
  refine HC.out.mono ?_;rintro e W1 ⟨⟨a1,n1,c1,a2,n2,c2,rfl, -⟩,hb1⟩;have eW:=zq (aU gY.out hb1);go_wp2;go_ret2;exact e2.out _ (eW.out.alloc eW.out.size _)
theorem Wv(b off cap:Nat)(s t:List UInt8)(w:aF)(hE:iM w)(hs:s.length≤8000000)(ht:t.length≤8000000)(h0:(iE s t).1=0)(hc:w.cell? ⟨b,off,none⟩=some (aA (bs s))):
 aW aC 254 #[aB (some ⟨b,off,none⟩) 1 cap,aA (bs t),.func (.func 61) #[] #[]] w (Rt (cC #[aD aE 0,aN true]) w):=by
 have HC:bH (∀W,Below w.heap.size w W→aW aC 61 #[aA (bs s),aA (bs t)] W (Rt (aD aE 0) W)):=fun W hW=>by
  have:=mN (bs s) (bs t) W (hE.below hW) (by rw[cZ];exact hs) (by rw[cZ];exact ht);rw[bP,bP,h0]at this;exact this
 have Hc:bH (∀W,Below w.heap.size w W→W.cell? ⟨b,off,none⟩=some (aA (bs s))):=fun W hW=>(hW.cell (p:=⟨b,off,none⟩) (bG w _ hc)).trans hc;clear hE hs ht h0 hc;generalize bs s=S at *;generalize bs t=T at *;go_enter func254,ntmps254;go_wp2;go_loopw[9,10] (fun i j wr=>i=aD aE 0∧(j=aD aE 0∨j=aD aE 1)∧bH (Below w.heap.size w wr)) (fun _ j _=>(aK j).toNat);case atStart=>exact⟨rfl,.inr rfl,aH _ _⟩
 case round=>
  obtain⟨rfl,rfl|rfl,HB⟩:=hrel
  ·have c0:=Hc.out _ HB.out;go_wp2_with fail
   refine(HC.out _ HB.out).mono ?_;rintro e W1⟨rfl,hb1⟩;have eW:=zq (aU HB.out hb1);clear hb1;go_wp2;go_ret2;exact⟨rfl,eW.out⟩
  ·have c0:=Hc.out _ HB.out;go_wp2_with fail
   refine(HC.out _ HB.out).mono ?_;rintro e W1⟨rfl,hb1⟩;have eW:=zq (aU HB.out hb1);clear hb1;go_wp2;go_roundw;case rel=>exact⟨rfl,.inl (by go_num),eW.out⟩
   case measure=>simp[aK]
theorem Ox(b off cap:Nat)(s t:List UInt8)(w:aF)(hE:iM w)(hs:s.length≤8000000)(ht:t.length≤8000000)(h0:(iE s t).1=0)(hc:w.cell? ⟨b,off,none⟩=some (aA (bs s))):
 aW aC 174 #[aB (some ⟨b,off,none⟩) 1 cap,aA (bs t)] w (Rt (aD aE 0) w):=by
 have H:=zq (Wv b off cap s t w hE hs ht h0 hc);clear hE hs ht h0 hc;generalize bs s=S at *;generalize bs t=T at *;go_enter func174,ntmps174;go_wp2_with fail
 refine H.out.mono ?_;rintro e W1⟨rfl,hb1⟩;have eW:=zq hb1;clear hb1;go_wp2;go_ret;exact⟨rfl,eW.out⟩
end
section
open Go Go.RowKit
section
variable{P:dP}{cR:Array gL}{Q:yK→kZ→aF→Prop}{md:gU}
def CO(md:gU)(cR:Array gL)(L:Array Bool):Prop:=
 ∀j o,cR[j]? =some o→L.getD j false=true→∀e∈o.after,pR md e=true→L.getD e.on false=true
theorem CO.set{L:Array Bool}{j:Nat}(h:CO md cR L)(hj:j∈cV md cR L):CO md cR (L.setIfInBounds j true):=by
 intro k o hk hL e he hb;obtain⟨-,oj,MX,hall⟩:=mem_ready.1 hj;by_cases hjk:j=k
 ·subst hjk;rw[MX]at hk;cases hk;exact RK (hall e he hb)
 ·rw[eZ false hjk]at hL;exact RK (h k o hk hL e he hb)
theorem CO.none(n:Nat):CO md cR (fY n false):=by
 intro j o _ h;exfalso;by_cases hj:j<n<;>simp[hj]at h
theorem LV{L:Array Bool}{i:Nat}(h:L.getD i true=false):L.getD i false=false:=by
 by_cases hlt:i<L.size
 ·simp[hlt]at h⊢;exact h
 ·simp[Array.getElem?_eq_none (Nat.le_of_not_lt hlt)]at h
def waits(md:gU)(cR:Array gL)(j k:Nat):Bool:=match cR[j]? with
 |some o=>o.after.any (fun e=>pR md e&&e.on==k)
 |none=>false
theorem CO.up{L:Array Bool}{j k:Nat}(h:CO md cR L)(hw:waits md cR j k=true)(hk:L.getD k false=false):L.getD j false=false:=by
 unfold waits at hw;cases ho:cR[j]? with
 |none=>rw[ho]at hw;cases hw
 |some o=>
  rw[ho]at hw;simp only[Array.any_eq_true']at hw;obtain⟨e,he,hb⟩:=hw;rw[bK,beq_iff_eq]at hb;cases hj:L.getD j false with
  |false=>rfl
  |true=>
   have:=h j o ho hj e he hb.1;rw[hb.2,hk]at this;cases this
def rH(P:dP)(md:gU)(cR:Array gL)(Q:yK→kZ→aF→Prop)(st:Array Bool→Bool)(S:aF→Prop):Nat→Array Bool→kZ→aF→Prop
 |0,L,a,w=>cV md cR L=[]∧Q .normal a w
 |fuel+1,L,a,w=>(cV md cR L=[]→Q .normal a w)∧
  ∀i∈cV md cR L,wpOp P cR Q i (fun a' w'=>(st (L.setIfInBounds i true)=false→S w')∧rH P md cR Q st S fuel (L.setIfInBounds i true) a' w') a w
variable{st:Array Bool→Bool}{S:aF→Prop}
theorem LW:∀(fuel:Nat)(L:Array Bool)(a:kZ)(w:aF),rH P md cR Q st S fuel L a w→wpAny P md cR Q fuel L a w
 |0,_,_,_,h=>h
 |fuel+1,_,_,_,h=>⟨h.1,fun i hi=>wpOp_mono (fun a' w' h'=>LW fuel _ a' w' h'.2) (h.2 i hi)⟩
theorem Qd{i:Nat}{oi:gL}{v:aS}(hi:cR[i]? =some oi)(Ww:∀(j:Nat)(o:gL)cs b,cR[j]? =some o→o.op≠.select cs b)
 (hQ:∀c a w,Q (.panic c) (a.put oi.dst v) w→Q (.panic c) a w){S':aF→Prop}(hok:∀L w,CO md cR L→L.getD i false=false→(st L=false→S w)→S' w)(ta:∀L,st (L.setIfInBounds i true)=st L):
 ∀(fuel:Nat)(L:Array Bool)(a:kZ)(w:aF),CO md cR L→
  (∀j oj,cR[j]? =some oj→j≠i→L.getD j true=false→(∀e∈oj.after,pR md e=true→e.on≠i)→oi.apart cR oj=true)→
  i∈cV md cR L→YieldsIf P cR S' oi v a→(st L=false→S w)→
  rH P md cR Q st S fuel (L.setIfInBounds i true) (a.put oi.dst v) w→rH P md cR Q st S (fuel+1) L a w:=by
 intro fuel;induction fuel with
 |zero=>
  intro L a w hL0 _ hr hy hS H;refine⟨fun h=>(by rw[h]at hr;cases hr),fun j hj=>?_⟩;by_cases hji:j=i
  ·subst hji;exact hy.wpOp hi (hok L w hL0 (LV (mem_ready.1 hr).1) hS) ⟨fun h=>hS (by rw[←ta];exact h),H⟩
  ·have:=qY hj hji;rw[H.1]at this;cases this
 |succ fuel ih=>
  intro L a w hL Az hr hy hS H;refine⟨fun h=>(by rw[h]at hr;cases hr),fun j hj=>?_⟩;by_cases hji:j=i
  ·subst hji;exact hy.wpOp hi (hok L w hL (LV (mem_ready.1 hr).1) hS) ⟨fun h=>hS (by rw[←ta];exact h),H⟩
  ·have h1:=H.2 j (qY hj hji);obtain⟨E7,oj,MX,hall⟩:=mem_ready.1 hj;have hiun:=(mem_ready.1 hr).1;have hiun':L.getD i false=false:=LV hiun;have td:∀e∈oj.after,pR md e=true→e.on≠i:=fun e he hb VK=>by
    have:=hall e he hb;rw[VK,hiun']at this;cases this
   have h2:=wpOp_putIf MX (Az j oj MX hji E7 td) (fun cs b=>Ww i oi cs b hi) (fun cs b=>Ww j oj cs b MX) hQ hy h1;have hL':=hL.set hj;have hiun2:(L.setIfInBounds j true).getD i false=false:=by rw[eZ false hji];exact hiun'
   have hfree':∀k ok,cR[k]? =some ok→k≠i→(L.setIfInBounds j true).getD k true=false→
    (∀e∈ok.after,pR md e=true→e.on≠i)→oi.apart cR ok=true:=fun k ok hk hki hun nw=>by
    refine Az k ok hk hki ?_ nw;by_cases hjk:j=k
    ·subst hjk;exact E7
    ·rw[eZ true hjk]at hun;exact hun
   refine wpOp_mono (fun a' w' h3=>?_) h2;have hc:(L.setIfInBounds i true).setIfInBounds j true=(L.setIfInBounds j true).setIfInBounds i true:=Array.setIfInBounds_comm _ _ (Ne.symm hji);have hS':st (L.setIfInBounds j true)=false→S w':=fun h=>h3.2.1 (by rw[hc,ta];exact h);refine⟨hS',ih _ a' w' hL' hfree' (qY hr (Ne.symm hji)) h3.1 hS' ?_⟩;rw[←hc];exact h3.2.2
theorem fL{i:Nat}{oi:gL}{v:aS}{fuel:Nat}{L:Array Bool}{a:kZ}{w:aF}(hi:cR[i]? =some oi)
 (hs:Region.noSelect cR=true)(hf:Region.free md cR L i=true)(hr:(cV md cR L).contains i=true)
 (hQ:∀c a w,Q (.panic c) (a.put oi.dst v) w→Q (.panic c) a w){S':aF→Prop}(hok:∀L w,CO md cR L→L.getD i false=false→(st L=false→S w)→S' w)(ta:∀L,st (L.setIfInBounds i true)=st L)
 (hL:CO md cR L)(hy:YieldsIf P cR S' oi v a)(hS:st L=false→S w)
 (h:CO md cR (L.setIfInBounds i true)→rH P md cR Q st S fuel (L.setIfInBounds i true) (a.put oi.dst v) w):rH P md cR Q st S (fuel+1) L a w:=
 Qd hi (Region.noSelect_spec hs) hQ hok ta fuel L a w hL (Region.free_spec hi hf) (by simpa using hr) hy hS (h (hL.set (by simpa using hr)))
theorem Wx{rs:List Nat}{fuel:Nat}{L:Array Bool}{a:kZ}{w:aF}(hr:cV md cR L=rs)(jC:rs≠[])
 (h:∀i∈rs,wpOp P cR Q i (fun a' w'=>(st (L.setIfInBounds i true)=false→S w')∧rH P md cR Q st S fuel (L.setIfInBounds i true) a' w') a w):rH P md cR Q st S (fuel+1) L a w:=
 ⟨fun h0=>absurd (hr▸h0) jC,hr▸h⟩
theorem Tn{L:Array Bool}{a:kZ}{w:aF}(hr:cV md cR L=[])(h:Q .normal a w):∀fuel,rH P md cR Q st S fuel L a w
 |0=>⟨hr,h⟩
 |_+1=>⟨fun _=>h,by rw[hr];simp⟩
def rZ(P:dP)(md:gU)(cR:Array gL)(Q:yK→kZ→aF→Prop)(st:Array Bool→Bool)(S:aF→Prop)(fuel:Nat)(L:Array Bool)(a:kZ)(w:aF)(rs:List Nat):Prop:=
 ∀i∈rs,CO md cR (L.setIfInBounds i true)→wpOp P cR Q i (fun a' w'=>(st (L.setIfInBounds i true)=false→S w')∧rH P md cR Q st S fuel (L.setIfInBounds i true) a' w') a w
theorem rZ.nil{fuel:Nat}{L:Array Bool}{a:kZ}{w:aF}:rZ P md cR Q st S fuel L a w []:=fun _ h=>by cases h
theorem rZ.cons{fuel:Nat}{L:Array Bool}{a:kZ}{w:aF}{i:Nat}{o:gL}{rs:List Nat}(ho:cR[i]? =some o)
 (h:CO md cR (L.setIfInBounds i true)→∀K':kZ→aF→Prop,bH (∀a w,(st (L.setIfInBounds i true)=false→S w)→rH P md cR Q st S fuel (L.setIfInBounds i true) a w→K' a w)→if eT o (yielded cR a.tmps)=true then ir P o a w K' Q else K' (a.put o.dst aP) w)
 (hs:rZ P md cR Q st S fuel L a w rs):rZ P md cR Q st S fuel L a w (i::rs):=fun j hj hL=>by
 rcases List.mem_cons.1 hj with rfl|hj
 ·unfold wpOp
  simp only[ho]
  have:=h hL (fun a' w'=>(st (L.setIfInBounds j true)=false→S w')∧rH P md cR Q st S fuel (L.setIfInBounds j true) a' w') (fun a w h1 h2=>⟨h1,h2⟩)
  split
  ·rename_i hw;rw[ip hw]at this;exact .inl this
  ·rename_i hw;rw[iN hw]at this;exact this
 ·exact hs j hj hL
theorem iS{rs:List Nat}{fuel:Nat}{L:Array Bool}{a:kZ}{w:aF}(hr:cV md cR L=rs)(jC:rs≠[])(hL:CO md cR L)
 (h:rZ P md cR Q st S fuel L a w rs):rH P md cR Q st S (fuel+1) L a w:=Wx hr jC fun i hi=>h i hi (hL.set (by rw[hr];exact hi))
theorem To{id:Nat}{a:kZ}{w:aF}(hm:P.follows .mixedOrders=true)
 (h:rH P .any cR Q st S cR.size (fY cR.size false) a {w with drawn:=w.drawn+1}):(oF id cR true).wp P Q a w:=
 wp_region_any hm (LW _ _ _ _ h)
theorem IU{id:Nat}{a:kZ}{w:aF}(hm:P.follows .mixedOrders=true)(hS:S w.drew)
 (h:CO .any cR (fY cR.size false)→S w.drew→rH P .any cR Q st S cR.size (fY cR.size false) a w.drew):(oF id cR true).wp P Q a w:=
 To hm (h (CO.none _) hS)
end
end
section
open Go Go.RowKit Go.Lib
section
attribute[local go_sem] dW
theorem Ih.below{W W':aF}{G:Nat}{xs ys:aS}(h:Ih W G xs ys)(hb:Below W.heap.size W W'):Ih W' G xs ys:=by
 obtain⟨m2,m3,m4,h0,⟨c2,h2⟩,⟨c3,h3⟩,⟨c4,h4⟩⟩:=h;exact⟨m2,m3,m4,h0.below hb h0.lt,⟨c2,(hb.block m2 (Array.getElem?_eq_some_iff.1 h2).1).trans h2⟩,⟨c3,(hb.block m3 (Array.getElem?_eq_some_iff.1 h3).1).trans h3⟩,⟨c4,(hb.block m4 (Array.getElem?_eq_some_iff.1 h4).1).trans h4⟩⟩
theorem bg(Bg Bw G:Nat)(xs ys:aS)(x y d dx dy:Int)(w:aF)(hg:Ih w G xs ys)(hb:bT w Bg #[bA (some ⟨G,0,none⟩)] 83)(hw:bT w Bw #[aD aE x,aD aE y,aD aE d] 153):
 aW aC 178 #[cN #[aD aE dx,aD aE dy],bA (some ⟨Bg,0,none⟩),bA (some ⟨Bw,0,none⟩)] w (Rt (aN false) w):=by
 have fA:=(aH w.heap.size w).alloc (aG _) (aJ #[aD aE dx,aD aE dy] 151);obtain⟨m2,m3,m4,h0,-,-,⟨c4,h4⟩⟩:=hg.below fA;have b1:=(hb.below fA hb.lt).cell 0;obtain⟨w0,w1,w2⟩:=(hw.below fA hw.lt).three;have g4:=h0.cell 4;obtain⟨e0,e1,-,-,lT⟩:=(bT.new w #[aD aE dx,aD aE dy] 151).two;have gY:=zq fA;clear hg hb hw fA h0;obtain⟨W0,eQ⟩:∃W,w.alloc (aJ #[aD aE dx,aD aE dy] 151)=W:=⟨_,rfl⟩;rw[eQ]at gY e0 e1 lT b1 w0 w1 w2 g4 h4;have HL:=fun n p q=>look_sb (w:=W0.drewN n) h4 p q;simp only[aL,aI,bM]at b1 g4;go_enter func178,ntmps178;go_upto_region 1 with(fail)
 try rw[eQ]
 clear eQ h4;go_quiet (fail)
 go_wp2;go_ret;exact⟨rfl,by first |exact gY.out|exact below_drewN gY.out _⟩
theorem ix_l0(W:aF):gN aC (mQ 231 (cN #[aD aE 0,aD aE 0,aD aE (-1),aD aE 0,aD aE (-1),aD aE (-1),aD aE 0,aD aE (-1)]) (aD aE 0)) W=.ok (cN #[aD aE 0,aD aE 0]) W:=by first |kernel_rfl|rfl
theorem ix_r0(W:aF):gN aC (mQ 231 (cN #[aD aE 0,aD aE (-1),aD aE 0,aD aE 0,aD aE (-1),aD aE 0,aD aE (-1),aD aE (-1)]) (aD aE 0)) W=.ok (cN #[aD aE 0,aD aE (-1)]) W:=by first |kernel_rfl|rfl
theorem ix_l1(W:aF):gN aC (mQ 231 (cN #[aD aE 0,aD aE 0,aD aE (-1),aD aE 0,aD aE (-1),aD aE (-1),aD aE 0,aD aE (-1)]) (aD aE 1)) W=.ok (cN #[aD aE (-1),aD aE 0]) W:=by first |kernel_rfl|rfl
theorem ix_r1(W:aF):gN aC (mQ 231 (cN #[aD aE 0,aD aE (-1),aD aE 0,aD aE 0,aD aE (-1),aD aE 0,aD aE (-1),aD aE (-1)]) (aD aE 1)) W=.ok (cN #[aD aE 0,aD aE 0]) W:=by first |kernel_rfl|rfl
theorem ix_l2(W:aF):gN aC (mQ 231 (cN #[aD aE 0,aD aE 0,aD aE (-1),aD aE 0,aD aE (-1),aD aE (-1),aD aE 0,aD aE (-1)]) (aD aE 2)) W=.ok (cN #[aD aE (-1),aD aE (-1)]) W:=by first |kernel_rfl|rfl
theorem ix_r2(W:aF):gN aC (mQ 231 (cN #[aD aE 0,aD aE (-1),aD aE 0,aD aE 0,aD aE (-1),aD aE 0,aD aE (-1),aD aE (-1)]) (aD aE 2)) W=.ok (cN #[aD aE (-1),aD aE 0]) W:=by first |kernel_rfl|rfl
theorem ix_l3(W:aF):gN aC (mQ 231 (cN #[aD aE 0,aD aE 0,aD aE (-1),aD aE 0,aD aE (-1),aD aE (-1),aD aE 0,aD aE (-1)]) (aD aE 3)) W=.ok (cN #[aD aE 0,aD aE (-1)]) W:=by first |kernel_rfl|rfl
theorem ix_r3(W:aF):gN aC (mQ 231 (cN #[aD aE 0,aD aE (-1),aD aE 0,aD aE 0,aD aE (-1),aD aE 0,aD aE (-1),aD aE (-1)]) (aD aE 3)) W=.ok (cN #[aD aE (-1),aD aE (-1)]) W:=by first |kernel_rfl|rfl
theorem By(G:Nat)(xs ys:aS)(d l1 l2 r1 r2:Int)(w:aF)(hg:Ih w G xs ys)
 (q1:∀W,gN aC (mQ 231 (cN #[aD aE 0,aD aE 0,aD aE (-1),aD aE 0,aD aE (-1),aD aE (-1),aD aE 0,aD aE (-1)]) (aD aE d)) W=.ok (cN #[aD aE l1,aD aE l2]) W)
 (q2:∀W,gN aC (mQ 231 (cN #[aD aE 0,aD aE (-1),aD aE 0,aD aE 0,aD aE (-1),aD aE 0,aD aE (-1),aD aE (-1)]) (aD aE d)) W=.ok (cN #[aD aE r1,aD aE r2]) W):
 aW aC 101 #[bA (some ⟨G,0,none⟩),cN #[aD aE 0,aD aE 0,aD aE d]] w (Rt (aN false) w):=by
 have fA:=((aH w.heap.size w).alloc (aG _) (aJ #[bA (some ⟨G,0,none⟩)] 83)).alloc (by simp) (aJ #[aD aE 0,aD aE 0,aD aE d] 153);have hb0:=(bT.new w #[bA (some ⟨G,0,none⟩)] 83).alloc (aJ #[aD aE 0,aD aE 0,aD aE d] 153);have jr:=bT.new (w.alloc (aJ #[bA (some ⟨G,0,none⟩)] 83)) #[aD aE 0,aD aE 0,aD aE d] 153;rw[bB]at jr;obtain⟨W0,eQ⟩:∃W,(w.alloc (aJ #[bA (some ⟨G,0,none⟩)] 83)).alloc (aJ #[aD aE 0,aD aE 0,aD aE d] 153)=W:=⟨_,rfl⟩;rw[eQ]at fA hb0 jr;have HI:bH (∀dx dy W,Below W0.heap.size W0 W→aW aC 178 #[cN #[aD aE dx,aD aE dy],bA (some ⟨w.heap.size,0,none⟩),bA (some ⟨w.heap.size+1,0,none⟩)] W (Rt (aN false) W)):=fun dx dy W h=>
  bg _ _ G xs ys 0 0 d dx dy W ((hg.below fA).below h) (hb0.below h hb0.lt) (jr.below h jr.lt)
 have gY:=zq fA;obtain⟨w0,w1,w2⟩:=jr.three;have lT:=jr.lt;clear hg fA hb0 jr;go_enter func101,ntmps101;go_upto_if 8 with(fail);try rw[eQ]
 clear eQ;go_wp2_with fail
 (with_reducible refine(HI.out _ _ _ (((aH _ W0).alloc (aG _) _).alloc (by simp) _)).mono ?_);rintro e W1⟨rfl,hb1⟩;have eW:=zq (aU gY.out ((((aH _ W0).alloc (aG _) _).alloc (by simp) _).trans (hb1.mono (by simp;omega))));clear hb1;go_wp2;go_ret;exact⟨rfl,eW.out⟩
theorem Tp(G:Nat)(xs ys:aS)(d:Nat)(hd:d<4)(w:aF)(hg:Ih w G xs ys):
 aW aC 101 #[bA (some ⟨G,0,none⟩),cN #[aD aE 0,aD aE 0,aD aE d]] w (Rt (aN false) w):=
 match d,hd with
 |0,_=>By G xs ys 0 _ _ _ _ w hg ix_l0 ix_r0
 |1,_=>By G xs ys 1 _ _ _ _ w hg ix_l1 ix_r1
 |2,_=>By G xs ys 2 _ _ _ _ w hg ix_l2 ix_r2
 |3,_=>By G xs ys 3 _ _ _ _ w hg ix_l3 ix_r3
end
theorem te{α:Type}{l:List α}{i j:Nat}(hi:i<l.length)(hj:j<l.length)(z:α):z∈(l.set i l[j]).set j l[i]↔z∈l:=by
 constructor
 ·intro h;obtain⟨k,hk,e⟩:=eU h;rw[fP,fP]at hk;rw[zu]at e;split at e
  ·rw[←e];exact Cc hi
  ·rw[zu]at e;split at e
   ·rw[←e];exact Cc hj
   ·rw[←e];exact Cc hk
 ·intro h;obtain⟨k,hk,e⟩:=eU h;by_cases k1:j=k
  ·subst k1;by_cases k2:i=j
   ·subst k2;refine List.mem_iff_getElem.2 ⟨i,by rw[fP,fP];exact hk,?_⟩;rw[Di];exact e
   ·refine List.mem_iff_getElem.2 ⟨i,by rw[fP,fP];exact hi,?_⟩;rw[Fv (fun h=>k2 h.symm),Di];exact e
  ·by_cases k2:i=k
   ·subst k2;refine List.mem_iff_getElem.2 ⟨j,by rw[fP,fP];exact hj,?_⟩;rw[Di];exact e
   ·refine List.mem_iff_getElem.2 ⟨k,by rw[fP,fP];exact hk,?_⟩;rw[Fv k1,Fv k2];exact e
theorem Tq(ds:List (List UInt8))(i:Nat)(x:List UInt8):(jS ds).set i (aA (bs x))=jS (ds.set i x):=by
 unfold jS;rw[List.map_set]
def kS (base g n cap:Nat) (ds:List (List UInt8)) (w W:aF):Prop:=
 ∃ ds' :List (List UInt8),ds'.length=n∧(∀ z,z∈ds' ↔z∈ds)∧W.ownsRow base 27 1 (aB (some ⟨g,0,none⟩) n cap) n (jS ds')∧w.grownBy W (some g)
theorem Bz{w W W':aF}{lM:Option Nat}(h:w.grownBy W lM)(hb:Below W.heap.size W W'):w.grownBy W' lM:=
 ⟨hb.os.trans h.os,hb.tape.trans h.tape,hb.output.trans h.output,bE h.size hb.size,fun k hk hn=>(hb.block k (bL hk h.size)).trans (h.block k hk hn)⟩
theorem LX{a b c:aF}{lM:Option Nat}(h:a.grownBy b lM)(k:b.grownBy c lM):a.grownBy c lM:=
 ⟨k.os.trans h.os,k.tape.trans h.tape,k.output.trans h.output,bE h.size k.size,fun i hi hn=>(k.block i (bL hi h.size) hn).trans (h.block i hi hn)⟩
theorem Wz(a:aF)(lM:Option Nat):a.grownBy a lM:=⟨rfl,rfl,rfl,aG _,fun _ _ _=>rfl⟩
theorem kS.below{base g n cap:Nat}{ds:List (List UInt8)}{w W W':aF}(h:kS base g n cap ds w W)(hb:Below W.heap.size W W'):kS base g n cap ds w W':=by
 obtain⟨ds',h1,h2,h3,h4⟩:=h;exact⟨ds',h1,h2,dI h3 hb,Bz h4 hb⟩
theorem kS.swap{base g n cap:Nat}{ds ds':List (List UInt8)}{w W:aF}(h1:ds'.length=n)(h2:∀z,z∈ds'↔z∈ds)(h3:W.ownsRow base 27 1 (aB (some ⟨g,0,none⟩) n cap) n (jS ds'))(h4:w.grownBy W (some g))
 {i j:Nat}(hi:i<n)(hj:j<n){x y:List UInt8}(hx:ds'.getD i []=x)(hy:ds'.getD j []=y):
 kS base g n cap ds w ((W.setCell ⟨g,i,none⟩ (aA (bs y))).setCell ⟨g,j,none⟩ (aA (bs x))):=by
 have rm:i<ds'.length:=by omega
 have hj':j<ds'.length:=by omega
 have ex:ds'[i]=x:=by rw[←hx];simp[aO,rm]
 have ey:ds'[j]=y:=by rw[←hy];simp[aO,hj']
 obtain⟨k1,k2⟩:=h3.stored i (aA (bs y));obtain⟨k3,k4⟩:=k1.stored j (aA (bs x));rw[Tq,Tq]at k3;refine⟨(ds'.set i y).set j x,by rw[fP,fP];exact h1,fun z=>?_,k3,LX (LX h4 k2) k4⟩;rw[←ex,←ey,te rm hj'];exact h2 z
theorem tf(cf:Nat)(eg:∀args w,(callFunc cf args).run aC w=.ok (.enter cf args) w)(hcf:∀(x y:List UInt8)(W:aF),iM W→x.length≤8000000→y.length≤8000000→aW aC cf #[aA (bs x),aA (bs y)] W fun e w'=>(∃c:Int,e=aQ (aD aE c))∧Below W.heap.size W w')
 (base g n cap:Nat)(ds:List (List UInt8))(w0 w:aF)(hE:iM w0)(hB:Below w0.heap.size w0 w)(hb:w0.heap.size≤base)(hn:n≤1000)(hl:ds.length=n)(hs:∀s∈ds,s.length≤8000000)
 (hown:w.ownsRow base 27 1 (aB (some ⟨g,0,none⟩) n cap) n (jS ds)):
 aW aC 244 #[aB (some ⟨g,0,none⟩) n cap,aD aE 0,aD aE n,.func (.func cf) #[] #[]] w fun e w'=>(∃v,e=aQ v)∧kS base g n cap ds w w':=by
 have hcapn:=gG hown;have HC:bH (∀W,kS base g n cap ds w W→∀x y:List UInt8,x∈ds→y∈ds→∀W2,Below W.heap.size W W2→aW aC cf #[aA (bs x),aA (bs y)] W2 fun e w'=>(∃c:Int,e=aQ (aD aE c))∧Below W2.heap.size W2 w'):=by
  rintro W⟨ds',-,-,-,h4⟩x y hx hy W2 h2;have hE2:iM W2:=hE.below ((hB.grown h4 hB.size (fun k e=>by cases e;exact bE hb hcapn.1)).trans (h2.mono (bE hB.size h4.size)));exact hcf x y W2 hE2 (hs x hx) (hs y hy)
 have H0:bH (kS base g n cap ds w w):=⟨ds,hl,fun _=>Iff.rfl,hown,Wz _ _⟩;obtain⟨-,hglt,hnc,jq⟩:=hcapn;unfold maxLen at jq;clear hE hB hb hl hs hown hglt hcf;go_enter func244,ntmps244;go_wp2;go_loopw[8] (fun i wr=>∃k:Nat,i=aD aE k∧1≤k∧(k=1∨k≤n)∧bH (kS base g n cap ds w wr)) (fun i _=>n-(aK i).toNat);case atStart=>exact⟨1,rfl,by omega,.inl rfl,H0.out⟩
 case round=>
  clear H0;obtain⟨k,rfl,Yh,hk2,HS⟩:=hrel;by_cases hlt:k<n
  ·go_wp2;go_loopw[9] (fun a W=>∃j:Nat,a=aD aE j∧j≤k∧bH (kS base g n cap ds w W)) (fun a _=>(aK a).toNat);case atStart=>exact⟨k,rfl,aG _,HS.out⟩
   case round=>
    clear HS;obtain⟨j,rfl,hj,HS⟩:=hrel;by_cases hj0:0<j
    ·obtain⟨q,hq⟩:∃q,j=q+1:=⟨j-1,by omega⟩;obtain⟨ds',k1,k2,k3,k4⟩:=HS.out;have lx:j<ds'.length:=by omega
     have ly:q<ds'.length:=by omega
     have cx:wr.cell? ⟨g,j,none⟩=some (aA (bs (ds'.getD j []))):=by
      rw[eX k3 j (by omega)];simp[jS,aO,lx]
     have cy:wr.cell? ⟨g,q,none⟩=some (aA (bs (ds'.getD q []))):=by
      rw[eX k3 q (by omega)];simp[jS,aO,ly]
     have If:=zq (HC.out wr HS.out (ds'.getD j []) (ds'.getD q []) ((k2 _).1 (eB lx [])) ((k2 _).1 (eB ly [])));have HSw:bH (∀W',Below wr.heap.size wr W'→kS base g n cap ds w ((W'.setCell ⟨g,j,none⟩ (aA (bs (ds'.getD q [])))).setCell ⟨g,q,none⟩ (aA (bs (ds'.getD j []))))):=fun W' h=>
      kS.swap k1 k2 (dI k3 h) (Bz k4 h) (by omega) (by omega) rfl rfl
     have HSw2:bH (∀W',Below wr.heap.size wr W'→kS base g n cap ds w ((W'.setCell ⟨g,q,none⟩ (aA (bs (ds'.getD j [])))).setCell ⟨g,j,none⟩ (aA (bs (ds'.getD q []))))):=fun W' h=>
      kS.swap k1 k2 (dI k3 h) (Bz k4 h) (by omega) (by omega) rfl rfl
     have HFz:bH (∀W',Below wr.heap.size wr W'→W'.frozen? ⟨g,j,none⟩=false∧W'.frozen? ⟨g,q,none⟩=false):=fun W' h=>
      ⟨fN (dI k3 h) j,fN (dI k3 h) q⟩
     clear lx ly k1 k2 k3 k4;generalize bs (ds'.getD j [])=X at *;generalize bs (ds'.getD q [])=Y at *;have e1:(j:Int)-1=(q:Int):=by omega
     have s1:IntKind.i64.wrap ((j:Int)-1)=(q:Int):=by rw[e1];exact aX _ (by omega)
     have b1:(j:Int)<(n:Int):=by omega
     have b2:(q:Int)<(n:Int):=by omega
     have b3:decide ((0:Int)<(j:Int))=true:=decide_eq_true (by omega);have b4:(0:Int)≤(j:Int):=by omega
     have b5:(0:Int)≤(q:Int):=by omega
     have E1:=zq e1;have Hq:=zq hq;have jC:¬j=q:=by omega
     clear e1 hq;go_wp2;go_cut[34] (fun v W=>(∃b:Bool,v=aN b)∧bH (Below wr.heap.size wr W));case first =>
      go_region_held3 (fun w'=>w'.cell? ⟨g,j,none⟩=some (aA X)∧w'.cell? ⟨g,q,none⟩=some (aA Y)) (go_keep)
       (((with_reducible refine(If.out _ (aH _ wr).drew).mono ?_);rintro e w1 ⟨⟨c,rfl⟩,hb1⟩;have hBo:=zq (aU (aH _ wr).drew hb1);have m0:=cF hb1 (p:=⟨g,j,none⟩) (v:=aA X) (by simp[*]);have m1:=cF hb1 (p:=⟨g,q,none⟩) (v:=aA Y) (by simp[*])))
      all_goals
       go_wp2;go_meet;case rel=>exact⟨⟨_,rfl⟩,hBo.out⟩
     case rest=>
     obtain⟨⟨b,rfl⟩,HBo⟩:=hcut;rename aF=>W3;have x1:=cF HBo.out cx;have y1:=cF HBo.out cy;obtain⟨z1,z2⟩:=HFz.out _ HBo.out;have HS3:=zq (HS.out.below HBo.out);clear cx cy If;have HSf:bH (kS base g n cap ds w ((W3.setCell ⟨g,j,none⟩ (aA Y)).setCell ⟨g,q,none⟩ (aA X)).drew):=(HSw.out _ HBo.out).below (aH _ _).drew;cases b with
     |true=>
      go_wp2;go_region;all_goals
       go_wp2;go_roundw;case rel=>exact⟨q,rfl,by have:=Hq.out;omega,HSf.out⟩
       case measure=>have:=Hq.out;simp only[aK];omega
     |false=>
      clear s1;go_wp2;go_roundw;case rel=>exact⟨k+1,by go_num,by omega,by omega,HS3.out⟩
      case measure=>simp only[aK];omega
    ·obtain rfl:j=0:=by omega
     have b3:decide ((0:Int)<((0:Nat):Int))=false:=rfl;have HS3:=zq (HS.out.below (aH _ wr).drew);go_wp2;refine wp_region_held_drew (S:=(fun _=>True)) (by kernel_rfl) ?_ (fun rR=>?_)
     ·trivial
     refine tH 0 rfl ?_;refine tH 1 rfl ?_;refine tH 2 rfl ?_;refine tH 3 rfl ?_;refine sH 4 rfl ?_;refine sH 5 rfl ?_;refine sH 6 rfl ?_;refine sH 7 rfl ?_;refine sH 8 rfl ?_;refine sH 9 rfl ?_;refine sH 10 rfl ?_;refine sH 11 rfl ?_;refine sH 12 rfl ?_;refine sH 13 rfl ?_;refine sH 14 rfl ?_;refine sH 15 rfl ?_;refine tH 16 rfl ?_;try simp only[dK,bD,aY,aZ,aM,aV,bC]
     refine wpAnyH_done (by kernel_rfl) ?_ _;go_wp2;go_roundw;case rel=>exact⟨k+1,by go_num,by omega,by omega,HS3.out⟩
     case measure=>simp only[aK];omega
  ·go_wp2;go_end0;exact⟨⟨_,rfl⟩,HS.out⟩
theorem WC(n:Nat)(hn:n≤5)(w:aF):aW aC 253 #[aD .u64 n] w fun e w'=>(∃c:Int,e=aQ (aD aE c))∧w=w':=by
 have h:n=0∨n=1∨n=2∨n=3∨n=4∨n=5:=by omega
 clear hn;rcases h with rfl|rfl|rfl|rfl|rfl|rfl;all_goals
  go_enter func253,ntmps253;go_wp2;go_ret;exact⟨⟨_,rfl⟩,rfl⟩
theorem Tr(n:Nat)(hn:n≤5)(w:aF):aW aC 173 #[aD .u64 n] w fun e w'=>(∃c:Int,e=aQ (aD aE c))∧w=w':=by
 have H:=zq (WC n hn w);have h0:(0:Int)≤(n:Int):=by omega
 have h1:(n:Int)≤5:=by omega
 clear hn;go_enter func173,ntmps173;go_wp2_with fail
 refine H.out.mono ?_;rintro e w'⟨⟨c,rfl⟩,rfl⟩;go_wp2;go_ret;exact⟨⟨_,rfl⟩,rfl⟩
theorem bh(base g n cap:Nat)(c:Int)(ds:List (List UInt8))(f:aS)(w:aF)(hn:n≤5)
 (hins:aW aC 244 #[aB (some ⟨g,0,none⟩) n cap,aD aE 0,aD aE n,f] w fun e w'=>(∃v,e=aQ v)∧kS base g n cap ds w w'):
 aW aC 172 #[aB (some ⟨g,0,none⟩) n cap,aD aE 0,aD aE n,aD aE c,f] w fun e w'=>(∃v,e=aQ v)∧kS base g n cap ds w w':=by
 have H:=zq hins;have h1:(n:Int)≤12:=by omega
 clear hins hn;go_enter func172,ntmps172;go_wp2;go_loop [1,2] (fun a b=>a=aD aE 0∧b=aD aE n) (fun _ _=>0);case atStart=>exact⟨rfl,rfl⟩
 case round=>
  obtain⟨rfl,rfl⟩:=hrel;go_wp2_with fail
  refine H.out.mono ?_;rintro e w'⟨⟨v,rfl⟩,hs⟩;have HS:=zq hs;clear hs;go_wp2;refine cI (tE rfl _ _ _) rfl ?_;exact⟨⟨_,rfl⟩,HS.out⟩
theorem LY(cf:Nat)(eg:∀args w,(callFunc cf args).run aC w=.ok (.enter cf args) w)(hcf:∀(x y:List UInt8)(W:aF),iM W→x.length≤8000000→y.length≤8000000→aW aC cf #[aA (bs x),aA (bs y)] W fun e w'=>(∃c:Int,e=aQ (aD aE c))∧Below W.heap.size W w')
 (base g n cap:Nat)(ds:List (List UInt8))(w0 w:aF)(hE:iM w0)(hB:Below w0.heap.size w0 w)(hb:w0.heap.size≤base)(hn:n≤5)(hl:ds.length=n)(hs:∀s∈ds,s.length≤8000000)
 (hown:w.ownsRow base 27 1 (aB (some ⟨g,0,none⟩) n cap) n (jS ds)):
 aW aC 96 #[aB (some ⟨g,0,none⟩) n cap,.func (.func cf) #[] #[]] w fun e w'=>(∃v,e=aQ v)∧kS base g n cap ds w w':=by
 have H:=zq (fun c=>bh base g n cap c ds _ w hn (tf cf eg hcf base g n cap ds w0 w hE hB hb (by omega) hl hs hown));have HL:=zq (Tr n hn w);have h0:(0:Int)≤(n:Int):=by omega
 have h1:(n:Int)≤5:=by omega
 clear hE hB hb hn hl hs hown;go_enter func96,ntmps96;go_wp2_with fail
 refine HL.out.mono ?_;rintro e w'⟨⟨c,rfl⟩,rfl⟩;go_wp2_with fail
 refine(H.out _).mono ?_;rintro e w'⟨⟨v,rfl⟩,hs⟩;have HS:=zq hs;clear hs;go_wp2;go_end0;exact⟨⟨_,rfl⟩,HS.out⟩
theorem bi(base g n cap:Nat)(ds:List (List UInt8))(w0 w:aF)(hE:iM w0)(hB:Below w0.heap.size w0 w)(hb:w0.heap.size≤base)(hn:n≤5)(hl:ds.length=n)(hs:∀s∈ds,s.length≤8000000)
 (hown:w.ownsRow base 27 1 (aB (some ⟨g,0,none⟩) n cap) n (jS ds)):
 aW aC 96 #[aB (some ⟨g,0,none⟩) n cap,.func (.func 105) #[] #[]] w fun e w'=>(∃v,e=aQ v)∧kS base g n cap ds w w':=
 LY 105 (nH func105 (by kernel_rfl) rfl) (fun x y W hE hx hy=>by
  refine(LD (bs x) (bs y) W hE (by rw[cZ];exact hx) (by rw[cZ];exact hy)).mono ?_
  rintro e w'⟨h1,h2⟩
  exact⟨⟨_,h1⟩,h2⟩) base g n cap ds w0 w hE hB hb hn hl hs hown
end
section
open Go.Shelf
def Tryz.cmK_ren:iK:=⟨fun |43=>97|n=>n,fun |22=>54|23=>27|3=>3|4=>4|0=>0|n=>n,fun |n=>n⟩
theorem Tryz.cmK:Go.Proofs.SlLaysE.n43 aC Tryz.cmK_ren:={
 mixed:=by kernel_rfl
 f43:=⟨Tryz.f97.name,by decide,func97.trans (congrArg some (by kernel_rfl))⟩
 t0:=underlying0
 a0:=isAgg0
 z0:=sizeOf0
 v0:=zeroValue0
 t3:=underlying3
 a3:=isAgg3
 z3:=sizeOf3
 v3:=zeroValue3
 t4:=underlying4
 a4:=isAgg4
 z4:=sizeOf4
 v4:=zeroValue4
 t22:=mh
 a22:=isAgg54
 z22:=sizeOf54
 v22:=zeroValue54
 a23:=isAgg27
 z23:=sizeOf27}
open Go Go.RowKit Go.Lib Go.Sort Go.Shelf
theorem Ts(ds:List (List UInt8)):∀z,z∈uT ds.toArray ds.length↔z∈ds:=by
 intro z;have hg:∀j,j<ds.length→ds.toArray[j]! =ds.getD j []:=fun j hj=>by simp[aO,hj]
 unfold uT;constructor
 ·intro h;obtain⟨j,hj,rfl⟩:=List.mem_map.1 h;have hj:=List.mem_range.1 (List.mem_filter.1 hj).1;rw[hg j hj];exact eB hj []
 ·intro h;obtain⟨j,hj,rfl⟩:=eU h;have:∀k j,j<ds.length→j≤k→ds.getD j []∈List.map (fun x=>ds.toArray[x]!) (List.filter (keeps ds.toArray) (vN ds.length)):=by
   intro k;induction k with
   |zero=>
    intro j hj h0;obtain rfl:j=0:=by omega
    refine List.mem_map.2 ⟨0,List.mem_filter.2 ⟨List.mem_range.2 hj,?_⟩,hg 0 hj⟩;simp[keeps]
   |succ k ih=>
    intro j hj hk;by_cases hkp:keeps ds.toArray j=true
    ·exact List.mem_map.2 ⟨j,List.mem_filter.2 ⟨List.mem_range.2 hj,hkp⟩,hg j hj⟩
    ·unfold keeps at hkp;rw[decide_eq_true_eq]at hkp;have h0:j≠0:=fun e=>hkp (.inl e);have he:ds.toArray[j]! =ds.toArray[j-1]! :=vD fun e=>hkp (.inr e);rw[hg j hj,hg (j-1) (by omega)]at he;rw[he];exact ih (j-1) (by omega) (by omega)
  have:=this j j hj (aG _);rwa[show ds.getD j []=ds[j] by simp[aO,hj]]at this
def CmpRet(g n cap:Nat)(ds:List (List UInt8))(w:aF)(e:Ending)(w':aF):Prop:=
 ∃(m:Nat)(L:List (List UInt8)),e=aQ (aB (some ⟨g,0,none⟩) m cap)∧L.length=m∧m≤n∧(∀z,z∈L↔z∈ds)∧LC w' (some ⟨g,0,none⟩) (jS L)∧w.grownBy w' (some g)
theorem LZ (base g n cap:Nat) (ds:List (List UInt8)) (w:aF) (hn:n≤1000) (hl:ds.length=n)
 (hown:w.ownsRow base 27 1 (aB (some ⟨g,0,none⟩) n cap) n (jS ds)) :
 aW aC 97 #[aB (some ⟨g,0,none⟩) n cap] w fun e w' => ∃ L:List (List UInt8),L=uT ds.toArray n∧e=aQ (aB (some ⟨g,0,none⟩) L.length cap)∧L.length≤n∧(∀ z,z∈L↔z∈ds)∧LC w' (some ⟨g,0,none⟩) (jS L)∧w.grownBy w' (some g):=by
 obtain⟨-,hglt,hnc, -⟩:=gG hown;have hH:Holds (fun l:List UInt8=> aA (bs l)) w g 0 ds.toArray:=by
  intro j hj;have hj:j < ds.length:=by simpa using hj
  rw [dZ];refine⟨?_,fN hown j⟩;rw [eX hown j (by omega)];simp [jS,hj]
 have VK:EqlAt aC 27 (fun l:List UInt8=> aA (bs l)) (fun x y=> decide (x=y)):=by
  refine⟨fun x y w=> ?_,fun op a b x y w=> (EqlAt.string aC 27).2 op a b (bs x) (bs y) w⟩;rw [(EqlAt.string aC 27).1 (bs x) (bs y) w];simp only [cJ,bP];congr 2;rw [DG];simp
 have jC:NeqAt aC 27 (fun l:List UInt8=> aA (bs l)) (fun x y=> decide (x=y)):=by
  refine⟨fun x y w=> ?_,VK.2⟩;rw [(NeqAt.string aC 27).1 (bs x) (bs y) w];simp only [cJ,bP];congr 3;rw [DG];simp
 have H:=AnyE.slices_Compact Tryz.cmK (fun l:List UInt8=> aA (bs l)) (fun _=> rfl) VK jC [] (fun w=> by kernel_rfl) g 0 cap ds.toArray w hH (by simp;omega) (by simp;omega);have DM:ds.toArray.size=n:=by simp [hl]
 rw [DM] at H;refine Calls.mono H ?_;rintro e w' ⟨rfl,q,rfl⟩;have hm:=Ts ds;rw [hl] at hm;have kK:(uT ds.toArray n).length≤n:=by
  unfold uT;rw [cO];exact bE (List.length_filter_le _ _) (by simp)
 generalize uT ds.toArray n=L at *;refine⟨L,rfl,rfl,kK,hm, ?_, ?_⟩
 ·intro i hi;rw [Gx] at hi;have hh:=holds_putRow (fun l:List UInt8=> aA (bs l)) (Sort.ahead w q) g 0 ds.toArray (L ++ bV (n - L.length) []).toArray (holds_ahead _ w q g 0 _ hH) (by simp;omega);obtain⟨h1, -⟩:=hh i (by simp;omega);refine⟨g,0,rfl, ?_⟩;rw [h1,Av L hi];have:(L ++ bV (n - L.length) [])[i]? =some L[i]:=by rw [List.getElem?_append_left hi];simp [hi]
  simp [aO,hi,this]
 ·refine⟨rfl,rfl,rfl,by simp [putRow,mapBlock,Sort.ahead],fun k _ hk=> ?_⟩;show(Array.modify w.heap g _)[k]? =_;rw [Array.getElem?_modify,iN (fun e=> hk (by rw [e]))]
theorem Qe(base g n cap:Nat)(ds:List (List UInt8))(w:aF)(hn:n≤1000)(hl:ds.length=n)
 (hown:w.ownsRow base 27 1 (aB (some ⟨g,0,none⟩) n cap) n (jS ds)):
 aW aC 97 #[aB (some ⟨g,0,none⟩) n cap] w (CmpRet g n cap ds w):=by
 refine(LZ base g n cap ds w hn hl hown).mono ?_;rintro e w'⟨L,-,he,h1,h2,h3,h4⟩;exact⟨L.length,L,he,rfl,h1,h2,h3,h4⟩
end
section
open Go Go.RowKit Go.Lib
theorem kC{W:aF}{b base e size n:Nat}{cs:Array aS}{T:eC}{v:aS}{xs:List aS}(hb:bT W b cs T)(h:W.ownsRow base e size v n xs)(jC:T≠e):some b≠v.ownBlock:=by
 rcases h.2 with⟨h,_⟩|⟨g,c,yU,h,_,k,_⟩
 ·rw[h];simp[tF]
 ·rw[h];intro e;have e:b=g:=by simpa[tF]using e
  subst e;have Ch:W.heap[b]? =some (aJ cs T (0,0)):=hb;rw[Ch]at k;cases k;exact jC rfl
theorem nE{W W':aF}{b:Nat}{cs:Array aS}{T:eC}(h:bT W b cs T){lM:Option Nat}(hg:W.grownBy W' lM)(jC:some b≠lM):bT W' b cs T:=(hg.block b h.lt jC).trans h
theorem Ih.grown{W W':aF}{G:Nat}{xs ys:aS}(h:Ih W G xs ys){base e size n:Nat}{v:aS}{us:List aS}(ho:W.ownsRow base e size v n us)(jC:140≠e)(hg:W.grownBy W' v.ownBlock):Ih W' G xs ys:=by
 obtain⟨m2,m3,m4,h0,⟨c2,h2⟩,⟨c3,h3⟩,⟨c4,h4⟩⟩:=h;have mk:∀m c,W.heap[m]? =some (zv #[] c)→W'.heap[m]? =some (zv #[] c):=fun m c hm=>by
  refine(hg.block m (Array.getElem?_eq_some_iff.1 hm).1 ?_).trans hm;rcases ho.2 with⟨h,_⟩|⟨g,c',yU,h,_,k,_⟩
  ·rw[h];simp[tF]
  ·rw[h];intro e;have e:m=g:=by simpa[tF]using e
   subst e;rw[hm]at k;cases k
 exact⟨m2,m3,m4,nE h0 hg (kC h0 ho jC),⟨c2,mk _ _ h2⟩,⟨c3,mk _ _ h3⟩,⟨c4,mk _ _ h4⟩⟩
theorem Ih.set{W:aF}{G:Nat}{xs ys:aS}(h:Ih W G xs ys)(v:aS):Ih (W.setCell ⟨G,0,none⟩ v) G v ys∧Ih (W.setCell ⟨G,1,none⟩ v) G xs v:=by
 obtain⟨m2,m3,m4,h0,⟨c2,h2⟩,⟨c3,h3⟩,⟨c4,h4⟩⟩:=h;have mk:∀j m c,W.heap[m]? =some (zv #[] c)→(W.setCell ⟨G,j,none⟩ v).heap[m]? =some (zv #[] c):=fun j m c hm=>by
  rw[nY W ⟨G,j,none⟩ m v ?_];exact hm;intro e;have hG:W.heap[G]? =some (aJ _ _ (0,0)):=h0;have e:m=G:=e;rw[e,hG]at hm;cases hm
 exact⟨⟨m2,m3,m4,h0.set 0 v,⟨c2,mk _ _ _ h2⟩,⟨c3,mk _ _ _ h3⟩,⟨c4,mk _ _ _ h4⟩⟩,⟨m2,m3,m4,h0.set 1 v,⟨c2,mk _ _ _ h2⟩,⟨c3,mk _ _ _ h3⟩,⟨c4,mk _ _ _ h4⟩⟩⟩
theorem Ih.cells{W:aF}{G:Nat}{xs ys:aS}(h:Ih W G xs ys):W.cell? ⟨G,0,none⟩=some xs∧W.cell? ⟨G,1,none⟩=some ys∧W.frozen? ⟨G,0,none⟩=false∧W.frozen? ⟨G,1,none⟩=false∧G<W.heap.size:=by
 obtain⟨m2,m3,m4,h0,-⟩:=h;exact⟨h0.cell 0,h0.cell 1,h0.fz 0,h0.fz 1,h0.lt⟩
theorem IV(W:aF)(a:cT)(u:aS):W.grownBy (W.setCell a u) (some a.block):=
 ⟨rfl,rfl,rfl,by simp,fun k _ hk=>nY W a k u (fun e=>hk (by rw[e]))⟩
theorem BA{W:aF}{b c:Nat}{cs ds:Array aS}{T U:eC}(h:bT W b cs T)(k:bT W c ds U)(jC:T≠U):b≠c:=by
 intro e;subst e;have h':W.heap[b]? =some (aJ cs T (0,0)):=h;have k':W.heap[b]? =some (aJ ds U (0,0)):=k;rw[h']at k';cases k';exact jC rfl
structure R9(w0:aF)(TB:Nat)(tc:Array aS)(B G C:Nat)(T:ByteArray)(W:aF)(vx vy ux uy:aS)(kx ky:Nat):Prop where
 grd:Ih W G vx vy
 pt:bT W C #[aA T,aA T] 66
 tr:bT W TB tc 70
 ox:W.ownsRow B 27 1 ux kx (bV kx (aA T))
 oy:W.ownsRow B 27 1 uy ky (bV ky (aA T))
 sep:ux.ownBlock=none∨ux.ownBlock≠uy.ownBlock
 bel:Below w0.heap.size w0 W
 bs:B≤W.heap.size
 hb:w0.heap.size≤B
section
variable{w0:aF}{TB:Nat}{tc:Array aS}{B G C:Nat}{T:ByteArray}{W W':aF}{vx vy ux uy:aS}{kx ky:Nat}
theorem R9.below(h:R9 w0 TB tc B G C T W vx vy ux uy kx ky)(hb:Below W.heap.size W W'):R9 w0 TB tc B G C T W' vx vy ux uy kx ky:=
 ⟨h.grd.below hb,h.pt.below hb h.pt.lt,h.tr.below hb h.tr.lt,dI h.ox hb,dI h.oy hb,h.sep,aU h.bel hb,bE h.bs hb.size,h.hb⟩
theorem R9.freshX(h:R9 w0 TB tc B G C T W vx vy ux uy kx ky):some W.heap.size≠ux.ownBlock:=fun e=>by
 have:=(h.ox.lt _ e.symm).2;omega
theorem R9.appX(h:R9 w0 TB tc B G C T W vx vy ux uy kx ky){g cap:Nat}
 (ho:W'.ownsRow B 27 1 (aB (some ⟨g,0,none⟩) (kx+1) cap) (kx+1) (bV kx (aA T)++[aA T]))(hg:W.grownBy W' ux.ownBlock)(FD:ux.ownBlock=some g∨g=W.heap.size):
 R9 w0 TB tc B G C T W' vx vy (aB (some ⟨g,0,none⟩) (kx+1) cap) uy (kx+1) ky:=by
 have hyk:uy.ownBlock=none∨uy.ownBlock≠ux.ownBlock:=by
  rcases h.sep with h1|h1
  ·rw[h1];cases uy.ownBlock with
   |none=>exact .inl rfl
   |some g=>exact .inr (by simp)
  ·exact .inr (Ne.symm h1)
 refine⟨h.grd.grown h.ox (by decide) hg,nE h.pt hg (kC h.pt h.ox (by decide)),nE h.tr hg (kC h.tr h.ox (by decide)),by rw[XK];exact ho,h.oy.kept hg hyk,.inr ?_,
  eP h.bel hg h.ox h.hb h.bel.size,bE h.bs hg.size,h.hb⟩
 show some g≠uy.ownBlock;intro e;rcases FD with h1|h1
 ·rcases h.sep with h2|h2
  ·rw[h2]at h1;cases h1
  ·exact h2 (h1.trans e)
 ·have:=(h.oy.lt g e.symm).2;omega
theorem R9.appY(h:R9 w0 TB tc B G C T W vx vy ux uy kx ky){g cap:Nat}
 (ho:W'.ownsRow B 27 1 (aB (some ⟨g,0,none⟩) (ky+1) cap) (ky+1) (bV ky (aA T)++[aA T]))(hg:W.grownBy W' uy.ownBlock)(FD:uy.ownBlock=some g∨g=W.heap.size):
 R9 w0 TB tc B G C T W' vx vy ux (aB (some ⟨g,0,none⟩) (ky+1) cap) kx (ky+1):=by
 refine⟨h.grd.grown h.oy (by decide) hg,nE h.pt hg (kC h.pt h.oy (by decide)),nE h.tr hg (kC h.tr h.oy (by decide)),h.ox.kept hg h.sep,by rw[XK];exact ho,?_,
  eP h.bel hg h.oy h.hb h.bel.size,bE h.bs hg.size,h.hb⟩
 by_cases hn:ux.ownBlock=none
 ·exact .inl hn
 ·right;show ux.ownBlock≠some g;intro e;rcases FD with h1|h1
  ·rcases h.sep with h2|h2
   ·exact hn h2
   ·exact h2 (e.trans h1.symm)
  ·have:=(h.ox.lt g e).2;omega
theorem R9.set(h:R9 w0 TB tc B G C T W vx vy ux uy kx ky)(hG:w0.heap.size≤G)(v:aS):
 R9 w0 TB tc B G C T (W.setCell ⟨G,0,none⟩ v) v vy ux uy kx ky∧R9 w0 TB tc B G C T (W.setCell ⟨G,1,none⟩ v) vx v ux uy kx ky:=by
 obtain⟨m2,m3,m4,bj,-⟩:=h.grd;have n1:C≠G:=BA h.pt bj (by decide);have n2:TB≠G:=BA h.tr bj (by decide);have kx':∀j,(W.setCell ⟨G,j,none⟩ v).ownsRow B 27 1 ux kx (bV kx (aA T)):=fun j=>h.ox.kept (IV W ⟨G,j,none⟩ v) (.inr (Ne.symm (kC bj h.ox (by decide))));have ky':∀j,(W.setCell ⟨G,j,none⟩ v).ownsRow B 27 1 uy ky (bV ky (aA T)):=fun j=>h.oy.kept (IV W ⟨G,j,none⟩ v) (.inr (Ne.symm (kC bj h.oy (by decide))));refine⟨⟨(h.grd.set v).1,h.pt.other v n1,h.tr.other v n2,kx' 0,ky' 0,h.sep,h.bel.setCell (p:=⟨G,0,none⟩) hG v,by rw[jN];exact h.bs,h.hb⟩,
  ⟨(h.grd.set v).2,h.pt.other v n1,h.tr.other v n2,kx' 1,ky' 1,h.sep,h.bel.setCell (p:=⟨G,1,none⟩) hG v,by rw[jN];exact h.bs,h.hb⟩⟩
theorem R9.cells(h:R9 w0 TB tc B G C T W vx vy ux uy kx ky):W.cell? ⟨G,0,none⟩=some vx∧W.cell? ⟨G,1,none⟩=some vy∧W.cell? ⟨C,0,none⟩=some (aA T)∧W.cell? ⟨C,1,none⟩=some (aA T):=
 ⟨h.grd.cells.1,h.grd.cells.2.1,h.pt.cell 0,h.pt.cell 1⟩
end
def GE(B:Nat)(W:aF)(G:Nat)(T:ByteArray)(k:Nat):Prop:=
 ∃vx vy:aS,Ih W G vx vy∧W.ownsRow B 27 1 vx k (bV k (aA T))∧W.ownsRow B 27 1 vy k (bV k (aA T))∧(vx.ownBlock=none∨vx.ownBlock≠vy.ownBlock)
theorem GE.below{B G k:Nat}{W W':aF}{T:ByteArray}(h:GE B W G T k)(hb:Below W.heap.size W W'):GE B W' G T k:=by
 obtain⟨vx,vy,h1,h2,h3,h4⟩:=h;exact⟨vx,vy,h1.below hb,dI h2 hb,dI h3 hb,h4⟩
theorem Dw{W:aF}{base e size n:Nat}{v:aS}{xs:List aS}(h:W.ownsRow base e size v n xs):∃a c,v=aB a n c:=by
 rcases h.2 with⟨h,h0⟩|⟨g,c,yU,h,_⟩
 ·exact⟨none,0,by rw[h,h0]⟩
 ·exact⟨_,_,h⟩
theorem AA{w:aF}{cR:Array gL}{o:gL}{a:kZ}{K:kZ→aF→Prop}{Q:yK→kZ→aF→Prop}{E:Prop}(Is:o.guard=none)(s x:qV)
 (ho:o.op=.call {callee:=.builtin .append,args:= #[s,x],argTypes:= #[54,54]})(B:Nat)(v:aS)(n:Nat)(xs:List aS)(hs:a.eval s=v)(hown:w.ownsRow B 27 1 v n xs)
 (nb:Nat)(u:ByteArray)(hx:a.eval x=aB (some ⟨nb,0,none⟩) 1 1)(IH:bT w nb #[aA u] 27)(M8:n+1≤100000)(kJ:B≤w.heap.size)
 (h:∀g cap w',w'.ownsRow B 27 1 (aB (some ⟨g,0,none⟩) (n+1) cap) (n+1) (xs++[aA u])→w.grownBy w' v.ownBlock→(v.ownBlock=some g∨g=w.heap.size)→K (a.put o.dst (aB (some ⟨g,0,none⟩) (n+1) cap)) w'):
 if eT o (yielded cR a.tmps)=true then ir aC o a w K Q else E:=by
 obtain⟨i0,hi,zL,vX,oL⟩:=vJ LJ;exact step_append_lies w Is s x 54 ho B 27 i0 (aA ⟨#[]⟩) 1 16 mh hi zL vX oL rfl (by decide) v n xs hs hown ⟨nb,0,none⟩ 1 1 [aA u] hx rfl (World.news_of_block IH) (by simp[nO]) (by decide) (by unfold maxLen;omega) (by omega) kJ _ rfl
  fun g cap w' h1 h2 h3 _=>h g cap w' h1 h2 h3
end
section
open Go Go.RowKit Go.Shelf Go.Lib
theorem Yz{W:aF}{p q:cT}{v u:aS}(jC:p≠q)(h:W.cell? p=some v):(W.setCell q u).cell? p=some v:=(World.cell?_setCell_other _ _ _ _ (Ne.symm jC)).trans h
theorem lay_pt (a b2:Option cT) (nf ca c2:Nat) (fs:List Fr) (at' :List (List UInt8)) (p:Pt) (s:Nat) (G xb yb xo yo cx cy:Nat) (t:List UInt8) (w:aF) (hE:iM w)
 (hs:p.side=s) (J2:s < nf) (hf:fs.length=nf) (hl:at'.length=nf) (rf:zR w a fs) (ra:Ek w b2 at')
 (hco:dV fs at' p=⟨t,t⟩) (hen:p.en=t) (ht:t.length≤8000000) (h0:(iE t t).1=0)
 (hg:Ih w G (aB (some ⟨xb,xo,none⟩) 1 cx) (aB (some ⟨yb,yo,none⟩) 1 cy)) (hx:w.cell? ⟨xb,xo,none⟩=some (aA (bs t))) (hy:w.cell? ⟨yb,yo,none⟩=some (aA (bs t))) :
 aW aC 98 #[cN #[aB a nf ca,aB b2 nf c2],bA (some ⟨G,0,none⟩),p.v] w fun e w' => (∃ v,e=aQ v)∧Below w.heap.size w w' :=by
 have sz:bH (∀ W,Below w.heap.size w W→aW aC 70 #[cN #[aB a nf ca,aB b2 nf c2],p.v] W (Rt (cN #[aA (bs t),aA (bs t)]) W)):=fun W hW=> by
  have:=Ax a b2 nf ca c2 fs at' p s W hs J2 hf hl (rf.below hW) (ra.below hW);rwa [hco] at this
 have HPx:bH (∀ W,Below w.heap.size w W→aW aC 174 #[aB (some ⟨xb,xo,none⟩) 1 cx,aA (bs t)] W (Rt (aD aE 0) W)):=fun W hW=>
  Ox xb xo cx t t W (hE.below hW) ht ht h0 ((hW.cell (p:=⟨xb,xo,none⟩) (bG w _ hx)).trans hx)
 have HPy:bH (∀ W,Below w.heap.size w W→aW aC 174 #[aB (some ⟨yb,yo,none⟩) 1 cy,aA (bs t)] W (Rt (aD aE 0) W)):=fun W hW=>
  Ox yb yo cy t t W (hE.below hW) ht ht h0 ((hW.cell (p:=⟨yb,yo,none⟩) (bG w _ hy)).trans hy)
 have HD:bH (∀ W,aW aC 52 #[(fs.getD s default).v] W (Rt (aD aE (oY (fs.getD s default))) W)):=fun W=> pN _ W;have HLa:=zq (fun u W=> Tg 0 u W);have fA:=((aH w.heap.size w).alloc (aG _) (aJ #[aB a nf ca,aB b2 nf c2] 70)).alloc (by simp) (aJ #[aD aE s,aA (bs p.fr),aA (bs t)] 47);have q0:=(bT.new w #[aB a nf ca,aB b2 nf c2] 70).alloc (aJ #[aD aE s,aA (bs p.fr),aA (bs t)] 47);have q1:=bT.new (w.alloc (aJ #[aB a nf ca,aB b2 nf c2] 70)) #[aD aE s,aA (bs p.fr),aA (bs t)] 47;rw [bB] at q1;obtain⟨fb,fo,rfl,f0,f1,f2,f3,f4⟩:=(rf.below fA).at (i:=s) (by rw [hf];exact J2) rfl;obtain⟨W0,eQ⟩:∃ W,(w.alloc (aJ #[aB (some ⟨fb,fo,none⟩) nf ca,aB b2 nf c2] 70)).alloc (aJ #[aD aE s,aA (bs p.fr),aA (bs t)] 47)=W:=⟨_,rfl⟩;have hGr:=hg.below fA;rw [eQ] at fA q0 q1 f0 f1 f2 f3 f4 hGr;have gY:=zq fA;have tD:=zq q0;have BC:=zq q1;have HGr:=zq hGr;obtain⟨e0,e1, -, -,lT⟩:=q0.two;obtain⟨p0,p1,p2⟩:=q1.three;have lP:=q1.lt;clear hE hf hl rf ra hco ht h0 hg hx hy fA q0 q1 hGr;unfold Fr.v Fr.cells at HD;unfold Pt.v Pt.cells at sz ⊢;rw [hs,hen] at sz ⊢;clear hs hen;generalize oY (fs.getD s default)=DF at *;generalize fs.getD s default=f at *;obtain⟨Aw,CM,pA,LK,Rx⟩:=f;simp only [] at *;generalize bs LK=FSP at *;generalize bs Rx=FST at *;generalize bs t=T at *;generalize bs p.fr=PF at *;have sn:(s:Int) < (nf:Int):=by omega
 go_enter func98,ntmps98;go_upto_if 15 with (fail);have hF:=bT.new W0 #[aN Aw,aD aE CM,aD aE pA,aA FSP,aA FST] 44;have hbF:=(aH _ W0).alloc (aG _) (aJ #[aN Aw,aD aE CM,aD aE pA,aA FSP,aA FST] 44);refine(HD.out _).mono ?_;rintro e W1 ⟨rfl,hb1⟩;have ID:=hbF.trans (hb1.mono (by simp));have HF1:=zq (hF.below hb1 hF.lt);have eW:=zq (aU gY.out ID);have tD:=zq (tD.out.below ID tD.out.lt);have BC:=zq (BC.out.below ID BC.out.lt);have HGr:=zq (HGr.out.below ID);clear ID hb1 hbF hF e0 e1 lT p0 p1 p2 lP f0 f1 f2 f3 f4 gY HD sn eQ;generalize W0.heap.size=FB at *;obtain⟨e0,e1, -, -,lT⟩:=tD.out.two;obtain⟨p0,p1,p2⟩:=BC.out.three;go_wp2_with fail
 refine(sz.out _ eW.out).mono ?_;rintro e W2 ⟨rfl,hb2⟩;have Oy:=zq (HF1.out.below hb2 HF1.out.lt);have fR:=zq (aU eW.out hb2);have BC:=zq (BC.out.below hb2 BC.out.lt);have HGr:=zq (HGr.out.below hb2);clear hb2 e0 e1 lT p0 p1 p2 HF1 eW tD sz;obtain⟨W3,Rw⟩:∃ W,W2.alloc (aJ #[aA T,aA T] 66)=W:=⟨_,rfl⟩;have hb3:Below W2.heap.size W2 W3:=by rw [← Rw];exact(aH _ _).alloc (aG _) _
 have HC3:bH (bT W3 W2.heap.size #[aA T,aA T] 66):=by rw [← Rw];exact bT.new _ _ _
 have Tt:=zq (Oy.out.below hb3 Oy.out.lt);have HB3:=zq (aU fR.out hb3);have MY:=zq (BC.out.below hb3 BC.out.lt);have HG3:=zq (HGr.out.below hb3);clear hb3 Oy fR BC HGr;go_upto_region 4 with (fail)
 try rw [Rw]
 clear Rw;generalize W2.heap.size=CB at *;obtain⟨g0,g1, -, -,lG⟩:=HG3.out.cells;obtain⟨c0,c1, -, -,lC⟩:=HC3.out.two;have HWs:bH (Below W3.heap.size W3 W3.drew):=(aH _ W3).drew;have HWa:bH (Below W3.heap.size W3 (W3.alloc (aJ #[aD aE 0,aD aE 0] 151)).drew):=((aH _ W3).alloc (aG _) _).drew;have HNq:bH (bT (W3.alloc (aJ #[aD aE 0,aD aE 0] 151)).drew W3.heap.size #[aD aE 0,aD aE 0] 151):=bT.new W3 _ _;go_cut [9] (fun v W=> ∃ q,v=bA (some ⟨q,0,none⟩)∧bH (bT W q #[aD aE 0,aD aE 0] 151)∧bH (Below W3.heap.size W3 W));case first=>
  go_region_held3 (fun w' => w'.cell? ⟨G,0,none⟩=some (aB (some ⟨xb,xo,none⟩) 1 cx)∧w'.cell? ⟨G,1,none⟩=some (aB (some ⟨yb,yo,none⟩) 1 cy)∧w'.cell? ⟨CB,0,none⟩=some (aA T)∧w'.cell? ⟨CB,1,none⟩=some (aA T)) (first | go_keep | ((refine⟨?_, ?_, ?_, ?_⟩) <;> (repeat (first | assumption | refine Yz (by intro e;injection e with e1 e2;(try simp only [World.size_drew] at e1);omega) ?_))))
   (first
    | (go_at_call 174;(with_reducible refine(HPx.out _ (aU HB3.out HWs.out)).mono ?_);rintro e w1 ⟨rfl,hb1⟩;have Cj:=zq (aU HWs.out hb1);have sx:=Cj.out.size;have m0:=cF Cj.out g0;have m1:=cF Cj.out g1;have m2:=cF Cj.out c0;have m3:=cF Cj.out c1)
    | (go_at_call 174;(with_reducible refine(HPx.out _ (aU HB3.out HWa.out)).mono ?_);rintro e w1 ⟨rfl,hb1⟩;have Cj:=zq (aU HWa.out hb1);have sx:=Cj.out.size;have Hq:=zq (HNq.out.below hb1 HNq.out.lt);obtain⟨z0,z1,z2,z3,lq⟩:=Hq.out.two;have m0:=cF Cj.out g0;have m1:=cF Cj.out g1;have m2:=cF Cj.out c0;have m3:=cF Cj.out c1)
    | (go_at_call 174;(with_reducible refine(HPy.out _ (aU HB3.out Cj.out)).mono ?_);rintro e w2 ⟨rfl,hb2⟩;have YA:=zq (aU Cj.out hb2);have sy:=YA.out.size;(first | (have SN:=zq (Hq.out.below hb2 Hq.out.lt);obtain⟨y0,y1,y2,y3,lq2⟩:=SN.out.two) | skip);have m0:=cF YA.out g0;have m1:=cF YA.out g1;have m2:=cF YA.out c0;have m3:=cF YA.out c1)
    | (go_at_call 174;(with_reducible refine(HPy.out _ (aU HB3.out (Cj.out.alloc Cj.out.size (aJ #[aD aE 0,aD aE 0] 151)))).mono ?_);rintro e w2 ⟨rfl,hb2⟩;have YA:=zq (aU (Cj.out.alloc Cj.out.size (aJ #[aD aE 0,aD aE 0] 151)) hb2);have SN:=zq ((bT.new w1 #[aD aE 0,aD aE 0] 151).below hb2 (bT.new w1 _ _).lt);obtain⟨y0,y1,y2,y3,lq2⟩:=SN.out.two;have m0:=cF YA.out g0;have m1:=cF YA.out g1;have m2:=cF YA.out c0;have m3:=cF YA.out c1)
    | fail)
  all_goals
   go_wp2;go_meet;case rel=>
    first
     | exact⟨_,rfl,bT.new w2 _ _,YA.out.alloc YA.out.size _⟩
     | exact⟨_,rfl,(SN.out.set 0 _).set 1 _,(YA.out.setCell (p:=⟨w1.heap.size,0,none⟩) Cj.out.size _).setCell (p:=⟨w1.heap.size,1,none⟩) Cj.out.size _⟩
     | exact⟨_,rfl,(SN.out.set 0 _).set 1 _,(YA.out.setCell (p:=⟨W3.heap.size,0,none⟩) (aG _) _).setCell (p:=⟨W3.heap.size,1,none⟩) (aG _) _⟩
     | fail
 case rest=>
 obtain⟨q,rfl,bm,IR⟩:=hcut;have HG4:=zq (HG3.out.below IR.out);have WD:=zq (Tt.out.below IR.out Tt.out.lt);have WE:=zq (MY.out.below IR.out MY.out.lt);have zG:=zq (aU HB3.out IR.out);clear HG3 Tt MY HB3 IR HC3 HWs HWa HNq g0 g1 lG c0 c1 lC;obtain⟨g0,g1, -, -, -⟩:=HG4.out.cells;obtain⟨-, -,p2⟩:=WE.out.three;have f0:=WD.out.cell 0;simp only [aL,aI] at f0;cases Aw;all_goals
  go_wp2_with fail
  first
   | (with_reducible refine(HPx.out _ zG.out).mono ?_)
   | (with_reducible refine(HPy.out _ zG.out).mono ?_)
  rintro e W5 ⟨rfl,hb5⟩;have yI:=zq (aU zG.out hb5);have HF5:=zq (WD.out.below hb5 WD.out.lt);have HQs5:=zq (bm.out.below hb5 bm.out.lt);clear hb5 g0 g1 p2 f0 zG WD WE HG4 bm HPx HPy;obtain⟨s0,s1, -, -, -⟩:=HQs5.out.two;have f0:=HF5.out.cell 0;simp only [aL,aI] at f0;go_wp2;go_loopw [12] (fun _ wr=> wr=W5) (fun _ _=> 0);case atStart=> rfl
  case round=>
   obtain rfl:=hrel;go_wp2_with fail
   refine(HLa.out _ _).mono ?_;rintro e W6 ⟨rfl,hb6⟩;have FC:=zq (aU yI.out hb6);clear hb6;go_wp2;go_end0;exact⟨⟨_,rfl⟩,FC.out⟩
theorem tg(G:Nat)(a b:Option cT)(ca cb:Nat)(w:aF)(hg:Ih w G (aB a 1 ca) (aB b 1 cb)):
 aW aC 99 #[bA (some ⟨G,0,none⟩)] w fun e w'=>(∃v,e=aQ v)∧Below w.heap.size w w':=by
 obtain⟨g0,g1,-,-,lG⟩:=hg.cells;clear hg;go_enter func99,ntmps99;go_wp2;go_loop [12] (fun i=>i=aD aE 0) (fun _=>0);case atStart=>rfl
 case round=>
  obtain rfl:=hrel;go_wp2;go_end0;exact⟨⟨_,rfl⟩,aH _ _⟩
theorem th(w:aF)(tc:Array aS):∃W0,((((((w.alloc (aJ tc 70)).alloc (.map #[] 0)).alloc (.map #[] 0)).alloc (.map #[] 0)).alloc
 (aJ #[aB none 0 0,aB none 0 0,.map (some (w.heap.size+1)),.map (some (w.heap.size+1+1)),.map (some (w.heap.size+1+1+1))] 140)))=W0∧
 bT W0 w.heap.size tc 70∧Ih W0 (w.heap.size+1+1+1+1) (aB none 0 0) (aB none 0 0)∧Below w.heap.size w W0:=by
 have m (W:aF) (o:Obj):(W.alloc o).heap[W.heap.size]? =some o:=heap_alloc_new W o;have k (W:aF) (o:Obj) (b:Nat) (u:Obj) (h:W.heap[b]? =some u):(W.alloc o).heap[b]? =some u:=(vS W o b (Array.getElem?_eq_some_iff.1 h).1).trans h;refine⟨_,rfl,?_,?_,?_⟩
 ·exact((((bT.new w _ _).alloc _).alloc _).alloc _).alloc _
 ·refine⟨w.heap.size+1,w.heap.size+1+1,w.heap.size+1+1+1,?_,⟨0,?_⟩,⟨0,?_⟩,⟨0,?_⟩⟩
  ·have:=bT.new ((((w.alloc (aJ tc 70)).alloc (.map #[] 0)).alloc (.map #[] 0)).alloc (.map #[] 0)) #[aB none 0 0,aB none 0 0,.map (some (w.heap.size+1)),.map (some (w.heap.size+1+1)),.map (some (w.heap.size+1+1+1))] 140;rwa[bB,bB,bB,bB]at this
  ·have:=m (w.alloc (aJ tc 70)) (.map #[] 0);rw[bB]at this;exact k _ _ _ _ (k _ _ _ _ (k _ _ _ _ this))
  ·have:=m ((w.alloc (aJ tc 70)).alloc (.map #[] 0)) (.map #[] 0);rw[bB,bB]at this;exact k _ _ _ _ (k _ _ _ _ this)
  ·have:=m (((w.alloc (aJ tc 70)).alloc (.map #[] 0)).alloc (.map #[] 0)) (.map #[] 0);rw[bB,bB,bB]at this;exact k _ _ _ _ this
 ·exact(((((aH _ w).alloc (aG _) _).alloc (by simp) _).alloc (by simp <;>omega) _).alloc (by simp <;>omega) _).alloc (by simp <;>omega) _
theorem Tu(t:List UInt8):uT (bV 4 t).toArray 4=[t]:=by
 simp[uT,keeps,vN,List.range.loop,bV]
theorem L7(t:List UInt8)(n:Nat):jS (bV n t)=bV n (aA (bs t)):=by simp[jS]
theorem rep_of{t:List UInt8}{n:Nat}(hn:0<n){ds:List (List UInt8)}(hl:ds.length=n)(h:∀z,z∈ds↔z∈bV n t):ds=bV n t:=by
 apply List.eq_replicate_iff.2;exact⟨hl,fun b hb=>sC ((h b).1 hb)⟩
theorem bn(B g c:Nat)(t:List UInt8)(w W:aF)(hE:iM w)(hW:Below w.heap.size w W)(hb:w.heap.size≤B)(ht:t.length≤8000000)(ho:W.ownsRow B 27 1 (aB (some ⟨g,0,none⟩) 4 c) 4 (bV 4 (aA (bs t)))):
 aW aC 96 #[aB (some ⟨g,0,none⟩) 4 c,.func (.func 61) #[] #[]] W fun e w'=>(∃v,e=aQ v)∧w'.ownsRow B 27 1 (aB (some ⟨g,0,none⟩) 4 c) 4 (bV 4 (aA (bs t)))∧W.grownBy w' (some g):=by
 refine(LY 61 (nH func61 (by kernel_rfl) rfl) (fun x y V hV hx hy=>?_) B g 4 c (bV 4 t) w W hE hW hb (by omega) (by simp) (fun s hs=>by rw[sC hs];exact ht) (by rw[L7];exact ho)).mono ?_
 ·refine(mN (bs x) (bs y) V hV (by rw[cZ];exact hx) (by rw[cZ];exact hy)).mono ?_;rintro e w'⟨h1,h2⟩;exact⟨⟨_,h1⟩,h2⟩
 ·rintro e w'⟨hv,ds',h1,h2,h3,h4⟩;rw[rep_of (by decide) h1 h2,L7]at h3;exact⟨hv,h3,h4⟩
theorem Qf(B g c:Nat)(t:List UInt8)(W:aF)(ho:W.ownsRow B 27 1 (aB (some ⟨g,0,none⟩) 4 c) 4 (bV 4 (aA (bs t)))):
 aW aC 97 #[aB (some ⟨g,0,none⟩) 4 c] W fun e w'=>e=aQ (aB (some ⟨g,0,none⟩) 1 c)∧w'.cell? ⟨g,0,none⟩=some (aA (bs t))∧W.grownBy w' (some g):=by
 refine(LZ B g 4 c (bV 4 t) W (by omega) (by simp) (by rw[L7];exact ho)).mono ?_;rintro e w'⟨L,hL,he,-,-,hr,hg⟩;rw[Tu]at hL;subst hL;refine⟨he,?_,hg⟩;obtain⟨b,off,e1,h⟩:=hr 0 (by simp[jS]);injection e1 with e1;injection e1 with e1 e2;subst e1 e2;exact h
structure js(w0:aF)(TB:Nat)(tc:Array aS)(B G A:Nat)(W:aF)(vx vy:aS):Prop where
 grd:Ih W G vx vy
 arr:bT W A #[bA (some ⟨G,0,none⟩),bA (some ⟨G,1,none⟩)] 141
 tr:bT W TB tc 70
 bel:Below w0.heap.size w0 W
 bs:B≤W.heap.size
 hb:w0.heap.size≤B
section
variable{w0:aF}{TB:Nat}{tc:Array aS}{B G A:Nat}{W W':aF}{vx vy:aS}
theorem js.grown(h:js w0 TB tc B G A W vx vy){v:aS}{n:Nat}{xs:List aS}(ho:W.ownsRow B 27 1 v n xs)(hg:W.grownBy W' v.ownBlock):js w0 TB tc B G A W' vx vy:=
 ⟨h.grd.grown ho (by decide) hg,nE h.arr hg (kC h.arr ho (by decide)),nE h.tr hg (kC h.tr ho (by decide)),eP h.bel hg ho h.hb h.bel.size,bE h.bs hg.size,h.hb⟩
theorem js.set(h:js w0 TB tc B G A W vx vy)(hG:w0.heap.size≤G)(v:aS):js w0 TB tc B G A (W.setCell ⟨G,0,none⟩ v) v vy∧js w0 TB tc B G A (W.setCell ⟨G,1,none⟩ v) vx v:=by
 obtain⟨m2,m3,m4,bj,-⟩:=h.grd;have n1:A≠G:=BA h.arr bj (by decide);have n2:TB≠G:=BA h.tr bj (by decide);exact⟨⟨(h.grd.set v).1,h.arr.other v n1,h.tr.other v n2,h.bel.setCell (p:=⟨G,0,none⟩) hG v,by rw[jN];exact h.bs,h.hb⟩,
  ⟨(h.grd.set v).2,h.arr.other v n1,h.tr.other v n2,h.bel.setCell (p:=⟨G,1,none⟩) hG v,by rw[jN];exact h.bs,h.hb⟩⟩
end
theorem E8{W:aF}{G base n:Nat}{vx vy v:aS}{xs:List aS}(h:Ih W G vx vy)(ho:W.ownsRow base 27 1 v n xs):some G≠v.ownBlock:=by
 obtain⟨m2,m3,m4,bj,-⟩:=h;exact kC bj ho (by decide)
theorem WG (a b2 bl:Option cT) (nf ca c2 cl:Nat) (fs:List Fr) (at' :List (List UInt8)) (l:Lp) (t:List UInt8) (w:aF) (hE:iM w)
 (hf:fs.length=nf) (hl:at'.length=nf) (kK:l.ps.length=4)
 (hpt:∀ j,j < 4→∃ s:Nat,(l.ps.getD j default).side=s∧s < nf∧dV fs at' (l.ps.getD j default)=⟨t,t⟩∧(l.ps.getD j default).en=t)
 (ht:t.length≤8000000) (h0:(iE t t).1=0) (rf:zR w a fs) (ra:Ek w b2 at') (rl:E5 w bl [l]) :
 aW aC 39 #[cN #[aB a nf ca,aB b2 nf c2],aB bl 1 cl] w fun e w' => (∃ G xa ya cx cy,e=aQ (bA (some ⟨G,0,none⟩))∧Ih w' G (aB xa 1 cx) (aB ya 1 cy))∧Below w.heap.size w w' :=by
 have hmm:= @run_makeMap aC
 have sz:bH (∀ j,j < 4→∀ W,Below w.heap.size w W→aW aC 70 #[cN #[aB a nf ca,aB b2 nf c2],(l.ps.getD j default).v] W (Rt (cN #[aA (bs t),aA (bs t)]) W)):=fun j hj W hW=> by
  obtain⟨s,h1,h2,h3, -⟩:=hpt j hj
  have:=Ax a b2 nf ca c2 fs at' _ s W h1 h2 hf hl (rf.below hW) (ra.below hW)
  rwa [h3] at this
 have HLay:bH (∀ j,j < 4→∀ W G xb yb cx cy,Below w.heap.size w W→Ih W G (aB (some ⟨xb,0,none⟩) 1 cx) (aB (some ⟨yb,0,none⟩) 1 cy)→W.cell? ⟨xb,0,none⟩=some (aA (bs t))→W.cell? ⟨yb,0,none⟩=some (aA (bs t))→
  aW aC 98 #[cN #[aB a nf ca,aB b2 nf c2],bA (some ⟨G,0,none⟩),(l.ps.getD j default).v] W fun e w' => (∃ v,e=aQ v)∧Below W.heap.size W w'):=fun j hj W G xb yb cx cy hW hg hx hy=> by
  obtain⟨s,h1,h2,h3,h4⟩:=hpt j hj
  exact lay_pt a b2 nf ca c2 fs at' _ s G xb yb 0 0 cx cy t W (hE.below hW) h1 h2 hf hl (rf.below hW) (ra.below hW) h3 h4 ht h0 hg hx hy
 have HLs:bH (∀ W,Below w.heap.size w W→E5 W bl [l]):=fun W hW=> rl.below hW
 have HSo:bH (∀ B g c W,w.heap.size≤B→Below w.heap.size w W→W.ownsRow B 27 1 (aB (some ⟨g,0,none⟩) 4 c) 4 (bV 4 (aA (bs t)))→
  aW aC 96 #[aB (some ⟨g,0,none⟩) 4 c, .func (.func 61) #[] #[]] W fun e w' => (∃ v,e=aQ v)∧w'.ownsRow B 27 1 (aB (some ⟨g,0,none⟩) 4 c) 4 (bV 4 (aA (bs t)))∧W.grownBy w' (some g)):=
  fun B g c W hb hW ho=> bn B g c t w W hE hW hb ht ho
 have HCm:bH (∀ B g c W,W.ownsRow B 27 1 (aB (some ⟨g,0,none⟩) 4 c) 4 (bV 4 (aA (bs t)))→
  aW aC 97 #[aB (some ⟨g,0,none⟩) 4 c] W fun e w' => e=aQ (aB (some ⟨g,0,none⟩) 1 c)∧w'.cell? ⟨g,0,none⟩=some (aA (bs t))∧W.grownBy w' (some g)):=
  fun B g c W ho=> Qf B g c t W ho
 have Ht:=zq ht
 have GF:=zq kK
 clear hE hf hl hpt ht h0 rf ra kK
 generalize bs t=T at *
 obtain⟨W0,eQ,hT0,bj,fA⟩:=th w #[aB a nf ca,aB b2 nf c2]
 have HT0:=zq hT0
 have HG0:=zq bj
 have gY:=zq fA
 have HwG:bH (w.heap.size≤w.heap.size + 1 + 1 + 1 + 1):=by show _≤_;omega
 have HX0:bH (GE W0.heap.size W0 (w.heap.size + 1 + 1 + 1 + 1) T 0):=⟨_,_,bj,Ba ..,Ba .., .inl rfl⟩
 have HwB:bH (w.heap.size≤W0.heap.size):=fA.size
 clear hT0 bj fA
 go_enter func39,ntmps39
 go_upto_if 22 with (fail)
 try rw [eQ]
 clear eQ
 generalize w.heap.size + 1 + 1 + 1 + 1=G at *
 generalize hTBw:w.heap.size=TB at HT0 ⊢
 obtain⟨B,hB⟩:∃ B,W0.heap.size=B:=⟨_,rfl⟩
 have HBs0:bH (B≤W0.heap.size):=by rw [← hB];exact aG _
 rw [hB] at HX0 HwB
 clear hB
 go_loopw [24] (fun i wr=> (∃ q:Nat,q≤1∧i=aD aE (q:Int)∧bH (GE B wr G T (q * 4)))∧bH (bT wr TB #[aB a nf ca,aB b2 nf c2] 70)∧bH (Below w.heap.size w wr)∧bH (B≤wr.heap.size)) (fun i _=> 1 - (aK i).toNat)
 case atStart=> exact⟨⟨0,by omega,rfl,HX0⟩,HT0,gY,HBs0⟩
 case round=>
  clear HX0 HT0 HG0 gY HBs0
  obtain⟨⟨q,hq,rfl,HX⟩,HT,HB,HBs⟩:=hrel
  rename aF=> wo
  by_cases hq1:q < 1
  ·obtain⟨lb,lo,rfl,l0, -⟩:=(HLs.out _ HB.out).at (i:=q) (by simpa using hq1) rfl
   have e5: [l].getD q default=l:=by have h:q=0:=(by omega);subst h;rfl
   rw [e5,GF.out] at l0
   have HX' :bH (GE B wo G T 0):=by have:=HX.out;rw [show q * 4=0 by omega] at this;exact this
   have hqI:(q:Int) < 1:=by omega
   have q0:(0:Int)≤(q:Int):=by omega
   have Hq1:=zq hq1
   clear e5 hq1 hq
   go_wp2
   go_loopw [30] (fun i wr=> (∃ k:Nat,k≤4∧i=aD aE (k:Int)∧bH (GE B wr G T k))∧bH (bT wr TB #[aB a nf ca,aB b2 nf c2] 70)∧bH (Below w.heap.size w wr)∧bH (B≤wr.heap.size)) (fun i _=> 4 - (aK i).toNat)
   case atStart=> exact⟨⟨0,by omega,rfl,HX'⟩,HT,HB,HBs⟩
   case round=>
    clear HX HX' HT HB HBs
    obtain⟨⟨k,hk,rfl,HX⟩,HT,HB,HBs⟩:=hrel
    rename aF=> wi
    by_cases hlt:k < 4
    ·obtain⟨lb',lo',hla, -,rp⟩:=(HLs.out _ HB.out).at (i:=0) (by simp) rfl
     have rp:CL wi l.a l.ps:=rp
     obtain⟨pb,po,Vk,d0,d1,d2⟩:=rp.at (i:=k) (by rw [GF.out];exact hlt) rfl
     have If:=zq (sz.out k hlt)
     rw [Vk]
     clear hla rp Vk
     generalize l.ps.getD k default=p at *
     obtain⟨sd,pf,pe⟩:=p
     unfold Pt.v Pt.cells at If
     simp only [] at *
     have Yo:(k:Int) < 4:=by omega
     have k0:(0:Int)≤(k:Int):=by omega
     obtain⟨t0,t1, -, -,lT⟩:=HT.out.two
     go_wp2_with fail
     refine(If.out _ (HB.out.alloc HB.out.size _)).mono ?_
     rintro e W2 ⟨rfl,hb2⟩
     have hb:Below wi.heap.size wi W2:=((aH _ wi).alloc (aG _) _).trans (hb2.mono (by simp))
     have hX2:=HX.out.below hb
     have Vh:=zq (HT.out.below hb HT.out.lt)
     have fR:=zq (aU HB.out hb)
     have HBs2:bH (B≤W2.heap.size):=bE HBs.out hb.size
     clear hb hb2 d0 d1 d2 t0 t1 lT HX HT HB HBs If
     obtain⟨vx,vy,hG,hox,hoy,Tv⟩:=hX2
     obtain⟨ax,cx,rfl⟩:=Dw hox
     obtain⟨ay,cy,rfl⟩:=Dw hoy
     obtain⟨W9,hW9⟩:∃ V,W2.alloc (aJ #[aA T,aA T] 66)=V:=⟨_,rfl⟩
     have hb:Below W2.heap.size W2 W9:=by rw [← hW9];exact(aH _ _).alloc (aG _) _
     obtain⟨C,hC⟩:∃ C,W2.heap.size=C:=⟨_,rfl⟩
     have HR0:bH (R9 w TB #[aB a nf ca,aB b2 nf c2] B G C T W9.drew (aB ax k cx) (aB ay k cy) (aB ax k cx) (aB ay k cy) k k):=by
      have hp:bT W9 C #[aA T,aA T] 66:=by rw [← hW9,← hC];exact bT.new _ _ _
      have r9:R9 w TB #[aB a nf ca,aB b2 nf c2] B G C T W9 (aB ax k cx) (aB ay k cy) (aB ax k cx) (aB ay k cy) k k:=
       ⟨hG.below hb,hp,Vh.out.below hb Vh.out.lt,dI hox hb,dI hoy hb,Tv,aU fR.out hb,bE HBs2.out hb.size,HwB.out⟩
      exact r9.below (aH _ _).drew
     clear hb hG hox hoy Tv Vh fR HBs2
     go_upto_region 9 with (fail)
     try rw [hW9]
     try rw [hC]
     clear hW9 hC
     clear hmm
     refine IU (st:=fun L=> L.getD 20 false) (S:=(fun w' => w'.cell? ⟨G,0,none⟩=some (aB ax k cx)∧w'.cell? ⟨G,1,none⟩=some (aB ay k cy)∧w'.cell? ⟨C,0,none⟩=some (aA T)∧w'.cell? ⟨C,1,none⟩=some (aA T))) (by kernel_rfl) HR0.out.cells (fun hL hS=> ?_)
     obtain⟨Wd,hWd⟩:∃ V,W9.drew=V:=⟨_,rfl⟩
     rw [hWd] at hS HR0 ⊢
     clear hWd
     refine fL (i:=0) (v:= ?_) (S' :=fun _=> True) rfl (by kernel_rfl) (by kernel_rfl) (by kernel_rfl) (fun _ _ _ h=> h) (fun _ _ _ _ _=> trivial) (fun _=> eZ false (by decide)) hL (rJ ⟨by kernel_rfl, ?_⟩) (fun _=> hS) ?_
     rotate_left
     focus (intro w Bd;(try dsimp only at Bd);go_simp;(first | done | with_reducible rfl))
     clear hL;intro hL
     try simp only [dK,bD,aY,aZ,aM,aV,bC] at hL ⊢
     refine fL (i:=1) (v:= ?_) (S' :=fun _=> True) rfl (by kernel_rfl) (by kernel_rfl) (by kernel_rfl) (fun _ _ _ h=> h) (fun _ _ _ _ _=> trivial) (fun _=> eZ false (by decide)) hL (rJ ⟨by kernel_rfl, ?_⟩) (fun _=> hS) ?_
     rotate_left
     focus (intro w Bd;(try dsimp only at Bd);go_simp;(first | done | with_reducible rfl))
     clear hL;intro hL
     try simp only [dK,bD,aY,aZ,aM,aV,bC] at hL ⊢
     refine fL (i:=2) (v:= ?_) (S' :=fun _=> True) rfl (by kernel_rfl) (by kernel_rfl) (by kernel_rfl) (fun _ _ _ h=> h) (fun _ _ _ _ _=> trivial) (fun _=> eZ false (by decide)) hL (rJ ⟨by kernel_rfl, ?_⟩) (fun _=> hS) ?_
     rotate_left
     focus (intro w Bd;(try dsimp only at Bd);go_simp;(first | done | with_reducible rfl))
     clear hL;intro hL
     try simp only [dK,bD,aY,aZ,aM,aV,bC] at hL ⊢
     refine fL (i:=3) (v:= ?_) (S' :=fun _=> True) rfl (by kernel_rfl) (by kernel_rfl) (by kernel_rfl) (fun _ _ _ h=> h) (fun _ _ _ _ _=> trivial) (fun _=> eZ false (by decide)) hL (rJ ⟨by kernel_rfl, ?_⟩) (fun _=> hS) ?_
     rotate_left
     focus (intro w Bd;(try dsimp only at Bd);go_simp;(first | done | with_reducible rfl))
     clear hL;intro hL
     try simp only [dK,bD,aY,aZ,aM,aV,bC] at hL ⊢
     refine fL (i:=4) (v:= ?_) (S' :=fun _=> True) rfl (by kernel_rfl) (by kernel_rfl) (by kernel_rfl) (fun _ _ _ h=> h) (fun _ _ _ _ _=> trivial) (fun _=> eZ false (by decide)) hL (rJ ⟨by kernel_rfl, ?_⟩) (fun _=> hS) ?_
     rotate_left
     focus (intro w Bd;(try dsimp only at Bd);go_simp;(first | done | with_reducible rfl))
     clear hL;intro hL
     try simp only [dK,bD,aY,aZ,aM,aV,bC] at hL ⊢
     refine fL (i:=5) (v:= ?_) (S' :=(fun w' => w'.cell? ⟨G,0,none⟩=some (aB ax k cx)∧w'.cell? ⟨G,1,none⟩=some (aB ay k cy)∧w'.cell? ⟨C,0,none⟩=some (aA T)∧w'.cell? ⟨C,1,none⟩=some (aA T))) rfl (by kernel_rfl) (by kernel_rfl) (by kernel_rfl) (fun _ _ _ h=> h) (fun L w h1 h2 h3=> h3 (h1.up (j:=20) (k:=5) (by kernel_rfl) h2)) (fun _=> eZ false (by decide)) hL (rJ ⟨by kernel_rfl, ?_⟩) (fun _=> hS) ?_
     rotate_left
     focus (intro w Bd;(try dsimp only at Bd);go_simp;(first | done | with_reducible rfl))
     clear hL;intro hL
     try simp only [dK,bD,aY,aZ,aM,aV,bC] at hL ⊢
     refine fL (i:=6) (v:= ?_) (S' :=fun _=> True) rfl (by kernel_rfl) (by kernel_rfl) (by kernel_rfl) (fun _ _ _ h=> h) (fun _ _ _ _ _=> trivial) (fun _=> eZ false (by decide)) hL (rJ ⟨by kernel_rfl, ?_⟩) (fun _=> hS) ?_
     rotate_left
     focus (intro w Bd;(try dsimp only at Bd);go_simp;(first | done | with_reducible rfl))
     clear hL;intro hL
     try simp only [dK,bD,aY,aZ,aM,aV,bC] at hL ⊢
     refine fL (i:=7) (v:= ?_) (S' :=(fun w' => w'.cell? ⟨G,0,none⟩=some (aB ax k cx)∧w'.cell? ⟨G,1,none⟩=some (aB ay k cy)∧w'.cell? ⟨C,0,none⟩=some (aA T)∧w'.cell? ⟨C,1,none⟩=some (aA T))) rfl (by kernel_rfl) (by kernel_rfl) (by kernel_rfl) (fun _ _ _ h=> h) (fun L w h1 h2 h3=> h3 (h1.up (j:=20) (k:=7) (by kernel_rfl) h2)) (fun _=> eZ false (by decide)) hL (rJ ⟨by kernel_rfl, ?_⟩) (fun _=> hS) ?_
     rotate_left
     focus (intro w Bd;(try dsimp only at Bd);go_simp;(first | done | with_reducible rfl))
     clear hL;intro hL
     try simp only [dK,bD,aY,aZ,aM,aV,bC] at hL ⊢
     refine fL (i:=10) (v:= ?_) (S' :=fun _=> True) rfl (by kernel_rfl) (by kernel_rfl) (by kernel_rfl) (fun _ _ _ h=> h) (fun _ _ _ _ _=> trivial) (fun _=> eZ false (by decide)) hL (rJ ⟨by kernel_rfl, ?_⟩) (fun _=> hS) ?_
     rotate_left
     focus (intro w Bd;(try dsimp only at Bd);go_simp;(first | done | with_reducible rfl))
     clear hL;intro hL
     try simp only [dK,bD,aY,aZ,aM,aV,bC] at hL ⊢
     refine fL (i:=11) (v:= ?_) (S' :=fun _=> True) rfl (by kernel_rfl) (by kernel_rfl) (by kernel_rfl) (fun _ _ _ h=> h) (fun _ _ _ _ _=> trivial) (fun _=> eZ false (by decide)) hL (rJ ⟨by kernel_rfl, ?_⟩) (fun _=> hS) ?_
     rotate_left
     focus (intro w Bd;(try dsimp only at Bd);go_simp;(first | done | with_reducible rfl))
     clear hL;intro hL
     try simp only [dK,bD,aY,aZ,aM,aV,bC] at hL ⊢
     refine fL (i:=12) (v:= ?_) (S' :=fun _=> True) rfl (by kernel_rfl) (by kernel_rfl) (by kernel_rfl) (fun _ _ _ h=> h) (fun _ _ _ _ _=> trivial) (fun _=> eZ false (by decide)) hL (rJ ⟨by kernel_rfl, ?_⟩) (fun _=> hS) ?_
     rotate_left
     focus (intro w Bd;(try dsimp only at Bd);go_simp;(first | done | with_reducible rfl))
     clear hL;intro hL
     try simp only [dK,bD,aY,aZ,aM,aV,bC] at hL ⊢
     refine fL (i:=13) (v:= ?_) (S' :=(fun w' => w'.cell? ⟨G,0,none⟩=some (aB ax k cx)∧w'.cell? ⟨G,1,none⟩=some (aB ay k cy)∧w'.cell? ⟨C,0,none⟩=some (aA T)∧w'.cell? ⟨C,1,none⟩=some (aA T))) rfl (by kernel_rfl) (by kernel_rfl) (by kernel_rfl) (fun _ _ _ h=> h) (fun L w h1 h2 h3=> h3 (h1.up (j:=20) (k:=13) (by kernel_rfl) h2)) (fun _=> eZ false (by decide)) hL (rJ ⟨by kernel_rfl, ?_⟩) (fun _=> hS) ?_
     rotate_left
     focus (intro w Bd;(try dsimp only at Bd);go_simp;(first | done | with_reducible rfl))
     clear hL;intro hL
     try simp only [dK,bD,aY,aZ,aM,aV,bC] at hL ⊢
     refine fL (i:=14) (v:= ?_) (S' :=fun _=> True) rfl (by kernel_rfl) (by kernel_rfl) (by kernel_rfl) (fun _ _ _ h=> h) (fun _ _ _ _ _=> trivial) (fun _=> eZ false (by decide)) hL (rJ ⟨by kernel_rfl, ?_⟩) (fun _=> hS) ?_
     rotate_left
     focus (intro w Bd;(try dsimp only at Bd);go_simp;(first | done | with_reducible rfl))
     clear hL;intro hL
     try simp only [dK,bD,aY,aZ,aM,aV,bC] at hL ⊢
     refine fL (i:=15) (v:= ?_) (S' :=(fun w' => w'.cell? ⟨G,0,none⟩=some (aB ax k cx)∧w'.cell? ⟨G,1,none⟩=some (aB ay k cy)∧w'.cell? ⟨C,0,none⟩=some (aA T)∧w'.cell? ⟨C,1,none⟩=some (aA T))) rfl (by kernel_rfl) (by kernel_rfl) (by kernel_rfl) (fun _ _ _ h=> h) (fun L w h1 h2 h3=> h3 (h1.up (j:=20) (k:=17) (by kernel_rfl) (h1.up (j:=17) (k:=16) (by kernel_rfl) (h1.up (j:=16) (k:=15) (by kernel_rfl) h2)))) (fun _=> eZ false (by decide)) hL (rJ ⟨by kernel_rfl, ?_⟩) (fun _=> hS) ?_
     rotate_left
     focus (intro w Bd;(try dsimp only at Bd);go_simp;(first | done | with_reducible rfl))
     clear hL;intro hL
     try simp only [dK,bD,aY,aZ,aM,aV,bC] at hL ⊢
     refine iS (rs:= [8,16]) (by kernel_rfl) (by simp) hL ?_
     refine rZ.cons rfl (fun hL K hK=> ?_) (rZ.cons rfl (fun hL K hK=> ?_) rZ.nil)
     focus
      go_simp
      show K _ _
      obtain⟨V1,hW⟩:∃ V,Wd.alloc (aJ #[aA T] 27)=V:=⟨_,rfl⟩
      rw [hW]
      have hb:Below Wd.heap.size Wd V1:=by rw [← hW];exact(aH _ _).alloc (aG _) _
      have CP:=zq (HR0.out.below hb)
      have jt:bH (bT V1 Wd.heap.size #[aA T] 27):=by rw [← hW];exact bT.new _ _ _
      clear hb hW
      refine hK.out _ _ (fun _=> CP.out.cells) ?_
      clear hK K hS
      have hS:=CP.out.cells
      try simp only [dK,bD,aY,aZ,aM,aV,bC] at hL ⊢
      refine iS (rs:= [9,16]) (by kernel_rfl) (by simp) hL ?_
      refine rZ.cons rfl (fun hL K hK=> ?_) (rZ.cons rfl (fun hL K hK=> ?_) rZ.nil)
      focus
       refine AA (by rfl) _ _ (by rfl) B (aB ax k cx) k _ (by rfl) CP.out.ox Wd.heap.size T (by rfl) jt.out (by omega) CP.out.bs ?_
       intro gx WH V2 hown Kt FD
       have Ad:=zq (CP.out.appX hown Kt FD)
       clear hown Kt FD
       show K _ _
       refine hK.out _ _ (fun _=> Ad.out.cells) ?_
       clear hK K hS
       have hS:=Ad.out.cells
       try simp only [dK,bD,aY,aZ,aM,aV,bC] at hL ⊢
       refine iS (rs:= [16]) (by kernel_rfl) (by simp) hL ?_
       refine rZ.cons rfl (fun hL K hK=> ?_) rZ.nil
       go_simp
       show K _ _
       obtain⟨V3,hW⟩:∃ V,V2.alloc (aJ #[aA T] 27)=V:=⟨_,rfl⟩
       rw [hW]
       have hb:Below V2.heap.size V2 V3:=by rw [← hW];exact(aH _ _).alloc (aG _) _
       have B8:=zq (Ad.out.below hb)
       have ju:bH (bT V3 V2.heap.size #[aA T] 27):=by rw [← hW];exact bT.new _ _ _
       have HFy:=zq Ad.out.freshX
       clear hb hW
       refine hK.out _ _ (fun _=> B8.out.cells) ?_
       clear hK K hS
       have hS:=B8.out.cells
       try simp only [dK,bD,aY,aZ,aM,aV,bC] at hL ⊢
       refine iS (rs:= [17]) (by kernel_rfl) (by simp) hL ?_
       refine rZ.cons rfl (fun hL K hK=> ?_) rZ.nil
       refine AA (by rfl) _ _ (by rfl) B (aB ay k cy) k _ (by rfl) B8.out.oy V2.heap.size T (by rfl) ju.out (by omega) B8.out.bs ?_
       intro gy capy W5 hown Kt FD
       have HR5:=zq (B8.out.appY hown Kt FD)
       clear hown Kt FD
       show K _ _
       refine hK.out _ _ (fun _=> HR5.out.cells) ?_
       clear hK K hS
       have hS:=HR5.out.cells
       try simp only [dK,bD,aY,aZ,aM,aV,bC] at hL ⊢
      rotate_right
      focus
       go_simp
       show K _ _
       obtain⟨V2,hW⟩:∃ V,V1.alloc (aJ #[aA T] 27)=V:=⟨_,rfl⟩
       rw [hW]
       have hb:Below V1.heap.size V1 V2:=by rw [← hW];exact(aH _ _).alloc (aG _) _
       have Ad:=zq (CP.out.below hb)
       have ju:bH (bT V2 V1.heap.size #[aA T] 27):=by rw [← hW];exact bT.new _ _ _
       have HFy:=zq CP.out.freshX
       have jt:=zq (jt.out.below hb jt.out.lt)
       clear hb hW
       refine hK.out _ _ (fun _=> Ad.out.cells) ?_
       clear hK K hS
       have hS:=Ad.out.cells
       try simp only [dK,bD,aY,aZ,aM,aV,bC] at hL ⊢
       refine iS (rs:= [9]) (by kernel_rfl) (by simp) hL ?_
       refine rZ.cons rfl (fun hL K hK=> ?_) rZ.nil
       refine AA (by rfl) _ _ (by rfl) B (aB ax k cx) k _ (by rfl) Ad.out.ox Wd.heap.size T (by rfl) jt.out (by omega) Ad.out.bs ?_
       intro gx WH V3 hown Kt FD
       have B8:=zq (Ad.out.appX hown Kt FD)
       have ju:=zq (nE ju.out Kt HFy.out)
       clear hown Kt FD
       show K _ _
       refine hK.out _ _ (fun _=> B8.out.cells) ?_
       clear hK K hS
       have hS:=B8.out.cells
       try simp only [dK,bD,aY,aZ,aM,aV,bC] at hL ⊢
       refine iS (rs:= [17]) (by kernel_rfl) (by simp) hL ?_
       refine rZ.cons rfl (fun hL K hK=> ?_) rZ.nil
       refine AA (by rfl) _ _ (by rfl) B (aB ay k cy) k _ (by rfl) B8.out.oy V1.heap.size T (by rfl) ju.out (by omega) B8.out.bs ?_
       intro gy capy W5 hown Kt FD
       have HR5:=zq (B8.out.appY hown Kt FD)
       clear hown Kt FD
       show K _ _
       refine hK.out _ _ (fun _=> HR5.out.cells) ?_
       clear hK K hS
       have hS:=HR5.out.cells
       try simp only [dK,bD,aY,aZ,aM,aV,bC] at hL ⊢
     rotate_right
     focus
      go_simp
      show K _ _
      obtain⟨V1,hW⟩:∃ V,Wd.alloc (aJ #[aA T] 27)=V:=⟨_,rfl⟩
      rw [hW]
      have hb:Below Wd.heap.size Wd V1:=by rw [← hW];exact(aH _ _).alloc (aG _) _
      have CP:=zq (HR0.out.below hb)
      have ju:bH (bT V1 Wd.heap.size #[aA T] 27):=by rw [← hW];exact bT.new _ _ _
      have HFy:=zq HR0.out.freshX
      clear hb hW
      refine hK.out _ _ (fun _=> CP.out.cells) ?_
      clear hK K hS
      have hS:=CP.out.cells
      try simp only [dK,bD,aY,aZ,aM,aV,bC] at hL ⊢
      refine iS (rs:= [8]) (by kernel_rfl) (by simp) hL ?_
      refine rZ.cons rfl (fun hL K hK=> ?_) rZ.nil
      go_simp
      show K _ _
      obtain⟨V2,hW⟩:∃ V,V1.alloc (aJ #[aA T] 27)=V:=⟨_,rfl⟩
      rw [hW]
      have hb:Below V1.heap.size V1 V2:=by rw [← hW];exact(aH _ _).alloc (aG _) _
      have Ad:=zq (CP.out.below hb)
      have jt:bH (bT V2 V1.heap.size #[aA T] 27):=by rw [← hW];exact bT.new _ _ _
      have ju:=zq (ju.out.below hb ju.out.lt)
      clear hb hW
      refine hK.out _ _ (fun _=> Ad.out.cells) ?_
      clear hK K hS
      have hS:=Ad.out.cells
      try simp only [dK,bD,aY,aZ,aM,aV,bC] at hL ⊢
      refine iS (rs:= [9]) (by kernel_rfl) (by simp) hL ?_
      refine rZ.cons rfl (fun hL K hK=> ?_) rZ.nil
      refine AA (by rfl) _ _ (by rfl) B (aB ax k cx) k _ (by rfl) Ad.out.ox V1.heap.size T (by rfl) jt.out (by omega) Ad.out.bs ?_
      intro gx WH V3 hown Kt FD
      have B8:=zq (Ad.out.appX hown Kt FD)
      have ju:=zq (nE ju.out Kt HFy.out)
      clear hown Kt FD
      show K _ _
      refine hK.out _ _ (fun _=> B8.out.cells) ?_
      clear hK K hS
      have hS:=B8.out.cells
      try simp only [dK,bD,aY,aZ,aM,aV,bC] at hL ⊢
      refine iS (rs:= [17]) (by kernel_rfl) (by simp) hL ?_
      refine rZ.cons rfl (fun hL K hK=> ?_) rZ.nil
      refine AA (by rfl) _ _ (by rfl) B (aB ay k cy) k _ (by rfl) B8.out.oy Wd.heap.size T (by rfl) ju.out (by omega) B8.out.bs ?_
      intro gy capy W5 hown Kt FD
      have HR5:=zq (B8.out.appY hown Kt FD)
      clear hown Kt FD
      show K _ _
      refine hK.out _ _ (fun _=> HR5.out.cells) ?_
      clear hK K hS
      have hS:=HR5.out.cells
      try simp only [dK,bD,aY,aZ,aM,aV,bC] at hL ⊢
     all_goals
      refine fL (i:=18) (v:= ?_) (S' :=fun _=> True) rfl (by kernel_rfl) (by kernel_rfl) (by kernel_rfl) (fun _ _ _ h=> h) (fun _ _ _ _ _=> trivial) (fun _=> eZ false (by decide)) hL (rJ ⟨by kernel_rfl, ?_⟩) (fun _=> hS) ?_
      rotate_left
      focus (intro w Bd;(try dsimp only at Bd);go_simp;(first | done | with_reducible rfl))
      clear hL;intro hL
      try simp only [dK,bD,aY,aZ,aM,aV,bC] at hL ⊢
      refine fL (i:=19) (v:= ?_) (S' :=fun _=> True) rfl (by kernel_rfl) (by kernel_rfl) (by kernel_rfl) (fun _ _ _ h=> h) (fun _ _ _ _ _=> trivial) (fun _=> eZ false (by decide)) hL (rJ ⟨by kernel_rfl, ?_⟩) (fun _=> hS) ?_
      rotate_left
      focus (intro w Bd;(try dsimp only at Bd);go_simp;(first | done | with_reducible rfl))
      clear hL;intro hL
      try simp only [dK,bD,aY,aZ,aM,aV,bC] at hL ⊢
      obtain⟨g0,g1,z0,z1,lG⟩:=HR5.out.grd.cells
      refine iS (rs:= [20]) (by kernel_rfl) (by simp) hL ?_
      refine rZ.cons rfl (fun hL K hK=> ?_) rZ.nil
      go_simp
      show K _ _
      obtain⟨W6,hW⟩:∃ V,W5.setCell ⟨G,0,none⟩ (aB (some ⟨gx,0,none⟩) (k + 1) WH)=V:=⟨_,rfl⟩
      rw [hW]
      have HR6:=zq (HR5.out.set HwG.out (aB (some ⟨gx,0,none⟩) (k + 1) WH)).1
      rw [hW] at HR6
      refine hK.out _ _ (fun h=> absurd h (by decide)) ?_
      clear hK K hW g0 g1 z0 z1 lG
      try simp only [dK,bD,aY,aZ,aM,aV,bC] at hL ⊢
      refine fL (i:=21) (v:= ?_) (S' :=fun _=> True) rfl (by kernel_rfl) (by kernel_rfl) (by kernel_rfl) (fun _ _ _ h=> h) (fun _ _ _ _ _=> trivial) (fun _=> eZ false (by decide)) hL (rJ ⟨by kernel_rfl, ?_⟩) (fun h=> absurd h (by decide)) ?_
      rotate_left
      focus (intro w Bd;(try dsimp only at Bd);go_simp;(first | done | with_reducible rfl))
      clear hL;intro hL
      try simp only [dK,bD,aY,aZ,aM,aV,bC] at hL ⊢
      refine fL (i:=22) (v:= ?_) (S' :=fun _=> True) rfl (by kernel_rfl) (by kernel_rfl) (by kernel_rfl) (fun _ _ _ h=> h) (fun _ _ _ _ _=> trivial) (fun _=> eZ false (by decide)) hL (rJ ⟨by kernel_rfl, ?_⟩) (fun h=> absurd h (by decide)) ?_
      rotate_left
      focus (intro w Bd;(try dsimp only at Bd);go_simp;(first | done | with_reducible rfl))
      clear hL;intro hL
      try simp only [dK,bD,aY,aZ,aM,aV,bC] at hL ⊢
      obtain⟨g0,g1,z0,z1,lG⟩:=HR6.out.grd.cells
      refine iS (rs:= [23]) (by kernel_rfl) (by simp) hL ?_
      refine rZ.cons rfl (fun hL K hK=> ?_) rZ.nil
      go_simp
      show K _ _
      obtain⟨W7,hW⟩:∃ V,W6.setCell ⟨G,1,none⟩ (aB (some ⟨gy,0,none⟩) (k + 1) capy)=V:=⟨_,rfl⟩
      rw [hW]
      have HR7:=zq (HR6.out.set HwG.out (aB (some ⟨gy,0,none⟩) (k + 1) capy)).2
      rw [hW] at HR7
      refine hK.out _ _ (fun h=> absurd h (by decide)) ?_
      clear hK K hW g0 g1 z0 z1 lG
      try simp only [dK,bD,aY,aZ,aM,aV,bC] at hL ⊢
      refine Tn (by kernel_rfl) ?_ _
      have HX7:bH (GE B W7 G T (k + 1)):=⟨_,_,HR7.out.grd,HR7.out.ox,HR7.out.oy,HR7.out.sep⟩
      have HT7:=zq HR7.out.tr
      have Ku:=zq HR7.out.bel
      have HS7:=zq HR7.out.bs
      go_wp2
      go_roundw
      case rel=> exact⟨⟨k + 1,by omega,by go_num,HX7⟩,HT7,Ku,HS7⟩
      case measure=> simp only [aK];omega
    ·obtain rfl:k=4:=by omega
     go_wp2
     go_roundw
     case rel=> exact⟨⟨q + 1,by have:=Hq1.out;omega,by go_num,by have:=Hq1.out;rw [show(q + 1) * 4=4 by omega];exact HX⟩,HT,HB,HBs⟩
     case measure=> have:=Hq1.out;simp only [aK];omega
  ·have HX:bH (GE B wo G T 4):=by have:=HX.out;rw [show q * 4=4 by omega] at this;exact this
   have hqI:¬ ((q:Int) < 1):=by omega
   clear hq1 hq
   go_wp2
   go_cut [67,68,69] (fun v n i W=> v=aB (some ⟨wo.heap.size,0,none⟩) 2 2∧n=aD aE 2∧i=aD aE 0∧bH (bT W wo.heap.size #[bA (some ⟨G,0,none⟩),bA (some ⟨G,1,none⟩)] 141)∧bH (Below wo.heap.size wo W))
   case first=>
    go_region
    all_goals
     go_wp2
     go_meet
     case rel=>
      first
       | exact⟨rfl,rfl,rfl,bT.new wo _ _,((aH _ wo).alloc (aG _) _).drew⟩
       | exact⟨rfl,rfl,rfl,bT.new wo.drew _ _,(aH _ wo).drew.alloc (aG _) _⟩
       | fail
   case rest=>
   obtain⟨rfl,rfl,rfl,HA,IR⟩:=hcut
   have hX1:=HX.out.below IR.out
   have CP:bH (∀ vx vy,Ih wc G vx vy→js w TB #[aB a nf ca,aB b2 nf c2] B G wo.heap.size wc vx vy):=fun vx vy h=>
    ⟨h,HA.out,HT.out.below IR.out HT.out.lt,aU HB.out IR.out,bE HBs.out IR.out.size,HwB.out⟩
   have HX1:bH (∃ vx vy,js w TB #[aB a nf ca,aB b2 nf c2] B G wo.heap.size wc vx vy∧wc.ownsRow B 27 1 vx 4 (bV 4 (aA T))∧wc.ownsRow B 27 1 vy 4 (bV 4 (aA T))∧(vx.ownBlock=none∨vx.ownBlock≠vy.ownBlock)):=by
    obtain⟨vx,vy,h1,h2,h3,h4⟩:=hX1
    exact⟨vx,vy,CP.out _ _ h1,h2,h3,h4⟩
   clear hX1 CP HX HT HB HBs HA IR
   generalize wo.heap.size=A at *
   go_wp2
   go_loopw [69] (fun i wr=> (i=aD aE 0∧bH (∃ vx vy,js w TB #[aB a nf ca,aB b2 nf c2] B G A wr vx vy∧wr.ownsRow B 27 1 vx 4 (bV 4 (aA T))∧wr.ownsRow B 27 1 vy 4 (bV 4 (aA T))∧(vx.ownBlock=none∨vx.ownBlock≠vy.ownBlock)))∨
    (i=aD aE 1∧bH (∃ gx cx vy,js w TB #[aB a nf ca,aB b2 nf c2] B G A wr (aB (some ⟨gx,0,none⟩) 1 cx) vy∧wr.cell? ⟨gx,0,none⟩=some (aA T)∧wr.ownsRow B 27 1 vy 4 (bV 4 (aA T))∧some gx≠vy.ownBlock∧gx≠G))∨
    (i=aD aE 2∧bH (∃ gx cx gy cy,js w TB #[aB a nf ca,aB b2 nf c2] B G A wr (aB (some ⟨gx,0,none⟩) 1 cx) (aB (some ⟨gy,0,none⟩) 1 cy)∧wr.cell? ⟨gx,0,none⟩=some (aA T)∧wr.cell? ⟨gy,0,none⟩=some (aA T)))) (fun i _=> 2 - (aK i).toNat)
   case atStart=> exact .inl ⟨rfl,HX1⟩
   case round=>
    clear HX1
    rename aF=> wj
    rcases hrel with ⟨rfl,HX⟩ | ⟨rfl,HX⟩ | ⟨rfl,HX⟩
    ·obtain⟨vx,vy,hR,hox,hoy,Tv⟩:=HX.out
     obtain⟨gx,cx,rfl⟩:=xE (by decide) hox
     have HR:=zq hR
     have HOx:=zq hox
     have HOy:=zq hoy
     have NX:some gx≠vy.ownBlock:=Tv.elim (fun h=> by cases h) (fun h=> h)
     have HGy:=zq NX
     have a0:=hR.arr.cell 0
     obtain⟨g0,g1,z0,z1,lG⟩:=hR.grd.cells
     simp only [aL,aI] at a0
     clear HX hR hox hoy Tv NX
     go_wp2_with fail
     refine(HSo.out B gx cx wj HwB.out HR.out.bel HOx.out).mono ?_
     rintro e W1 ⟨⟨v,rfl⟩,hox1,hg1⟩
     have CP:=zq (HR.out.grown HOx.out hg1)
     have WI:=zq (HOy.out.kept hg1 (.inr (Ne.symm HGy.out)))
     have HOx1:=zq hox1
     clear hox1 hg1 HR HOx HOy a0 g0 g1 z0 z1 lG
     obtain⟨g0,g1,z0,z1,lG⟩:=CP.out.grd.cells
     go_wp2_with fail
     refine(HCm.out B gx cx W1 HOx1.out).mono ?_
     rintro e W2 ⟨rfl,hc2,hg2⟩
     have Ad:=zq (CP.out.grown HOx1.out hg2)
     have HOy2:=zq (WI.out.kept hg2 (.inr (Ne.symm HGy.out)))
     have bo:=zq hc2
     have HnG:bH (gx≠G):=fun e=> E8 CP.out.grd HOx1.out (by rw [e];rfl)
     clear hc2 hg2 CP WI HOx1 g0 g1 z0 z1 lG
     obtain⟨g0,g1,z0,z1,lG⟩:=Ad.out.grd.cells
     have B8:=zq (Ad.out.set HwG.out (aB (some ⟨gx,0,none⟩) 1 cx)).1
     have HOy3:=zq (HOy2.out.kept (IV W2 ⟨G,0,none⟩ (aB (some ⟨gx,0,none⟩) 1 cx)) (.inr (Ne.symm (E8 Ad.out.grd HOy2.out))))
     have HC3:bH ((W2.setCell ⟨G,0,none⟩ (aB (some ⟨gx,0,none⟩) 1 cx)).cell? ⟨gx,0,none⟩=some (aA T)):=Yz (by intro e;injection e with e1 e2;exact HnG.out e1) bo.out
     go_wp2
     go_roundw
     case rel=> exact .inr (.inl ⟨by go_num,⟨gx,cx,vy,B8.out,HC3.out,HOy3.out,HGy.out,HnG.out⟩⟩)
     case measure=> simp only [aK];omega
    ·obtain⟨gx,cx,vy,hR,NS,hoy,Tv,hnG⟩:=HX.out
     obtain⟨gy,cy,rfl⟩:=xE (by decide) hoy
     have HR:=zq hR
     have HOy:=zq hoy
     have HCx:=zq NS
     have HGy:=zq Tv
     have HnX:=zq hnG
     have a0:=hR.arr.cell 1
     obtain⟨g0,g1,z0,z1,lG⟩:=hR.grd.cells
     simp only [aL,aI,bM] at a0
     clear HX hR hoy NS Tv hnG
     go_wp2_with fail
     refine(HSo.out B gy cy wj HwB.out HR.out.bel HOy.out).mono ?_
     rintro e W1 ⟨⟨v,rfl⟩,hoy1,hg1⟩
     have CP:=zq (HR.out.grown HOy.out hg1)
     have HCx1:=zq ((hg1.cell_far ⟨gx,0,none⟩ (bG wj ⟨gx,0,none⟩ HCx.out) HGy.out).trans HCx.out)
     have WI:=zq hoy1
     clear hoy1 hg1 HR HOy HCx a0 g0 g1 z0 z1 lG
     obtain⟨g0,g1,z0,z1,lG⟩:=CP.out.grd.cells
     go_wp2_with fail
     refine(HCm.out B gy cy W1 WI.out).mono ?_
     rintro e W2 ⟨rfl,hc2,hg2⟩
     have Ad:=zq (CP.out.grown WI.out hg2)
     have HCx2:=zq ((hg2.cell_far ⟨gx,0,none⟩ (bG W1 ⟨gx,0,none⟩ HCx1.out) HGy.out).trans HCx1.out)
     have bo:=zq hc2
     have HnG:bH (gy≠G):=fun e=> E8 CP.out.grd WI.out (by rw [e];rfl)
     clear hc2 hg2 CP WI HCx1 g0 g1 z0 z1 lG
     obtain⟨g0,g1,z0,z1,lG⟩:=Ad.out.grd.cells
     have B8:=zq (Ad.out.set HwG.out (aB (some ⟨gy,0,none⟩) 1 cy)).2
     have HC3:bH ((W2.setCell ⟨G,1,none⟩ (aB (some ⟨gy,0,none⟩) 1 cy)).cell? ⟨gy,0,none⟩=some (aA T)):=Yz (by intro e;injection e with e1 e2;exact HnG.out e1) bo.out
     have HC4:bH ((W2.setCell ⟨G,1,none⟩ (aB (some ⟨gy,0,none⟩) 1 cy)).cell? ⟨gx,0,none⟩=some (aA T)):=Yz (by intro e;injection e with e1 e2;exact HnX.out e1) HCx2.out
     go_wp2
     go_roundw
     case rel=> exact .inr (.inr ⟨by go_num,⟨gx,cx,gy,cy,B8.out,HC4.out,HC3.out⟩⟩)
     case measure=> simp only [aK];omega
    ·obtain⟨gx,cx,gy,cy,hR,NS,hcy⟩:=HX.out
     have HR:=zq hR
     have HCx:=zq NS
     have HCy:=zq hcy
     clear HX hR NS hcy HSo HCm sz
     go_wp2
     go_loopw [86] (fun i wr=> (∃ q:Nat,q≤1∧i=aD aE (q:Int))∧bH (Below wj.heap.size wj wr)) (fun i _=> 1 - (aK i).toNat)
     case atStart=> exact⟨⟨0,by omega,rfl⟩,aH _ _⟩
     case round=>
      obtain⟨⟨p,hp,rfl⟩,HB⟩:=hrel
      rename aF=> wo
      have vR:=zq (aU HR.out.bel HB.out)
      by_cases hp1:p < 1
      ·obtain⟨lb,lo,hbl,l0, -⟩:=(HLs.out _ vR.out).at (i:=p) (by simpa using hp1) rfl
       have e5: [l].getD p default=l:=by have h:p=0:=(by omega);subst h;rfl
       rw [e5,GF.out] at l0
       subst hbl
       have hpI:(p:Int) < 1:=by omega
       have p0:(0:Int)≤(p:Int):=by omega
       have Hp1:=zq hp1
       clear e5 hp1 hp
       go_wp2
       go_loopw [92] (fun i wr=> (∃ k:Nat,k≤4∧i=aD aE (k:Int))∧bH (Below wj.heap.size wj wr)) (fun i _=> 4 - (aK i).toNat)
       case atStart=> exact⟨⟨0,by omega,rfl⟩,HB⟩
       case round=>
        clear HB vR l0
        obtain⟨⟨k,hk,rfl⟩,HB⟩:=hrel
        rename aF=> wi
        by_cases hlt:k < 4
        ·have vR:=zq (aU HR.out.bel HB.out)
         obtain⟨lb',lo',hla, -,rp⟩:=(HLs.out _ vR.out).at (i:=0) (by simp) rfl
         have rp:CL wi l.a l.ps:=rp
         obtain⟨pb,po,Vk,d0,d1,d2⟩:=rp.at (i:=k) (by rw [GF.out];exact hlt) rfl
         have HLk:=zq (HLay.out k hlt)
         rw [Vk]
         clear hla rp Vk
         generalize l.ps.getD k default=pp at *
         obtain⟨sd,pf,pe⟩:=pp
         unfold Pt.v Pt.cells at HLk
         simp only [] at *
         have Yo:(k:Int) < 4:=by omega
         have k0:(0:Int)≤(k:Int):=by omega
         have hT:=HR.out.tr.below HB.out HR.out.tr.lt
         obtain⟨t0,t1, -, -,lT⟩:=hT.two
         clear hT
         go_wp2_with fail
         have hba:Below wi.heap.size wi (wi.alloc (aJ #[aD aE sd,aA (bs pf),aA (bs pe)] 47)):=(aH _ _).alloc (aG _) _
         have hbj:=aU HB.out hba
         refine(HLk.out _ G gx gy cx cy (aU vR.out hba) (HR.out.grd.below hbj) (cF hbj HCx.out) (cF hbj HCy.out)).mono ?_
         rintro e W2 ⟨⟨v,rfl⟩,hb2⟩
         have fR:=zq (aU hbj hb2)
         clear hba hbj hb2 d0 d1 d2 t0 t1 lT vR HLk
         go_wp2
         go_roundw
         case rel=> exact⟨⟨k + 1,by omega,by go_num⟩,fR⟩
         case measure=> simp only [aK];omega
        ·obtain rfl:k=4:=by omega
         go_wp2
         go_roundw
         case rel=> exact⟨⟨p + 1,by have:=Hp1.out;omega,by go_num⟩,HB⟩
         case measure=> have:=Hp1.out;simp only [aK];omega
      ·have hpI:¬ ((p:Int) < 1):=by omega
       have HGo:=zq (HR.out.grd.below HB.out)
       clear hp1 hp
       go_wp2_with fail
       refine(tg G _ _ cx cy wo HGo.out).mono ?_
       rintro e W2 ⟨⟨v,rfl⟩,hb2⟩
       have fR:=zq (aU vR.out hb2)
       have HG2:=zq (HGo.out.below hb2)
       clear hb2
       go_wp2
       go_ret
       exact⟨⟨G,_,_,cx,cy,rfl,HG2.out⟩,fR.out⟩
section
attribute[local go_sem] dW
abbrev encW(k:Nat):Array aS:= #[cN #[aD aE 0,aD aE 0,aD aE k]]
theorem ti(F:Fence)(n:Nat)(h7:F.fn 177)(Ia:F.round=none)(hn:1≤n)(Bg G:Nat)(a b:Option cT)(ca cb:Nat)(w:aF)
 (hB:bT w Bg #[bA (some ⟨G,0,none⟩)] 83)(hg:Ih w G (aB a 1 ca) (aB b 1 cb)):
 VG F n aC 177 #[bA (some ⟨Bg,0,none⟩)] encW (cY (fun k=>k=Bg∨k=G)) 4 w:=by
 intro l J Jx W hW hY h0;have b0:=(hB.below hW hB.lt).cell 0;obtain⟨m2,m3,m4,hG,-⟩:=hg.below hW;have g0:=hG.cell 0;have g1:=hG.cell 1;simp only[aL,aI,bM]at b0 g0 g1;have hcB:∀V,cY (fun k=>k=Bg∨k=G) W V→V.cell? ⟨Bg,0,none⟩=some (bA (some ⟨G,0,none⟩))∧V.cell? ⟨G,0,none⟩=some (aB a 1 ca)∧V.cell? ⟨G,1,none⟩=some (aB b 1 cb):=fun V h=>
  ⟨(h.cell (p:=⟨Bg,0,none⟩) (.inl rfl)).trans b0,(h.cell (p:=⟨G,0,none⟩) (.inr rfl)).trans g0,(h.cell (p:=⟨G,1,none⟩) (.inr rfl)).trans g1⟩
 have HC:=zq hcB;clear hB hg hW hG hcB;refine callsIn_of_wp func177 rfl h7 ?_ Ia;simp only[ntmps177,bW,bF,bY,cW,cX,bR,bS,cD,bU,cL,bZ];gi_wp2;gi_loopw [11] (fun i wr=>(i=aD aE 0∧J 0 wr∨i=aD aE 1∧J 4 wr)∧cY (fun k=>k=Bg∨k=G) W wr) (fun i _=>1-(aK i).toNat);case atStart=>exact⟨.inl ⟨rfl,h0⟩,cY.refl _ _⟩
 case round=>
  obtain⟨(⟨rfl,hJ⟩|⟨rfl,hJ⟩),hS⟩:=hrel
  ·rename aF=>wo;obtain⟨c0,c1,c2⟩:=HC.out wo hS;clear b0 g0 g1;gi_wp2;gi_loopw [19] (fun i wr=>(i=aD aE 0∧J 0 wr∨i=aD aE 1∧J 4 wr)∧cY (fun k=>k=Bg∨k=G) W wr) (fun i _=>1-(aK i).toNat);case atStart=>exact⟨.inl ⟨rfl,hJ⟩,hS⟩
   case round=>
    obtain⟨(⟨rfl,hJ2⟩|⟨rfl,hJ2⟩),hS2⟩:=hrel
    ·gi_wp2;gi_loopw [22] (fun i wr=>(∃k:Nat,k≤4∧i=aD aE (k:Int)∧J k wr)∧cY (fun k=>k=Bg∨k=G) W wr) (fun i _=>4-(aK i).toNat);case atStart=>exact⟨⟨0,by omega,rfl,hJ2⟩,hS2⟩
     case round=>
      obtain⟨⟨k,hk,rfl,Ve⟩,hS3⟩:=hrel;rename aF=>wi;by_cases hlt:k<4
      ·obtain⟨fn,tmps,assign,body,hy,hR⟩:=hY k wi hlt Ve;have Yo:(k:Int)<4:=by omega
       gi_wp2;refine hR.mono ?_;rintro e W3 (⟨rfl,hJ4,Yo⟩|⟨rfl,hJx4⟩)
       ·gi_wp2;go_roundw;case rel=>exact⟨⟨k+1,by omega,by go_num,hJ4⟩,hS3.trans Yo⟩
        case measure=>simp only[aK];omega
       ·gi_wp2;refine cI (tE rfl _ _ _) rfl ?_;exact⟨⟨_,rfl⟩,.inr ⟨k+1,by omega,hJx4⟩⟩
      ·obtain rfl:k=4:=by omega
       gi_wp2;go_roundw;case rel=>exact⟨.inr ⟨by go_num,Ve⟩,hS3⟩
       case measure=>simp only[aK];omega
    ·gi_wp2;go_roundw;case rel=>exact⟨.inr ⟨by go_num,hJ2⟩,hS2⟩
     case measure=>simp only[aK];omega
  ·gi_wp2;go_end0;exact⟨⟨_,rfl⟩,.inl hJ⟩
theorem ways_in(G:Nat)(w:aF):
 aW aC 100 #[bA (some ⟨G,0,none⟩)] w fun e w'=>e=aQ (.func (.func 177) #[] #[bA (some ⟨w.heap.size,0,none⟩)])∧w'=w.alloc (aJ #[bA (some ⟨G,0,none⟩)] 83):=by
 go_enter func100,ntmps100;go_wp2;go_ret;exact⟨rfl,rfl⟩
theorem WJ(G:Nat)(a b:Option cT)(ca cb:Nat)(w:aF)(hg:Ih w G (aB a 1 ca) (aB b 1 cb)):
 aW aC 40 #[bA (some ⟨G,0,none⟩)] w (Rt (aB none 0 0) w):=by
 have hmm:= @run_makeMap aC
 obtain⟨W0,eQ⟩:∃W,(((w.alloc (aJ #[bA (some ⟨G,0,none⟩)] 83)).alloc (.map #[] 0)).alloc (aJ #[.map (some (w.heap.size+1))] 146)).alloc (aJ #[aB none 0 0] 26)=W:=⟨_,rfl⟩
 have fA:Below w.heap.size w W0:=by rw[←eQ];exact((((aH _ _).alloc (aG _) _).alloc (by simp) _).alloc (by simp <;>omega) _).alloc (by simp <;>omega) _
 have q0:bT W0 w.heap.size #[bA (some ⟨G,0,none⟩)] 83:=by rw[←eQ];exact(((bT.new w _ _).alloc _).alloc _).alloc _
 have qm:W0.heap[w.heap.size+1]? =some (.map #[] 0):=by
  rw[←eQ]
  have e1:=heap_alloc_new (w.alloc (aJ #[bA (some ⟨G,0,none⟩)] 83)) (.map #[] 0)
  rw[bB]at e1
  refine(vS _ _ _ (by simp <;>omega)).trans ((vS _ _ _ (by simp)).trans e1)
 have q2:bT W0 (w.heap.size+1+1) #[.map (some (w.heap.size+1))] 146:=by
  rw[←eQ]
  have:=(bT.new ((w.alloc (aJ #[bA (some ⟨G,0,none⟩)] 83)).alloc (.map #[] 0)) #[.map (some (w.heap.size+1))] 146).alloc (aJ #[aB none 0 0] 26)
  rwa[bB,bB]at this
 have q3:bT W0 (w.heap.size+1+1+1) #[aB none 0 0] 26:=by
  rw[←eQ]
  have:=bT.new (((w.alloc (aJ #[bA (some ⟨G,0,none⟩)] 83)).alloc (.map #[] 0)).alloc (aJ #[.map (some (w.heap.size+1))] 146)) #[aB none 0 0] 26
  rwa[bB,bB,bB]at this
 have HG:=zq (hg.below fA)
 have gY:=zq fA
 have tD:=zq q0
 have HQm:=zq qm
 have DO:=zq q2
 have MY:=zq q3
 clear hg fA qm q2 q3
 refine dE func40 rfl ?_
 simp only[ntmps40,bW,bF,bY,cW,cX,bR,bS,cD,bU,cL,bZ]
 go_upto_region 3 with(fail)
 try rw[eQ]
 clear eQ
 have b1:=q0.cell 0
 simp only[aL,aI]at b1
 clear q0
 go_wp2_with fail
 refine(ways_in G W0).mono ?_
 rintro e W1⟨rfl,vQ⟩
 have hb1:Below W0.heap.size W0 W1:=by rw[vQ];exact(aH _ _).alloc (aG _) _
 have vR:bH (bT W1 W0.heap.size #[bA (some ⟨G,0,none⟩)] 83):=by rw[vQ];exact bT.new _ _ _
 have HG1:=zq (HG.out.below hb1)
 have eW:=zq (aU gY.out hb1)
 have tD:=zq (tD.out.below hb1 tD.out.lt)
 have HQm:=zq ((hb1.block _ (Array.getElem?_eq_some_iff.1 HQm.out).1).trans HQm.out)
 have DO:=zq (DO.out.below hb1 DO.out.lt)
 have MY:=zq (MY.out.below hb1 MY.out.lt)
 clear hb1 vQ HG b1
 generalize W0.heap.size=Bw at *
 go_wp2_with fail
 have hltk:∀k,(k=Bw∨k=G)→k<W1.heap.size:=fun k h=>h.elim (fun e=>by rw[e];exact vR.out.lt) (fun e=>by rw[e];obtain⟨_,_,_,h,-⟩:=HG1.out;exact h.lt)
 refine KW (gf:=177) (lb:= #[bA (some ⟨Bw,0,none⟩)]) rfl (nH func177 (by kernel_rfl) rfl)
  (ti Fence.wide 8 trivial rfl (by decide) Bw G a b ca cb W1 vR.out HG1.out).m cY.trans (cY.putObj hltk) (fun _=>rfl)
  (fun _ W=>Below W1.heap.size W1 W) (fun _ _ _=>False)
  (oA (aG _) (aG _)) (fun c _ _ _ _ hs _ _=>hs) (aH _ _)
  (fun a' k W=>(∃q,a'={tmps:= #[bA (some ⟨G,0,none⟩),bA (some ⟨w.heap.size,0,none⟩),aB none 0 0,bA (some ⟨w.heap.size+1+1,0,none⟩),bA (some ⟨w.heap.size+1+1+1,0,none⟩),bA (some ⟨q,0,none⟩),aP,aP,.map (some (w.heap.size+1)),bA (some ⟨G,0,none⟩),.func (.func 177) #[] #[bA (some ⟨Bw,0,none⟩)],cN #[aD aE 0,aD aE 0,aD aE k],aP,aP,aP,aP,aP,aP,aP,aP,aP,aP,aP,aP,aP,aP,aP,aP,aP,aP,aP,aP,aP,aP,aP,aP,aP,aP,aP,aP,aP,aP,aP],defers:=[]}∧bT W q #[aD aE 0,aD aE 0,aD aE k] 153)∧Below W1.heap.size W1 W)
  (fun a'=>cU (Own.from (fun s A B lM hs hg hr=>by obtain⟨q,e,h⟩:=hs;exact⟨q,e,h.own hg hr⟩) _) (oA (aG _) (aG _)))
  ?assign ?body ?done ?stop
 case assign=>
  intro l k W K hk hI hK
  obtain⟨V,hV⟩:∃V,W.alloc (aJ #[aD aE 0,aD aE 0,aD aE k] 153)=V:=⟨_,rfl⟩
  have hb:Below W.heap.size W V:=by rw[←hV];exact(aH _ _).alloc (aG _) _
  have HN:bH (bT V W.heap.size #[aD aE 0,aD aE 0,aD aE k] 153):=by rw[←hV];exact bT.new _ _ _
  have HKf:=zq ((iC hb).from W1.heap.size)
  have HSa:bH (cY (fun k=>k=Bw∨k=G) W V):=cY.below hb (fun k h=>bL (hltk k h) hI.size)
  have bp:=zq (aU hI hb)
  clear hb hI
  gi_wp2
  generalize W.heap.size=q at *
  exact hK _ _ HKf.out HSa.out ⟨⟨q,rfl,HN.out⟩,bp.out⟩
 case body=>
  rintro l k a' W hk⟨⟨q,rfl,hq⟩,hB⟩
  have JM:k<4:=hk
  have HB:=zq hB
  have hm:=(hB.block _ (Array.getElem?_eq_some_iff.1 HQm.out).1).trans HQm.out
  have HL:=look_wb hm 0 0 k
  have b0:=(tD.out.below hB tD.out.lt).cell 0
  have b2:=(DO.out.below hB DO.out.lt).cell 0
  simp only[aL,aI]at b0 b2
  obtain⟨e0,e1,e2⟩:=hq.three
  have HBd:=zq (Tp G (aB a 1 ca) (aB b 1 cb) k JM W (HG1.out.below hB))
  clear hB hq hm
  gi_wp2_with fail
  refine⟨trivial,(Calls.round HBd.out _ _).mono ?_⟩
  rintro e W2⟨rfl,hb2⟩
  have br:=zq ((iC hb2).from W1.heap.size)
  have HS2:bH (cY (fun k=>k=Bw∨k=G) W W2):=cY.below hb2 (fun k h=>bL (hltk k h) HB.out.size)
  have fR:=zq (aU HB.out hb2)
  clear hb2
  gi_wp2
  exact⟨br.out,HS2.out,fR.out⟩
 case done=>
  rintro D W hD hB hK
  have HB:=zq hB
  have HK:=zq hK
  have HD:=zq (bE eW.out.size hD)
  have b3:=(MY.out.below hB MY.out.lt).cell 0
  simp only[aL,aI]at b3
  clear hB hK hD
  go_wp2
  refine⟨by simp,.inl ⟨_,_,rfl,run_takeDeferred HK.out,?_⟩⟩
  exact⟨_,results_tmp Tryz.results40 _ _ _,rfl,(aU eW.out HB.out).trans (kR HD.out HK.out)⟩
 case stop=>
  rintro D c k W hD hk h
  exact absurd h (fun h=>h)
end
end
section
open Go Go.RowKit Go.Lib
def sideBad(nf:Nat)(p:Pt):Bool:=decide (p.side<0)||decide ((nf:Int)≤p.side)
def JD(fs:List Fr)(p q:Pt):Int:=(oY (fs.getD q.side.toNat default)-oY (fs.getD p.side.toNat default)+4).tmod 4
def BD(fs:List Fr)(l:Lp)(i:Int):Bool×Int:=
 if iL fs [] [l]≠0 then(false,iL fs [] [l])else if i<0∨(l.ps.length:Int)≤i then(false,6)else
  if(sideBad fs.length (l.ps.getD ((i.toNat+l.ps.length-1)%l.ps.length) default)||sideBad fs.length (l.ps.getD i.toNat default))=true then(false,1)else
   if JD fs (l.ps.getD ((i.toNat+l.ps.length-1)%l.ps.length) default) (l.ps.getD i.toNat default)=2 then(false,1)
   else(decide (JD fs (l.ps.getD ((i.toNat+l.ps.length-1)%l.ps.length) default) (l.ps.getD i.toNat default)=3),0)
theorem tj(f:Fr):0≤oY f∧oY f≤3:=by
 unfold oY;cases f.up<;>by_cases h:0<f.dir<;>simp[h]
def WK(w W:aF)(g h:Nat)(pc qc:Array aS):Prop:=bT W g pc 47∧bT W h qc 47∧Below w.heap.size w W
theorem YB(w:aF)(pc qc:Array aS):WK w ((w.alloc (aJ pc 47)).alloc (aJ qc 47)).drew w.heap.size (w.heap.size+1) pc qc:=by
 refine⟨(bT.new w _ _).alloc _,?_,(((aH _ w).alloc (aG _) _).alloc (by simp) _).drew⟩;have:=bT.new (w.alloc (aJ pc 47)) qc 47;rwa[bB]at this
theorem jointP2(w:aF)(pc qc:Array aS):WK w ((w.alloc (aJ qc 47)).alloc (aJ pc 47)).drew (w.heap.size+1) w.heap.size pc qc:=by
 obtain⟨a,b,c⟩:=YB w qc pc;exact⟨b,a,c⟩
end
end Go.Proofs.YtckgmoobicmbnaaGreatDoor
