import Derived.Test.YtcimoodjlopdaaaGreatDoorZ0
import Derived.Test.YtcimoodjlopdaaaGreatDoorZ6
import Derived.Test.YtcimoodjlopdaaaGreatDoorZ12
namespace Go.Proofs.YtcimoodjlopdaaaGreatDoor
set_option maxRecDepth 100000
set_option maxHeartbeats 8000000
set_option linter.all false
open Go.Proofs.Tryz
open Bool renaming or_eq_false_iff->fM,not_false->oK,not_true->pQ,false_and->qQ,true_and->xW
open Go renaming World->aE,Calls->aQ,Value->bB,maxLen->cA,bodyPost_ret->cD,run_string_add_lists->eX,results->qV,callFunc->BY,FuncId->Kq
open Go.ByteArray renaming toList_eq->cI
open Go.Calls renaming mono->wW
open Go.Ending renaming returned->aO
open Go.IntKind renaming i64->aG
open Go.IntWalk renaming i64_in->aP
open Go.Lib renaming itoa->bL,trimPrefix->JX,index->vj
open Go.Obj renaming cells->aL
open Go.Op renaming stringOp->mP
open Go.Proofs.Tryz renaming prog->aC,sizeOf104->gW,isAgg104->iI,results196->pC,results138->sV,ntmps145->QB,func145->Ud,ntmps73->Ue,ntmps75->Uf,ntmps86->Ug,ntmps76->Uh,func73->Ws,func75->Wt,func86->Wu,func76->Wv
open Go.RowKit renaming Below->aJ,Hid->aY
open Go.RowKit.Below renaming refl->aI,setCell->iX,alloc->lJ
open Go.Value renaming string->aA,int->aF,bool->aM,tuple->bO,pointer->cB,agg->dM
open Go.World renaming size_alloc->aS
open Int renaming natAbs_natCast->bP,natCast_mul->gZ,fdiv_eq_ediv_of_nonneg->sS
open List renaming getElem?_cons_zero->bD,getElem?_toArray->bJ,getElem?_cons_succ->cW,takeWhile_sublist->wM,isPrefixOf->vd
open MonadStateOf renaming set->UI
open Nat renaming le_refl->aD,gcd->cM,le_succ_of_le->dC,lt_of_le_of_lt->dF
section
open Go Go.RowKit Go.Lib
theorem cV{P:Program}{fn:Func}{p u:Tmp}{ty T:TypeId}(h:fn.results= #[.cell p ty,.tmp u])(tmps:Array bB)(w:aE)(g:Nat)(x y:bB)
 (hp:tmps.getD p undef=cB (some ⟨g,0,none⟩))(hb:bZ w g #[x,y] T)(ha:∀w,(isAgg ty).run P w=.ok true w)(hs:∀w,(sizeOf ty).run P w=.ok 2 w):
 (qV fn tmps).run P w=.ok (bO #[dM #[x,y],tmps.getD u undef]) w:=by
 have xq:tmps[p]?.getD undef=cB (some ⟨g,0,none⟩):=by simpa using hp
 have c0:=hb.ce 0;have c1:=hb.ce 1;simp[qV,h,go_sem,xq,c0,c1,ha,hs]
theorem JG:∀l:List UInt8,vj l [47]=if tM l=true then((nS l).length:Int)else -1
 |[]=>by decide
 |c::l=>by
  have ih:=JG l
  by_cases h:c=47
  ·subst h
   rw[(yN l).2.2,(yN l).1]
   simp[vj,vd]
  ·obtain⟨h1,_,h3⟩:=zY c l h
   rw[h1,h3]
   have hp:([47]:List UInt8).isPrefixOf (c::l)=false:=by simp[vd];exact fun e=>h e.symm
   rw[vj,hp,ih]
   by_cases hs:tM l=true
   ·rw[hs];simp
   ·simp[hs]
theorem Y9(l:List UInt8):Lib.cut l [47]=(nS l,dS l,tM l):=by
 unfold Lib.cut;rw[JG];by_cases hs:tM l=true
 ·have e:=AK l hs;rw[hs,ip rfl,ip (by omega),Int.toNat_natCast];generalize nS l=N at *;generalize dS l=D at *;subst e;simp
 ·have e:=rK l (by simpa using hs);rw[iN hs,iN (by decide),e.1,e.2];simp[hs]
def jb(s:List UInt8):bB:=
 if RV s=true then bO #[dM #[aA (bs (nS s)),aA (bs (dT s))],aM true]else bO #[dM #[aA (bs []),aA (bs [])],aM false]
theorem yk(a:ByteArray)(w:aE)(hE:eZ w)(hs:a.size≤8000000):
 aQ aC 196 #[aA a] w (Rt (jb a.data.toList) w):=by
 have HC:=zq (fun(W:aE)(hb:aJ w.heap.size w W)=>vz a {data:= #[47]} W (hE.below hb) (by omega));rw[show({data:= #[47]}:ByteArray).data.toList=[47]from rfl,Y9]at HC;have HP:=zq (fun W=>Am (bs (nS a.data.toList)) {data:= #[45]} W);rw[show(bs (nS a.data.toList)).data.toList=nS a.data.toList from rfl,show({data:= #[45]}:ByteArray).data.toList=[45]from rfl,pZ,xG,←DK]at HP;have hn:(nS a.data.toList).length≤a.data.toList.length:=by unfold nS;exact(wM _).length_le
 have hd:(dS a.data.toList).length≤a.data.toList.length:=by
  unfold dS;rw[List.length_tail];have:=(List.dropWhile_sublist (fun c=>c !=47) (l:=a.data.toList)).length_le;omega
 have zW:=gP (nS a.data.toList);have hl:a.data.toList.length=a.size:=rfl;obtain⟨N,hN⟩:=nm (bs (mag (nS a.data.toList)));obtain⟨D,hD⟩:=nm (bs (dS a.data.toList));have sN:N.size≤8000000:=by rw[←hN,bU];omega
 have sD:D.size≤8000000:=by rw[←hD,bU];omega
 have HdN:=zq (fun W=>LC N W (by unfold cA;omega));have HdD:=zq (fun W=>LC D W (by unfold cA;omega));have eN:mag (nS a.data.toList)=N.data.toList:=by rw[←hN,aX]
 have eD:dS a.data.toList=D.data.toList:=by rw[←hD,aX]
 have zN:(N.toList==[48])=(N.data.toList==[48]):=by rw[cI]
 have zD:(D.toList==[48])=(D.data.toList==[48]):=by rw[cI]
 have oD:(D.toList==[49])=(D.data.toList==[49]):=by rw[cI]
 have hok:RV a.data.toList=(nZ N.data.toList&&(!dY a||N.data.toList !=[48])&&(!tM a.data.toList||(nZ D.data.toList&&D.data.toList !=[48]&&D.data.toList !=[49]))):=by
  unfold RV wS;rw[eN,eD,DK];congr 2;congr 1;by_cases h:(nS a.data.toList).head? =some 45<;>simp[h]
 have R:aY (jb a.data.toList=if RV a.data.toList=true then bO #[dM #[aA (bs (nS a.data.toList)),aA (if tM a.data.toList=true then D else{data:= #[49]})],aM true]else bO #[dM #[aA (bs []),aA (bs [])],aM false]):=by
  show _=_;unfold jb dT;by_cases h:tM a.data.toList=true
  ·rw[ip h,ip h,hD]
  ·rw[iN h,iN h];rfl
 rw[hok]at R;rw[hD]at HC;rw[hN]at HP;clear hE hs hn hd zW hl hN hD eN eD hok sN sD;generalize bs (nS a.data.toList)=B at *;generalize tM a.data.toList=s at *;obtain⟨m,hm⟩:=nm (dY a);rw[hm]at HP R;clear hm;have W0:∀W1,aJ (w.alloc (aL #[aA {data:= #[]},aA {data:= #[]}] 104)).heap.size (w.alloc (aL #[aA {data:= #[]},aA {data:= #[]}] 104)) W1→
  aJ w.heap.size w W1∧bZ W1 w.heap.size #[aA {data:= #[]},aA {data:= #[]}] 104:=by
  intro W1 h;exact⟨aH ((aI _ w).alloc (aD _) _) h (by simp),(bZ.new w _ _).below h (by simp)⟩
 have iz:=zq W0;clear W0;go_enter func196,ntmps196;go_wp2_with fail
 refine ka (HC.out _ ((aI _ w).alloc (aD _) _)) fun W1 hb1=>?_;obtain⟨hB,hb⟩:=iz.out _ hb1;have Dx:=hb.lt;have c0:=hb.ce 0;have c1:=hb.ce 1;have f0:=hb.fz 0;have f1:=hb.fz 1;have BK:=zq hb;clear hb1 hb iz HC;go_wp2_with fail
 refine kr (HP.out _) ?_;go_wp2_with fail
 refine(HdN.out _).mono ?_;rintro e W3⟨⟨k,rfl,hk,wO⟩,rfl⟩;by_cases h1:nZ N.data.toList=true
 ·obtain⟨Rm,UN⟩:=wO.1 h1;have k0:((k:Int)==0)=false:=by rw[beq_eq_false_iff_ne];omega
  have k1:¬k<N.size:=by omega
  rw[h1,xW]at R;clear wO hk Rm UN h1;by_cases hz:(!m||N.data.toList !=[48])=true
  ·rw[hz,xW]at R;have hz2:m=false∨(m=true∧(N.toList==[48])=false):=by
    cases m
    ·exact .inl rfl
    ·right;rw[zN];exact⟨rfl,by simpa using hz⟩
   clear hz zN;cases s with
   |false=>
    rw[oK,Bool.true_or,ip rfl,iN (by decide)]at R;rcases hz2 with rfl|⟨rfl,hz2⟩;all_goals
     go_wp2;exact cD (cV (T:=104) pC _ _ w.heap.size _ _ rfl ((BK.out.set 0 _).set 1 _) iI gW) rfl ⟨by rw[R.out];rfl,(hB.setCell (aD _) _).setCell (aD _) _⟩
   |true=>
    rw[pQ,Bool.false_or,ip rfl]at R;rcases hz2 with rfl|⟨rfl,hz2⟩;all_goals
     go_wp2_with fail
     refine(HdD.out _).mono ?_;rintro e W3⟨⟨k2,rfl,hk,wO⟩,rfl⟩;by_cases h1:nZ D.data.toList=true
     ·obtain⟨Rm,UN⟩:=wO.1 h1;have q0:((k2:Int)==0)=false:=by rw[beq_eq_false_iff_ne];omega
      have q1:¬k2<D.size:=by omega
      rw[h1,xW]at R;clear wO hk Rm UN h1;by_cases h48:(D.data.toList==[48])=true
      ·rw[h48]at zD;rw[bne,h48,pQ,qQ,iN (by decide)]at R;clear h48 oD;go_wp2;exact cD (cV (T:=104) pC _ _ w.heap.size _ _ rfl ((BK.out.set 0 _).set 1 _) iI gW) rfl ⟨by rw[R.out];rfl,(hB.setCell (aD _) _).setCell (aD _) _⟩
      ·have h48:(D.data.toList==[48])=false:=by simpa using h48
       rw[h48]at zD;rw[bne,h48,oK,xW,bne]at R;clear h48;by_cases h49:(D.data.toList==[49])=true
       ·rw[h49]at oD;rw[h49,pQ,iN (by decide)]at R;clear h49;go_wp2;exact cD (cV (T:=104) pC _ _ w.heap.size _ _ rfl ((BK.out.set 0 _).set 1 _) iI gW) rfl ⟨by rw[R.out];rfl,(hB.setCell (aD _) _).setCell (aD _) _⟩
       ·have h49:(D.data.toList==[49])=false:=by simpa using h49
        rw[h49]at oD;rw[h49,oK,ip rfl]at R;clear h49;go_wp2;exact cD (cV (T:=104) pC _ _ w.heap.size _ _ rfl ((BK.out.set 0 _).set 1 _) iI gW) rfl ⟨by rw[R.out];rfl,(hB.setCell (aD _) _).setCell (aD _) _⟩
     ·have h1:nZ D.data.toList=false:=by simpa using h1
      rw[h1,qQ,qQ,iN (by decide)]at R;have hkd:k2=0∨(((k2:Int)==0)=false∧k2<D.size):=by
       by_cases q0:k2=0
       ·exact .inl q0
       ·right;have:¬k2=D.size:=fun e=>by have:=wO.2 ⟨e,by omega⟩;rw[h1]at this;cases this
        exact⟨by rw[beq_eq_false_iff_ne];omega,by omega⟩
      clear wO hk h1 zD oD;rcases hkd with rfl|⟨q0,q1⟩;all_goals
       go_wp2;exact cD (cV (T:=104) pC _ _ w.heap.size _ _ rfl ((BK.out.set 0 _).set 1 _) iI gW) rfl ⟨by rw[R.out];rfl,(hB.setCell (aD _) _).setCell (aD _) _⟩
  ·have hz:(!m||N.data.toList !=[48])=false:=by simpa using hz
   rw[hz,qQ,iN (by decide)]at R;have hm:m=true:=by cases m;(simp at hz);rfl
   subst hm;have e48:(N.toList==[48])=true:=by rw[zN];simpa using hz
   clear hz zN;go_wp2;exact cD (cV (T:=104) pC _ _ w.heap.size _ _ rfl ((BK.out.set 0 _).set 1 _) iI gW) rfl ⟨by rw[R.out];rfl,(hB.setCell (aD _) _).setCell (aD _) _⟩
 ·have h1:nZ N.data.toList=false:=by simpa using h1
  rw[h1,qQ,qQ,iN (by decide)]at R;have hkd:k=0∨(((k:Int)==0)=false∧k<N.size):=by
   by_cases q0:k=0
   ·exact .inl q0
   ·right;have:¬k=N.size:=fun e=>by have:=wO.2 ⟨e,by omega⟩;rw[h1]at this;cases this
    exact⟨by rw[beq_eq_false_iff_ne];omega,by omega⟩
  clear wO hk h1 zN;rcases hkd with rfl|⟨q0,q1⟩;all_goals
   go_wp2;exact cD (cV (T:=104) pC _ _ w.heap.size _ _ rfl ((BK.out.set 0 _).set 1 _) iI gW) rfl ⟨by rw[R.out];rfl,(hB.setCell (aD _) _).setCell (aD _) _⟩
def AX(s:List UInt8):bB:=
 if cQ s=0 then bO #[dM #[aA (bs (nS s)),aA (bs (dT s))],aF aG 0]else bO #[dM #[aA (bs []),aA (bs [])],aF aG (cQ s)]
theorem dT_len(s:List UInt8):(300<(dT s).length)↔(300<(dS s).length):=by
 unfold dT;by_cases h:tM s=true
 ·rw[ip h]
 ·rw[iN h,(rK s (by simpa using h)).2];decide
theorem dT_one{s:List UInt8}(h:RV s=true):(dT s==[49])= !tM s:=by
 unfold dT;by_cases k:tM s=true
 ·have:=((jZ h).2 k).2.2;rw[ip k,k];simpa using this
 ·rw[iN k];simp[k]
theorem Za{s:List UInt8}(h:RV s=true):cQ s=if zZ s=true then 4 else if tM s=true then(if(cM (dI (nS s)).natAbs (num (dS s))==1)=true then 0 else 11)else 0:=by
 rw[cQ,ip h];congr 1;unfold qN qD;by_cases k:tM s=true
 ·rw[ip k,ip k];by_cases g:cM (dI (nS s)).natAbs (num (dS s))=1
  ·rw[ip g,ip (by simp[g])]
  ·rw[iN g,iN (by simp[g])]
 ·rw[iN k,iN k,ip (Nat.gcd_one_right _)]
theorem tY(a:ByteArray)(w:aE)(hE:eZ w)(hs:a.size≤8000000):
 aQ aC 138 #[aA a] w (Rt (AX a.data.toList) w):=by
 have hn:(nS a.data.toList).length≤a.data.toList.length:=by unfold nS;exact(wM _).length_le
 have hl:a.data.toList.length=a.size:=rfl;have Hc:=zq (yk a _ (hE.below ((aI _ w).alloc (aD _) (aL #[aA {data:= #[]},aA {data:= #[]}] 104))) hs);have iz:aY (∀W1,aJ (w.alloc (aL #[aA {data:= #[]},aA {data:= #[]}] 104)).heap.size (w.alloc (aL #[aA {data:= #[]},aA {data:= #[]}] 104)) W1→
  aJ w.heap.size w W1∧bZ W1 w.heap.size #[aA {data:= #[]},aA {data:= #[]}] 104):=by
  intro W1 h;exact⟨aH ((aI _ w).alloc (aD _) _) h (by simp),(bZ.new w _ _).below h (by simp)⟩
 by_cases hok:RV a.data.toList=true
 ·rw[jb,ip hok]at Hc;have Hn:=zq (fun W=>BE a W (by unfold cA;omega));rw[Ve]at Hn;have hN:wS (nS a.data.toList)=true:=(jZ hok).1;have hf:=Za hok;have h1:((bs (dT a.data.toList)).toList==[49])= !tM a.data.toList:=by rw[vC];exact dT_one hok
  have HT:=zq (fun W=>pX (bs (nS a.data.toList)) {data:= #[45]} W);rw[show(bs (nS a.data.toList)).data.toList=nS a.data.toList from rfl,show({data:= #[45]}:ByteArray).data.toList=[45]from rfl,pZ]at HT;have fg:=dT_len a.data.toList;have hlong:zZ a.data.toList=(decide (300<(mag (nS a.data.toList)).length)||decide (300<(dT a.data.toList).length)):=by unfold zZ;congr 1;exact decide_eq_decide.2 fg.symm
  have sm:(bs (mag (nS a.data.toList))).size=(mag (nS a.data.toList)).length:=bU _;have sd:(bs (dT a.data.toList)).size=(dT a.data.toList).length:=bU _;have HG:aY (zZ a.data.toList=false→tM a.data.toList=true→∀W,aJ w.heap.size w W→aQ aC 146 #[aA (bs (nS a.data.toList)),aA (bs (dT a.data.toList))] W fun e w'=>
   e=aO (bO #[aA (bs (bL ((cM (dI (nS a.data.toList)).natAbs (num (dS a.data.toList)):Nat):Int))),aF aG 0])∧aJ W.heap.size W w'):=by
   intro e1 e2 W hW;obtain⟨d1,-,-⟩:=(jZ hok).2 e2;obtain⟨i1,i2,i3⟩:=E5 d1;rw[hlong,fM,decide_eq_false_iff_not,decide_eq_false_iff_not,fg]at e1;have hdT:dT a.data.toList=dS a.data.toList:=ip e2;have k1:jE (nS a.data.toList)=0:=by rw[jE,ip hN,iN e1.1]
   have k2:jE (dS a.data.toList)=0:=by rw[jE,ip i1,i2,iN e1.2]
   have hl2:(dS a.data.toList).length≤300:=by omega
   have:=Xq (bs (nS a.data.toList)) (bs (dT a.data.toList)) W (hE.below hW) (by rw[bU];unfold cA;omega) (by rw[bU,hdT];unfold cA;omega);rw[aX,aX,hdT,CI,ip (by rw[dK,ip k1];exact k2),i3,bP]at this;rw[hdT];exact this
  have R0:aY (∀c,cQ a.data.toList=c→AX a.data.toList=if c=0 then bO #[dM #[aA (bs (nS a.data.toList)),aA (bs (dT a.data.toList))],aF aG 0]else bO #[dM #[aA (bs []),aA (bs [])],aF aG c]):=by
   intro c e;subst e;rfl
  clear fg hs hE hn hl hN;generalize hm:mag (nS a.data.toList)=M at *;generalize bs (nS a.data.toList)=N at *;obtain⟨DT,hDT⟩:=nm (bs (dT a.data.toList));rw[hDT]at Hc sd HG R0 h1;clear hDT hm;generalize(dT a.data.toList).length=ld at *;generalize tM a.data.toList=s at *;obtain⟨g,hg⟩:=nm (cM (dI (nS a.data.toList)).natAbs (num (dS a.data.toList)));rw[hg]at hf HG;clear hg;go_enter func138,ntmps138;go_wp2_with fail
  refine ka Hc.out fun W1 hb1=>?_;obtain⟨hB,hb⟩:=iz.out _ hb1;have hlt:=hb.lt;have hq:bZ (W1.alloc (aL #[aA N,aA DT] 104)) W1.heap.size #[aA N,aA DT] 104:=bZ.new W1 _ _;have hb:=hb.alloc (aL #[aA N,aA DT] 104);have hB:=hB.alloc (Nat.le_of_lt hlt) (aL #[aA N,aA DT] 104);clear hb1 iz Hc;by_cases hQ:nU a.data.toList=true
  ·have R:aY (AX a.data.toList=bO #[dM #[aA N,aA DT],aF aG 0]):=by
    show _=_;have e:cQ a.data.toList=0:=by
     unfold nU at hQ;rw[Bool.and_eq_true,decide_eq_true_eq]at hQ;exact hQ.1
    exact R0.out 0 e
   rw[ip hQ]at Hn;obtain⟨x,y,hx⟩:∃x y:Int,xI (dY a) (some (num M,qD a.data.toList))=bO #[dM #[aF aG x,aF aG y],aM true]:=⟨_,_,rfl⟩;rw[hx]at Hn;clear hx;clear hQ hf R0 HG hlong h1 sd sm HT hok;go_wp2_with fail
   refine ka (Hn.out _) fun W2 hb2=>?_;have AB:=hb2.size;simp only[aS]at AB;have hq:=hq.below hb2 (by simp);have hb:=hb.below hb2 (by simp;omega);have hB:=aH hB hb2 (by simp;omega);have c0:=hb.ce 0;have c1:=hb.ce 1;have f0:=hb.fz 0;have f1:=hb.fz 1;have d0:=hq.ce 0;have d1:=hq.ce 1;have BK:=zq hb;have hlt2:W1.heap.size<W2.heap.size:=by omega
   have hlt3:w.heap.size<W2.heap.size:=by omega
   clear hb2 hq hb AB;go_wp2;exact cD (cV (T:=104) sV _ _ w.heap.size _ _ rfl (by first |exact(BK.out.set 0 _).set 1 _|exact((BK.out.set 0 _).set 1 _).alloc _) iI gW) rfl ⟨by rw[R.out];rfl,by repeat(first |exact hB|refine iX ?_ (by exact aD _) _|refine lJ ?_ (by simp;omega) _)⟩
  ·rw[iN hQ]at Hn;unfold xI at Hn;clear hQ;go_wp2_with fail
   refine ka (Hn.out _) fun W2 hb2=>?_;have AB:=hb2.size;simp only[aS]at AB;have hq:=hq.below hb2 (by simp);have hb:=hb.below hb2 (by simp;omega);have hB:=aH hB hb2 (by simp;omega);have hlt2:W1.heap.size<W2.heap.size:=by omega
   have hlt3:w.heap.size<W2.heap.size:=by omega
   have c0:=hb.ce 0;have c1:=hb.ce 1;have f0:=hb.fz 0;have f1:=hb.fz 1;have d0:=hq.ce 0;have d1:=hq.ce 1;have BK:=zq hb;have hq':=zq hq;clear hb2 hq AB Hn hb;by_cases hL:zZ a.data.toList=true
   ·have R:aY (AX a.data.toList=bO #[dM #[aA (bs []),aA (bs [])],aF aG 4]):=R0.out 4 (by rw[hf,ip hL]);rw[hL]at hlong;have hl2:(300:Int)<((bs M).size:Int)∨(((bs M).size:Int)≤300∧(300:Int)<(DT.size:Int)):=by
     have:=hlong.symm;rw[Bool.or_eq_true,decide_eq_true_eq,decide_eq_true_eq]at this;omega
    clear hL hlong hf R0 HG sm sd h1 hok;rcases hl2 with l1|⟨l1,l2⟩;all_goals
     go_wp2_with fail
     refine kr (HT.out _) ?_;go_wp2;exact cD (cV (T:=104) sV _ _ w.heap.size _ _ rfl (by first |exact(BK.out.set 0 _).set 1 _|exact((BK.out.set 0 _).set 1 _).alloc _) iI gW) rfl ⟨by rw[R.out];rfl,by repeat(first |exact hB|refine iX ?_ (by exact aD _) _|refine lJ ?_ (by simp;omega) _)⟩
   ·have hL:zZ a.data.toList=false:=by simpa using hL
    have tq:=zq (HG.out hL);clear HG;rw[hL]at hlong hf;have l1:((bs M).size:Int)≤300∧(DT.size:Int)≤300:=by
     have:=hlong.symm;rw[fM,decide_eq_false_iff_not,decide_eq_false_iff_not]at this;omega
    obtain⟨l1,l2⟩:=l1;rw[iN (by decide)]at hf;clear hL hlong sm sd hok;cases s with
    |false=>
     have R:aY (AX a.data.toList=bO #[dM #[aA N,aA DT],aF aG 0]):=R0.out 0 (by rw[hf];rfl);clear hf R0 tq;go_wp2_with fail
     refine kr (HT.out _) ?_;go_wp2;exact cD (cV (T:=104) sV _ _ w.heap.size _ _ rfl (by first |exact(BK.out.set 0 _).set 1 _|exact((BK.out.set 0 _).set 1 _).alloc _) iI gW) rfl ⟨by rw[R.out];rfl,by repeat(first |exact hB|refine iX ?_ (by exact aD _) _|refine lJ ?_ (by simp;omega) _)⟩
    |true=>
     have HG2:=zq (tq.out rfl);clear tq;by_cases hg:g=1
     ·have R:aY (AX a.data.toList=bO #[dM #[aA N,aA DT],aF aG 0]):=R0.out 0 (by rw[hf,hg];rfl);have e1:(bs (bL ((g:Nat):Int))).toList=[49]:=by rw[cI,aX,hg];exact(iT 1).trans rL
      clear hf R0 hg;generalize bs (bL ((g:Nat):Int))=G at *;go_wp2_with fail
      refine kr (HT.out _) ?_;go_wp2_with fail
      refine ka (HG2.out _ (hB.alloc (by omega) _)) fun W4 hb4=>?_;have Uv:=hb4.size;simp only[aS]at Uv;have hb:=(BK.out.alloc _).below hb4 (by simp;omega);have hq:=(hq'.out.alloc _).below hb4 (by simp;omega);have hB:=aH (hB.alloc (by omega) _) hb4 (by simp;omega);have c0:=hb.ce 0;have c1:=hb.ce 1;have f0:=hb.fz 0;have f1:=hb.fz 1;have d0:=hq.ce 0;have d1:=hq.ce 1;have hlt4:w.heap.size<W4.heap.size:=by omega
      replace BK:=zq hb;clear hb hq hb4 Uv HG2;go_wp2;exact cD (cV (T:=104) sV _ _ w.heap.size _ _ rfl (by first |exact(BK.out.set 0 _).set 1 _|exact((BK.out.set 0 _).set 1 _).alloc _) iI gW) rfl ⟨by rw[R.out];rfl,by repeat(first |exact hB|refine iX ?_ (by exact aD _) _|refine lJ ?_ (by simp;omega) _)⟩
     ·have R:aY (AX a.data.toList=bO #[dM #[aA (bs []),aA (bs [])],aF aG 11]):=R0.out 11 (by rw[hf];simp[hg]);have e1:((bs (bL ((g:Nat):Int))).toList==[49])=false:=by rw[vC,CR];exact decide_eq_false hg
      clear hf R0 hg;generalize bs (bL ((g:Nat):Int))=G at *;go_wp2_with fail
      refine kr (HT.out _) ?_;go_wp2_with fail
      refine ka (HG2.out _ (hB.alloc (by omega) _)) fun W4 hb4=>?_;have Uv:=hb4.size;simp only[aS]at Uv;have hb:=(BK.out.alloc _).below hb4 (by simp;omega);have hq:=(hq'.out.alloc _).below hb4 (by simp;omega);have hB:=aH (hB.alloc (by omega) _) hb4 (by simp;omega);have c0:=hb.ce 0;have c1:=hb.ce 1;have f0:=hb.fz 0;have f1:=hb.fz 1;have d0:=hq.ce 0;have d1:=hq.ce 1;have hlt4:w.heap.size<W4.heap.size:=by omega
      replace BK:=zq hb;clear hb hq hb4 Uv HG2;go_wp2;exact cD (cV (T:=104) sV _ _ w.heap.size _ _ rfl (by first |exact(BK.out.set 0 _).set 1 _|exact((BK.out.set 0 _).set 1 _).alloc _) iI gW) rfl ⟨by rw[R.out];rfl,by repeat(first |exact hB|refine iX ?_ (by exact aD _) _|refine lJ ?_ (by simp;omega) _)⟩
 ·have R:aY (AX a.data.toList=bO #[dM #[aA (bs []),aA (bs [])],aF aG 11]):=by
   show _=_;have e:cQ a.data.toList=11:=by rw[cQ,iN hok]
   rw[AX,e];rfl
  rw[jb,iN hok]at Hc;clear hok hn hl hs;go_enter func138,ntmps138;go_wp2_with fail
  refine ka Hc.out fun W1 hb1=>?_;obtain⟨hB,hb⟩:=iz.out _ hb1;have c0:=hb.ce 0;have c1:=hb.ce 1;have f0:=hb.fz 0;have f1:=hb.fz 1;have hlt:=hb.lt;have BK:=zq hb;clear hb1 hb iz Hc;go_wp2;exact cD (cV (T:=104) sV _ _ w.heap.size _ _ rfl (by first |exact(BK.out.set 0 _).set 1 _|exact((BK.out.set 0 _).set 1 _).alloc _) iI gW) rfl ⟨by rw[R.out];rfl,by repeat(first |exact hB|refine iX ?_ (by exact aD _) _|refine lJ ?_ (by simp;omega) _)⟩
def rN(s:List UInt8):List UInt8:=if cQ s=0 then nS s else[]
def rD(s:List UInt8):List UInt8:=if cQ s=0 then dT s else[]
theorem GH(s:List UInt8):AX s=bO #[dM #[aA (bs (rN s)),aA (bs (rD s))],aF aG (cQ s)]:=by
 unfold AX rN rD;by_cases h:cQ s=0
 ·rw[ip h,ip h,ip h,h]
 ·rw[iN h,iN h,iN h]
theorem DQ(a:ByteArray)(w:aE)(hE:eZ w)(hs:a.size≤8000000):
 aQ aC 82 #[aA a] w (Rt (aF aG (cQ a.data.toList)) w):=by
 have Hr:=zq (tY a w hE hs);rw[GH]at Hr;go_enter func82,ntmps82;go_wp2_with fail
 refine Hr.out.mono ?_;rintro e W1⟨rfl,hb1⟩;go_wp2;go_ret;exact⟨rfl,hb1.alloc hb1.size _⟩
theorem N5(a:ByteArray)(w:aE)(hE:eZ w)(hs:a.size≤8000000):
 aQ aC 99 #[aA a] w (Rt (bO #[aA (bs (rN a.data.toList)),aA (bs (rD a.data.toList)),aF aG (cQ a.data.toList)]) w):=by
 have Hr:=zq (tY a w hE hs);rw[GH]at Hr;generalize cQ a.data.toList=c at *;generalize bs (rN a.data.toList)=N at *;generalize bs (rD a.data.toList)=D at *;go_enter func99,ntmps99;go_wp2_with fail
 refine Hr.out.mono ?_;rintro e W1⟨rfl,hb1⟩;go_wp2;go_region;go_wp2;go_ret3;exact⟨rfl,below_drewN (hb1.alloc hb1.size _) 1⟩
theorem JH(z:Int):Lib.hasPrefix (bL z) [45]=decide (z<0):=by
 rw[xG];exact decide_eq_decide.2 (sG z)
theorem Zb{z:Int}(h:z<0):JX (bL z) [45]=bL (-z):=by
 rw[pZ,oM,gO (by omega),Int.natAbs_neg]
theorem GI(z:Int)(w:aE)(hz:z.natAbs<10^300):
 aQ aC 145 #[aA (bs (bL z))] w fun e w'=>e=aO (aA (bs (bL (-z))))∧w=w':=by
 have h0:((bs (bL z)).toList==[48])=decide (z=0):=by rw[vC];exact An z
 have HP:=zq (fun W=>Am (bs (bL z)) {data:= #[45]} W);rw[show(bs (bL z)).data.toList=bL z from rfl,show({data:= #[45]}:ByteArray).data.toList=[45]from rfl,JH]at HP;have ls:=eH hz;have Fa:aY (0<z→∀W,(mP .add {data:= #[45]} (bs (bL z))).run aC W=.ok (aA (bs (bL (-z)))) W):=by
  intro h W;have:=eX (P:=aC) W [45] (bL z) (by decide) (by rw[bU]at ls;omega);rw[show[45]++bL z=bL (-z)from E9 h]at this;exact this
 by_cases c0:z=0
 ·subst c0;rw[show(-(0:Int))=0 from rfl];clear HP Fa hz ls;generalize bs (bL 0)=A at *;rw[decide_eq_true rfl]at h0;go_enter Ud,QB;go_wp2;go_ret;exact⟨rfl,rfl⟩
 ·rw[decide_eq_false c0]at h0;by_cases cn:z<0
  ·rw[decide_eq_true cn,Zb cn]at HP;clear Fa hz ls c0 cn;generalize bs (bL z)=A at *;generalize bs (bL (-z))=B at *;go_enter Ud,QB;go_wp2_with fail
   refine(HP.out _).mono ?_;rintro e W1⟨rfl,rfl⟩;go_wp2;go_ret;exact⟨rfl,rfl⟩
  ·have hc:=Fa.out (by omega);rw[decide_eq_false cn]at HP;clear Fa hz ls c0 cn;generalize bs (bL z)=A at *;generalize bs (bL (-z))=B at *;generalize bs (JX (bL z) [45])=C at *;go_enter Ud,QB;go_wp2_with fail
   refine(HP.out _).mono ?_;rintro e W1⟨rfl,rfl⟩;go_wp2;go_ret;exact⟨rfl,rfl⟩
theorem jc(u:Int)(v:Nat)(hv:v≠0):u.fdiv ((cM u.natAbs v:Nat):Int)=(mkRat u v).num∧((v:Nat):Int).fdiv ((cM u.natAbs v:Nat):Int)=(((mkRat u v).den:Nat):Int):=by
 obtain⟨q1,q2⟩:=vY u v hv;rw[sS _ (by omega),sS _ (by omega),q1,q2,Int.natCast_ediv];exact⟨rfl,rfl⟩
theorem Zc(x y:Int)(w:aE)(hE:eZ w)(hx:x.natAbs<10^300)(hy:y.natAbs<10^300):
 aQ aC 146 #[aA (bs (bL x)),aA (bs (bL y))] w (Rt (bO #[aA (bs (bL ((cM x.natAbs y.natAbs:Nat):Int))),aF aG 0]) w):=by
 have:=Xq (bs (bL x)) (bs (bL y)) w hE (by have:=eH hx;simp only[cA];omega) (by have:=eH hy;simp only[cA];omega);rwa[aX,aX,NU hx hy]at this
theorem GJ(x y:Int)(w:aE)(hE:eZ w)(hx:x.natAbs<10^300)(hy:y.natAbs<10^300)(h0:y≠0):
 aQ aC 147 #[aA (bs (bL x)),aA (bs (bL y))] w (Rt (bO #[aA (bs (bL (x.fdiv y))),aA (bs (bL (x.fmod y))),aF aG 0]) w):=by
 have:=Vv (bs (bL x)) (bs (bL y)) w hE (by have:=eH hx;simp only[cA];omega) (by have:=eH hy;simp only[cA];omega);unfold tX at this;rwa[aX,aX,Iz hx hy h0]at this
theorem AY(x y:Int)(w:aE)(hE:eZ w)(hx:x.natAbs<10^300)(hy:y.natAbs<10^300):
 aQ aC 77 #[aA (bs (bL x)),aA (bs (bL y))] w (Rt (bO #[aA (bs (iY (x*y)).1),aF aG (iY (x*y)).2]) w):=by
 have:=yi (bs (bL x)) (bs (bL y)) w hE (by have:=eH hx;simp only[cA];omega) (by have:=eH hy;simp only[cA];omega);rwa[aX,aX,NR hx hy]at this
def txt(n:Int)(d:Nat):List UInt8:=if d=1 then bL n else bL n++47::bL (d:Int)
theorem jd(q:Rat):aV q=txt q.num q.den:=by
 rw[aV,txt,iT]
theorem Ff(x y:Int)(w:aE)(hE:eZ w)(hx:x.natAbs<10^300)(hy:y.natAbs<10^300)(h0:y≠0):
 aQ aC 78 #[aA (bs (bL x)),aA (bs (bL y))] w (Rt (bO #[aA (bs (aV (mkRat (wN x y) y.natAbs))),aF aG 0]) w):=by
 have HP:=zq (fun W=>Er (bs (bL y)) {data:= #[45]} W);rw[show(bs (bL y)).data.toList=bL y from rfl,show({data:= #[45]}:ByteArray).data.toList=[45]from rfl,JH]at HP;have yj:=zq (fun W=>GI x W hx);have Bq:=zq (fun W=>GI y W hy);obtain⟨X,hX⟩:=nm (bs (bL x));obtain⟨Y,hY⟩:=nm (bs (bL y));rw[hY]at HP;rw[hX]at yj;rw[hY]at Bq;rw[hX,hY];have HX:=zq hX;have HY:=zq hY;clear hX hY;go_enter func78,ntmps78;go_wp2_with fail
 refine kr (HP.out _) ?_;go_upto_if 9 with fail;go_cut[0,1] (fun n d w'=>n=aA (bs (bL (wN x y)))∧d=aA (bs (bL ((y.natAbs:Nat):Int)))∧w=w');case first =>
  by_cases hy0:y<0
  ·have EX:aY (wN x y= -x):=ip hy0;have EY:aY (((y.natAbs:Nat):Int)= -y):=by show _=_;omega
   clear hx hy h0 hE;go_wp2_with fail
   refine kr (yj.out _) ?_;go_wp2_with fail
   refine kr (Bq.out _) ?_;go_wp2;go_meet;case rel=>exact⟨by rw[EX.out],by rw[EY.out],rfl⟩
  ·have EX:aY (wN x y=x):=iN hy0;have EY:aY (((y.natAbs:Nat):Int)=y):=by show _=_;omega
   clear hx hy h0 hE;go_wp2;go_meet;case rel=>exact⟨by rw[EX.out,HX.out],by rw[EY.out,HY.out],rfl⟩
 case rest=>
  obtain⟨rfl,rfl,rfl⟩:=hcut;have hv:y.natAbs≠0:=by omega
  have hu:(wN x y).natAbs<10^300:=by unfold wN;split <;>omega
  clear HX HY hx h0 HP yj Bq;obtain⟨u,hU⟩:=nm (wN x y);obtain⟨v,hV⟩:=nm y.natAbs;have R:aY (aV (mkRat (wN x y) y.natAbs)=txt (mkRat u v).num (mkRat u v).den):=by show _=_;rw[hU,hV,jd]
  rw[hU]at hu⊢;rw[hV]at hv hy⊢;clear hU hV;have hvz:((v:Nat):Int).natAbs<10^300:=by rw[bP];exact hy
  obtain⟨f1,f2⟩:=jc u v hv;obtain⟨vq,WI⟩:=vZ u v hv;have Jr:0<cM u.natAbs v:=Nat.gcd_pos_of_pos_right _ (by omega);have Us:cM u.natAbs v≤v:=Nat.gcd_le_right _ (by omega);have HG:=zq (Zc u v w hE hu hvz);rw[bP]at HG;generalize cM u.natAbs v=g at *;have hgz:((g:Nat):Int).natAbs<10^300:=by rw[bP];exact dF Us hy
  have Fb:=zq (fun(W:aE)(hb:aJ w.heap.size w W)=>GJ u g W (hE.below hb) hu hgz (by omega));have Ew:=zq (fun(W:aE)(hb:aJ w.heap.size w W)=>GJ v g W (hE.below hb) hvz hgz (by omega));rw[f1]at Fb;rw[f2]at Ew;have h1g:((bs (bL ((g:Nat):Int))).toList==[49])=decide (g=1):=by rw[vC];exact CR g
  have je:g=1→(mkRat u v).num=u∧(mkRat u v).den=v:=by
   intro e;rw[e]at f1 f2;simp only[Int.natCast_one,Int.fdiv_one]at f1 f2;exact⟨f1.symm,by omega⟩
  generalize(mkRat u v).num=n at *;generalize(mkRat u v).den=d at *;have hn3:n.natAbs<10^300:=dF vq hu;have hd3:((d:Nat):Int).natAbs<10^300:=by rw[bP];exact dF WI hy
  have ln:=eH hn3;have ld:=eH hd3;have YL:((bs (bL ((d:Nat):Int))).toList==[49])=decide (d=1):=by rw[vC];exact CR d
  have ic:aY (∀W,(mP .add (bs (bL n)) {data:= #[47]}).run aC W=.ok (aA (bs (bL n++[47]))) W):=fun W=>eX W (bL n) [47] (by rw[bU]at ln;omega) (by decide);have Va:aY (∀W,(mP .add (bs (bL n++[47])) (bs (bL ((d:Nat):Int)))).run aC W=.ok (aA (bs (bL n++[47]++bL ((d:Nat):Int)))) W):=fun W=>eX W (bL n++[47]) (bL ((d:Nat):Int)) (by rw[bU]at ln;rw[List.length_append];simp only[List.length_cons,List.length_nil];omega) (by rw[bU]at ld;omega);clear hu hv hvz f1 f2 vq WI Jr Us hgz hn3 hd3 ln ld hy hE;by_cases hg:g=1
  ·obtain⟨e1,e2⟩:=je hg;subst e1 e2;rw[decide_eq_true hg]at h1g;clear hg je Fb Ew;by_cases hd:d=1
   ·rw[decide_eq_true hd]at YL;have R2:aY (txt n d=bL n):=ip hd;clear hd ic Va;go_wp2_with fail
    refine ka HG.out fun W1 hb1=>?_;go_wp2;go_ret2;exact⟨by rw[R.out,R2.out];rfl,hb1⟩
   ·rw[decide_eq_false hd]at YL;have R2:aY (txt n d=bL n++47::bL (d:Int)):=iN hd;have c1:=ic.out;have c2:=Va.out;clear hd ic Va;go_wp2_with fail
    refine ka HG.out fun W1 hb1=>?_;go_wp2;go_ret2;exact⟨by rw[R.out,R2.out];rfl,hb1⟩
  ·rw[decide_eq_false hg]at h1g;clear hg je;by_cases hd:d=1
   ·rw[decide_eq_true hd]at YL;have R2:aY (txt n d=bL n):=ip hd;clear hd ic Va;go_wp2_with fail
    refine ka HG.out fun W1 hb1=>?_;go_wp2_with fail
    refine ka (Fb.out _ hb1) fun W2 hb2=>?_;have eQ:=aH hb1 hb2 hb1.size;go_wp2_with fail
    refine ka (Ew.out _ eQ) fun W3 hb3=>?_;go_wp2;go_ret2;exact⟨by rw[R.out,R2.out];rfl,aH eQ hb3 eQ.size⟩
   ·rw[decide_eq_false hd]at YL;have R2:aY (txt n d=bL n++47::bL (d:Int)):=iN hd;have c1:=ic.out;have c2:=Va.out;clear hd ic Va;go_wp2_with fail
    refine ka HG.out fun W1 hb1=>?_;go_wp2_with fail
    refine ka (Fb.out _ hb1) fun W2 hb2=>?_;have eQ:=aH hb1 hb2 hb1.size;go_wp2_with fail
    refine ka (Ew.out _ eQ) fun W3 hb3=>?_;go_wp2;go_ret2;exact⟨by rw[R.out,R2.out];rfl,aH eQ hb3 eQ.size⟩
theorem ym(n:Int)(w:aE)(hE:eZ w)(hn:n.natAbs<10^18):
 aQ aC 234 #[aF aG n,aF aG 1] w (Rt (bO #[aA (bs (aV (n:Rat))),aF aG 0]) w):=by
 have Hi:=zq (eM n w hE (by omega) (by omega));have R:aY (aV (n:Rat)=bL n):=by show _=_;rw[aV,ip (Rat.den_intCast n),Rat.num_intCast]
 clear hE hn;go_enter func234,ntmps234;go_wp2_with fail
 refine ka Hi.out fun W1 hb1=>?_;go_wp2;go_ret2;exact⟨by rw[R.out];rfl,hb1⟩
theorem nW(a:ByteArray)(w:aE)(hs:a.size≤8000000)(h:nU a.data.toList=true):
 aQ aC 136 #[aA a] w (Rt (bO #[dM #[aF aG (qN a.data.toList),iv (qD a.data.toList)],aM true]) w):=by
 have:=BE a w (by unfold cA;omega);rw[Ve,ip h]at this;unfold xI at this;simp only[←Xa]at this;exact this
theorem vN(a:ByteArray)(w:aE)(hs:a.size≤8000000)(h:nU a.data.toList=false):
 aQ aC 136 #[aA a] w (Rt (bO #[dM #[aF aG 0,aF aG 0],aM false]) w):=by
 have:=BE a w (by unfold cA;omega);rwa[Ve,iN (by rw[h];decide)]at this
theorem xK(a b:ByteArray)(f:bB)(w:aE)(ha:a.size≤8000000)(hb:b.size≤8000000)(h:nU a.data.toList=false∨nU b.data.toList=false):
 aQ aC 73 #[aA a,aA b,f] w (Rt (bO #[aA (bs []),aM false]) w):=by
 by_cases qa:nU a.data.toList=true
 ·have qb:nU b.data.toList=false:=by rcases h with h|h;(rw[qa]at h;cases h);exact h
  have HA:=zq (fun W=>nW a W ha qa);have HB:=zq (fun W=>vN b W hb qb);unfold iv at HA;clear h qa qb;go_enter Ws,Ue;go_wp2_with fail
  refine(HA.out _).mono ?_;rintro e W1⟨rfl,hb1⟩;go_wp2_with fail
  refine(HB.out _).mono ?_;rintro e W2⟨rfl,hb2⟩;have hB:=aH (hb1.alloc hb1.size _) hb2 (by simp;exact dC hb1.size);go_wp2;go_ret2;exact⟨rfl,hB.alloc hB.size _⟩
 ·have qa:nU a.data.toList=false:=by simpa using qa
  have HA:=zq (fun W=>vN a W ha qa);clear h qa;go_enter Ws,Ue;go_wp2_with fail
  refine(HA.out _).mono ?_;rintro e W1⟨rfl,hb1⟩;go_wp2;go_ret2;exact⟨rfl,hb1.alloc hb1.size _⟩
theorem vO(a b:ByteArray)(g:Kq)(N D:Int)(w:aE)(hE:eZ w)(ha:a.size≤8000000)(hb:b.size≤8000000)(qa:nU a.data.toList=true)(qb:nU b.data.toList=true)
 (eg:∀args w,(BY g args).run aC w=.ok (.enter g args) w)(hN:N.natAbs<10^18)(hD:D.natAbs<10^18)(h0:D≠0)
 (HM:∀W,aQ aC g #[dM #[aF aG (qN a.data.toList),iv (qD a.data.toList)],dM #[aF aG (qN b.data.toList),iv (qD b.data.toList)]] W (Rt (dM #[aF aG N,aF aG D]) W)):
 aQ aC 73 #[aA a,aA b,.func (.func g) #[] #[]] w (Rt (bO #[aA (bs (aV (mkRat (wN N D) D.natAbs))),aM true]) w):=by
 have HA:=zq (fun W=>nW a W ha qa);have HB:=zq (fun W=>nW b W hb qb);have HN:=zq (fun(W:aE)(hb:aJ w.heap.size w W)=>Gy N D W (hE.below hb) hN hD h0);have HM:=zq HM;unfold iv at HA HB HM;clear hE qa qb hN hD h0;generalize qN a.data.toList=n1 at *;generalize qD a.data.toList=d1 at *;generalize qN b.data.toList=n2 at *;generalize qD b.data.toList=d2 at *;go_enter Ws,Ue;go_wp2_with fail
 refine(HA.out _).mono ?_;rintro e W1⟨rfl,hb1⟩;have hq1:bZ (W1.alloc (aL #[aF aG n1,aF aG d1] 100)) W1.heap.size #[aF aG n1,aF aG d1] 100:=bZ.new W1 _ _;go_wp2_with fail
 refine(HB.out _).mono ?_;rintro e W2⟨rfl,hb2⟩;have AB:=hb2.size;simp only[aS]at AB;have eQ:=aH (hb1.alloc hb1.size _) hb2 (by simp;exact dC hb1.size);have hq1:=(hq1.below hb2 (by simp));have c0:=hq1.cell 0;have c1:=hq1.cell 1;have hlt:=hq1.lt;simp only[bJ,bD,cW]at c0 c1;go_wp2_with fail
 refine(HM.out _).mono ?_;rintro e W3⟨rfl,hb3⟩;have fN:=aH (eQ.alloc eQ.size _) hb3 (by simp;exact dC eQ.size);go_wp2_with fail
 refine(HN.out _ fN).mono ?_;rintro e W4⟨rfl,hb4⟩;go_wp2;go_ret2;exact⟨rfl,aH fN hb4 fN.size⟩
theorem zM{a b:Int}(ha:a.natAbs<10^8)(hb:b.natAbs<10^8):(a*b).natAbs<10^16:=lN ha hb
theorem jg(n1 d1 n2 d2:Int)(w:aE)(h1:n1.natAbs<10^8)(h2:d1.natAbs<10^8)(h3:n2.natAbs<10^8)(h4:d2.natAbs<10^8):
 aQ aC 210 #[dM #[aF aG n1,aF aG d1],dM #[aF aG n2,aF aG d2]] w (Rt (dM #[aF aG (n1*d2+n2*d1),aF aG (d1*d2)]) w):=by
 have p0:=zM h1 h4;have w0:IntKind.i64.wrap (n1*d2)=n1*d2:=aP _ (by omega);have p1:=zM h3 h2;have w1:IntKind.i64.wrap (n2*d1)=n2*d1:=aP _ (by omega);have p2:=zM h2 h4;have w2:IntKind.i64.wrap (d1*d2)=d1*d2:=aP _ (by omega);have ws:IntKind.i64.wrap (n1*d2+n2*d1)=n1*d2+n2*d1:=aP _ (by omega);clear h1 h2 h3 h4 p0 p1 p2;go_enter func210,ntmps210;go_wp2;exact cD (v:=dM #[aF aG (n1*d2+n2*d1),aF aG (d1*d2)]) (by simp[qV,Tryz.results210,go_sem]) rfl ⟨rfl,(((aI _ w).alloc (aD _) _).alloc (by simp) _).alloc (by simp;omega) _⟩
theorem jh(n1 d1 n2 d2:Int)(w:aE)(h1:n1.natAbs<10^8)(h2:d1.natAbs<10^8)(h3:n2.natAbs<10^8)(h4:d2.natAbs<10^8):
 aQ aC 79 #[dM #[aF aG n1,aF aG d1],dM #[aF aG n2,aF aG d2]] w (Rt (dM #[aF aG (n1*d2-n2*d1),aF aG (d1*d2)]) w):=by
 have p0:=zM h1 h4;have w0:IntKind.i64.wrap (n1*d2)=n1*d2:=aP _ (by omega);have p1:=zM h3 h2;have w1:IntKind.i64.wrap (n2*d1)=n2*d1:=aP _ (by omega);have p2:=zM h2 h4;have w2:IntKind.i64.wrap (d1*d2)=d1*d2:=aP _ (by omega);have ws:IntKind.i64.wrap (n1*d2-n2*d1)=n1*d2-n2*d1:=aP _ (by omega);clear h1 h2 h3 h4 p0 p1 p2;go_enter func79,ntmps79;go_wp2;exact cD (v:=dM #[aF aG (n1*d2-n2*d1),aF aG (d1*d2)]) (by simp[qV,Tryz.results79,go_sem]) rfl ⟨rfl,(((aI _ w).alloc (aD _) _).alloc (by simp) _).alloc (by simp;omega) _⟩
theorem ji(n1 d1 n2 d2:Int)(w:aE)(h1:n1.natAbs<10^8)(h2:d1.natAbs<10^8)(h3:n2.natAbs<10^8)(h4:d2.natAbs<10^8):
 aQ aC 74 #[dM #[aF aG n1,aF aG d1],dM #[aF aG n2,aF aG d2]] w (Rt (dM #[aF aG (n1*n2),aF aG (d1*d2)]) w):=by
 have p0:=zM h1 h3;have w0:IntKind.i64.wrap (n1*n2)=n1*n2:=aP _ (by omega);have p1:=zM h2 h4;have w1:IntKind.i64.wrap (d1*d2)=d1*d2:=aP _ (by omega);clear h1 h2 h3 h4 p0 p1;go_enter func74,ntmps74;go_wp2;exact cD (v:=dM #[aF aG (n1*n2),aF aG (d1*d2)]) (by simp[qV,Tryz.results74,go_sem]) rfl ⟨rfl,(((aI _ w).alloc (aD _) _).alloc (by simp) _).alloc (by simp;omega) _⟩
theorem jj(n1 d1 n2 d2:Int)(w:aE)(h1:n1.natAbs<10^8)(h2:d1.natAbs<10^8)(h3:n2.natAbs<10^8)(h4:d2.natAbs<10^8):
 aQ aC 84 #[dM #[aF aG n1,aF aG d1],dM #[aF aG n2,aF aG d2]] w (Rt (dM #[aF aG (n1*d2),aF aG (d1*n2)]) w):=by
 have p0:=zM h1 h4;have w0:IntKind.i64.wrap (n1*d2)=n1*d2:=aP _ (by omega);have p1:=zM h2 h3;have w1:IntKind.i64.wrap (d1*n2)=d1*n2:=aP _ (by omega);clear h1 h2 h3 h4 p0 p1;go_enter func84,ntmps84;go_wp2;exact cD (v:=dM #[aF aG (n1*d2),aF aG (d1*n2)]) (by simp[qV,Tryz.results84,go_sem]) rfl ⟨rfl,(((aI _ w).alloc (aD _) _).alloc (by simp) _).alloc (by simp;omega) _⟩
theorem xM(a b:ByteArray)(f:bB)(w:aE)(hE:eZ w)(ha:a.size≤8000000)(hb:b.size≤8000000)(h:dZ a.data.toList b.data.toList≠0):
 aQ aC 75 #[aA a,aA b,f] w (Rt (bO #[aA (bs []),aF aG (dZ a.data.toList b.data.toList)]) w):=by
 have HA:=zq (tY a w hE ha);have HB:=zq (fun(W:aE)(h:aJ w.heap.size w W)=>tY b W (hE.below h) hb);rw[GH]at HA HB;generalize bs (rN a.data.toList)=N1 at *;generalize bs (rD a.data.toList)=D1 at *;generalize bs (rN b.data.toList)=N2 at *;generalize bs (rD b.data.toList)=D2 at *;by_cases h0:cQ a.data.toList=0
 ·have e:dZ a.data.toList b.data.toList=cQ b.data.toList:=by rw[dZ,ip h0]
  rw[e]at h⊢;rw[h0]at HA;generalize cQ b.data.toList=c at *;have h':(c !=0)=true:=by rw[bne_iff_ne];exact h
  clear h h0 e;go_enter Wt,Uf;go_wp2_with fail
  refine ka HA.out fun W1 hb1=>?_;go_wp2_with fail
  refine ka (HB.out _ (hb1.alloc hb1.size _)) fun W2 hb2=>?_;have hB:=aH (hb1.alloc hb1.size _) hb2 (by simp;exact dC hb1.size);go_wp2;go_ret2;exact⟨rfl,hB.alloc hB.size _⟩
 ·have e:dZ a.data.toList b.data.toList=cQ a.data.toList:=by rw[dZ,iN h0]
  rw[e]at h⊢;generalize cQ a.data.toList=c at *;have h':(c !=0)=true:=by rw[bne_iff_ne];exact h
  clear h h0 e;go_enter Wt,Uf;go_wp2_with fail
  refine ka HA.out fun W1 hb1=>?_;go_wp2;go_ret2;exact⟨rfl,hb1.alloc hb1.size _⟩
abbrev Uy(x:Rat):bB:=dM #[aA (bs (bL x.num)),aA (bs (bL (x.den:Int)))]
theorem Aa(a b:ByteArray)(g:Kq)(lb:Array bB)(S:ByteArray)(c:Int)(w:aE)(hE:eZ w)(ha:a.size≤8000000)(hb:b.size≤8000000)(h:dZ a.data.toList b.data.toList=0)
 (eg:∀args w,(BY g args).run aC w=.ok (.enter g args) w)
 (HM:∀W,aJ w.heap.size w W→aQ aC g (#[Uy (cF a.data.toList),Uy (cF b.data.toList)]++lb) W (Rt (bO #[aA S,aF aG c]) W)):
 aQ aC 75 #[aA a,aA b,.func (.func g) #[] lb] w (Rt (bO #[aA S,aF aG c]) w):=by
 obtain⟨ga,gb⟩:=lM h;have HA:=zq (tY a w hE ha);have HB:=zq (fun(W:aE)(h:aJ w.heap.size w W)=>tY b W (hE.below h) hb);rw[AX,ip ga,E7 ga,E8 ga]at HA;rw[AX,ip gb,E7 gb,E8 gb]at HB;have HM:=zq HM;unfold Uy at HM;clear hE h ga gb ha hb;generalize bs (bL (cF a.data.toList).num)=N1 at *;generalize bs (bL ((cF a.data.toList).den:Int))=D1 at *;generalize bs (bL (cF b.data.toList).num)=N2 at *;generalize bs (bL ((cF b.data.toList).den:Int))=D2 at *;go_enter Wt,Uf;go_wp2_with fail
 refine ka HA.out fun W1 hb1=>?_;have hq1:bZ (W1.alloc (aL #[aA N1,aA D1] 104)) W1.heap.size #[aA N1,aA D1] 104:=bZ.new W1 _ _;go_wp2_with fail
 refine ka (HB.out _ (hb1.alloc hb1.size _)) fun W2 hb2=>?_;have AB:=hb2.size;simp only[aS]at AB;have eQ:=aH (hb1.alloc hb1.size _) hb2 (by simp;exact dC hb1.size);have hq1:=(hq1.below hb2 (by simp));have c0:=hq1.ce 0;have c1:=hq1.ce 1;have hlt:=hq1.lt;clear hq1 hb1 hb2 AB;go_wp2_with fail
 refine ka (HM.out _ (eQ.alloc eQ.size _)) fun W3 hb3=>?_;go_wp2;go_ret2;exact⟨rfl,aH (eQ.alloc eQ.size _) hb3 (by simp;exact dC eQ.size)⟩
theorem C0(x y:Rat)(w:aE)(hE:eZ w)(hx:HQ 300 x)(hy:HQ 300 y):
 aQ aC 86 #[Uy x,Uy y] w fun e w'=>
  (∃A B c,e=aO (bO #[aA A,aA B,aF aG c])∧((lW (x.num*y.den)=true∧lW (y.num*x.den)=true∧A=bs (bL (x.num*y.den))∧B=bs (bL (y.num*x.den))∧c=0)∨((lW (x.num*y.den)=false∨lW (y.num*x.den)=false)∧c=4)))∧aJ w.heap.size w w':=by
 have H1:=zq (fun(W:aE)(hb:aJ w.heap.size w W)=>AY x.num y.den W (hE.below hb) hx.1 hy.d);have H2:=zq (fun(W:aE)(hb:aJ w.heap.size w W)=>AY y.num x.den W (hE.below hb) hy.1 hx.d);unfold Uy;generalize x.num*(y.den:Int)=u at *;generalize y.num*(x.den:Int)=v at *;generalize bs (bL x.num)=N1 at *;generalize bs (bL (x.den:Int))=D1 at *;generalize bs (bL y.num)=N2 at *;generalize bs (bL (y.den:Int))=D2 at *;clear hx hy hE;have bx:aJ w.heap.size w ((w.alloc (aL #[aA N1,aA D1] 104)).alloc (aL #[aA N2,aA D2] 104)):=((aI _ w).alloc (aD _) _).alloc (by simp) _;have q1:bZ ((w.alloc (aL #[aA N1,aA D1] 104)).alloc (aL #[aA N2,aA D2] 104)) w.heap.size #[aA N1,aA D1] 104:=(bZ.new w _ _).alloc _;have q2:bZ ((w.alloc (aL #[aA N1,aA D1] 104)).alloc (aL #[aA N2,aA D2] 104)) (w.heap.size+1) #[aA N2,aA D2] 104:=by
  have:=bZ.new (w.alloc (aL #[aA N1,aA D1] 104)) #[aA N2,aA D2] 104;rwa[aS]at this
 have Bx:=zq bx;clear bx;by_cases ok1:lW u=true
 ·rw[tQ ok1]at H1;by_cases ok2:lW v=true
  ·rw[tQ ok2]at H2;refine wW (R:=fun e W'=>e=aO (bO #[aA (bs (bL u)),aA (bs (bL v)),aF aG 0])∧aJ w.heap.size w W') ?_ (by rintro e W' ⟨rfl,hb⟩;exact⟨⟨_,_,0,rfl,.inl ⟨ok1,ok2,rfl,rfl,rfl⟩⟩,hb⟩);clear ok1 ok2;generalize bL u=S at *;generalize bL v=T at *;go_enter Wu,Ug;go_wp2_with fail
   refine ka (H1.out _ Bx.out) fun W1 hb1=>?_;have hB:=aH Bx.out hb1 (by simp;omega);have p1:=q1.below hb1 (by simp;omega);have p2:=q2.below hb1 (by simp);have c1:=p1.ce 1;have c0:=p2.ce 0;have l1:=p1.lt;have l2:=p2.lt;clear p1 p2 q1 q2 hb1;go_wp2_with fail
   refine ka (H2.out _ hB) fun W2 hb2=>?_;go_wp2;go_ret3;exact⟨rfl,aH hB hb2 hB.size⟩
  ·have Ly:lW v=false:=by simpa using ok2
   rw[tR Ly]at H2;refine wW (R:=fun e W'=>e=aO (bO #[aA (bs (bL u)),aA (bs []),aF aG 4])∧aJ w.heap.size w W') ?_ (by rintro e W' ⟨rfl,hb⟩;exact⟨⟨_,_,4,rfl,.inr ⟨.inr Ly,rfl⟩⟩,hb⟩);clear ok1 ok2 Ly;generalize bL u=S at *;go_enter Wu,Ug;go_wp2_with fail
   refine ka (H1.out _ Bx.out) fun W1 hb1=>?_;have hB:=aH Bx.out hb1 (by simp;omega);have p1:=q1.below hb1 (by simp;omega);have p2:=q2.below hb1 (by simp);have c1:=p1.ce 1;have c0:=p2.ce 0;have l1:=p1.lt;have l2:=p2.lt;clear p1 p2 q1 q2 hb1;go_wp2_with fail
   refine ka (H2.out _ hB) fun W2 hb2=>?_;go_wp2;go_ret3;exact⟨rfl,aH hB hb2 hB.size⟩
 ·have Lz:lW u=false:=by simpa using ok1
  rw[tR Lz]at H1;refine wW (R:=fun e W'=>e=aO (bO #[aA {data:= #[]},aA {data:= #[]},aF aG 4])∧aJ w.heap.size w W') ?_ (by rintro e W' ⟨rfl,hb⟩;exact⟨⟨_,_,4,rfl,.inr ⟨.inl Lz,rfl⟩⟩,hb⟩);clear ok1 Lz;go_enter Wu,Ug;go_wp2_with fail
  refine ka (H1.out _ Bx.out) fun W1 hb1=>?_;have hB:=aH Bx.out hb1 (by simp;omega);go_wp2;go_ret3;exact⟨rfl,hB⟩
section
variable{w W1:aE}{N1 D1 N2 D2:ByteArray}
theorem N6(h:aJ ((w.alloc (aL #[aA N1,aA D1] 104)).alloc (aL #[aA N2,aA D2] 104)).heap.size ((w.alloc (aL #[aA N1,aA D1] 104)).alloc (aL #[aA N2,aA D2] 104)) W1):
 aJ w.heap.size w W1∧bZ W1 w.heap.size #[aA N1,aA D1] 104∧bZ W1 (w.heap.size+1) #[aA N2,aA D2] 104:=by
 refine⟨aH (((aI _ w).alloc (aD _) _).alloc (by simp) _) h (by simp;omega),((bZ.new w _ _).alloc _).below h (by simp;omega),?_⟩;have:=(bZ.new (w.alloc (aL #[aA N1,aA D1] 104)) #[aA N2,aA D2] 104).below h (by simp);rwa[aS]at this
end
theorem jk(x y:Rat)(w:aE)(hE:eZ w)(hx:HQ 300 x)(hy:HQ 300 y):
 aQ aC 76 #[Uy x,Uy y] w (Rt (bO #[aA (bs (IC x y).1),aF aG (IC x y).2]) w):=by
 have hz:(x.den:Int)*y.den≠0:=by rw[←gZ];have:=rQ x y;omega
 have H1:=zq (fun(W:aE)(hb:aJ w.heap.size w W)=>AY x.num y.num W (hE.below hb) hx.1 hy.1);have H2:=zq (fun(W:aE)(hb:aJ w.heap.size w W)=>AY x.den y.den W (hE.below hb) hx.d hy.d);have HN:=zq (fun(a1:lW (x.num*y.num)=true)(a2:lW ((x.den:Int)*y.den)=true)(W:aE)(hb:aJ w.heap.size w W)=>Ff (x.num*y.num) ((x.den:Int)*y.den) W (hE.below hb) (of_decide_eq_true a1) (of_decide_eq_true a2) hz);rw[LA]at HN;have Uu:aY (lW (x.num*y.num)=true→lW ((x.den:Int)*y.den)=true→IC x y=(aV (x*y),0)):=by
  intro a b;rw[IC,Lm,a,b];rfl
 have No:aY ((lW (x.num*y.num)&&lW ((x.den:Int)*y.den))=false→IC x y=([],4)):=by
  intro a;rw[IC,Lm,a];rfl
 have tb:= @N6 w;have Tb:=zq (fun(W1:aE)=>tb (W1:=W1) (N1:=bs (bL x.num)) (D1:=bs (bL (x.den:Int))) (N2:=bs (bL y.num)) (D2:=bs (bL (y.den:Int))));have Bx:aY (aJ w.heap.size w ((w.alloc (aL #[aA (bs (bL x.num)),aA (bs (bL (x.den:Int)))] 104)).alloc (aL #[aA (bs (bL y.num)),aA (bs (bL (y.den:Int)))] 104))):=((aI _ w).alloc (aD _) _).alloc (by simp) _;unfold Uy;generalize x.num*y.num=u at *;generalize(x.den:Int)*(y.den:Int)=v at *;generalize bs (bL x.num)=N1 at *;generalize bs (bL (x.den:Int))=D1 at *;generalize bs (bL y.num)=N2 at *;generalize bs (bL (y.den:Int))=D2 at *;clear hz tb hE hx hy;by_cases ok1:lW u=true
 ·rw[tQ ok1]at H1;by_cases ok2:lW v=true
  ·rw[tQ ok2]at H2;have KF:=zq (HN.out ok1 ok2);have R:=zq (Uu.out ok1 ok2);clear HN Uu No ok1 ok2;go_enter Wv,Uh;go_wp2_with fail
   refine ka (H1.out _ Bx.out) fun W1 hb1=>?_;obtain⟨hB,p1,p2⟩:=Tb.out _ hb1;have c1:=p1.ce 1;have c2:=p2.ce 1;have l1:=p1.lt;have l2:=p2.lt;clear p1 p2 hb1 Tb;go_wp2_with fail
   refine ka (H2.out _ hB) fun W2 hb2=>?_;have eQ:=aH hB hb2 hB.size;go_wp2_with fail
   refine ka (KF.out _ eQ) fun W3 hb3=>?_;go_wp2;go_ret2;exact⟨by rw[R.out];rfl,aH eQ hb3 eQ.size⟩
  ·have Ly:lW v=false:=by simpa using ok2
   rw[tR Ly]at H2;have R:=zq (No.out (by rw[Ly,Bool.and_false]));clear HN Uu No ok1 ok2 Ly;go_enter Wv,Uh;go_wp2_with fail
   refine ka (H1.out _ Bx.out) fun W1 hb1=>?_;obtain⟨hB,p1,p2⟩:=Tb.out _ hb1;have c1:=p1.ce 1;have c2:=p2.ce 1;have l1:=p1.lt;have l2:=p2.lt;clear p1 p2 hb1 Tb;go_wp2_with fail
   refine ka (H2.out _ hB) fun W2 hb2=>?_;go_wp2;go_ret2;exact⟨by rw[R.out];rfl,aH hB hb2 hB.size⟩
 ·have Lz:lW u=false:=by simpa using ok1
  rw[tR Lz]at H1;have R:=zq (No.out (by rw[Lz,qQ]));clear HN Uu No ok1 Lz;go_enter Wv,Uh;go_wp2_with fail
  refine ka (H1.out _ Bx.out) fun W1 hb1=>?_;have hB:=(Tb.out _ hb1).1;go_wp2;go_ret2;exact⟨by rw[R.out];rfl,hB⟩
def LX(x y:Rat):List UInt8×Int:=if y=0 then([],12)else Sp x y
theorem jl(x y:Rat)(w:aE)(hE:eZ w)(hx:HQ 300 x)(hy:HQ 300 y):
 aQ aC 85 #[Uy x,Uy y] w (Rt (bO #[aA (bs (LX x y).1),aF aG (LX x y).2]) w):=by
 have hz:((bs (bL y.num)).toList==[48])=decide (y.num=0):=by rw[vC];exact An y.num
 have Bx:aY (aJ w.heap.size w ((w.alloc (aL #[aA (bs (bL x.num)),aA (bs (bL (x.den:Int)))] 104)).alloc (aL #[aA (bs (bL y.num)),aA (bs (bL (y.den:Int)))] 104))):=((aI _ w).alloc (aD _) _).alloc (by simp) _;have HC:=zq (fun(W:aE)(hb:aJ w.heap.size w W)=>C0 x y W (hE.below hb) hx hy);have HN:=zq (fun(h0:y.num≠0)(a1:lW (x.num*y.den)=true)(a2:lW (y.num*x.den)=true)(W:aE)(hb:aJ w.heap.size w W)=>Ff (x.num*y.den) (y.num*x.den) W (hE.below hb) (of_decide_eq_true a1) (of_decide_eq_true a2) (Int.mul_ne_zero h0 (by have:=x.den_nz;omega)));rw[Gx,BC]at HN;clear hE hx hy;by_cases h0:y.num=0
 ·have R:aY (LX x y=([],12)):=ip (Rat.num_eq_zero.1 h0);rw[decide_eq_true h0]at hz;clear h0 HC HN;unfold Uy;generalize bs (bL x.num)=N1 at *;generalize bs (bL (x.den:Int))=D1 at *;generalize bs (bL y.num)=N2 at *;generalize bs (bL (y.den:Int))=D2 at *;go_enter func85,ntmps85;go_wp2;go_ret2;exact⟨by rw[R.out];rfl,Bx.out⟩
 ·have R:LX x y=Sp x y:=iN (mt Rat.num_eq_zero.2 h0);have Uu:aY (lW (x.num*y.den)=true→lW (y.num*x.den)=true→LX x y=(aV (x/y),0)):=by
   intro p q;rw[R,Sp,iS,p,q];rfl
  have No:aY ((lW (x.num*y.den)&&lW (y.num*x.den))=false→LX x y=([],4)):=by
   intro p;rw[R,Sp,iS,p];rfl
  rw[decide_eq_false h0]at hz;have KF:=zq (HN.out h0);clear h0 R HN;unfold Uy at *;generalize bs (bL x.num)=N1 at *;generalize bs (bL (x.den:Int))=D1 at *;generalize bs (bL y.num)=N2 at *;generalize bs (bL (y.den:Int))=D2 at *;go_enter func85,ntmps85;go_wp2_with fail
  refine(HC.out _ Bx.out).mono ?_;rintro e W1⟨⟨A,B,k,rfl,(⟨a1,a2,rfl,rfl,rfl⟩|⟨a1,rfl⟩)⟩,hb1⟩
  ·have hB:=aH Bx.out hb1 (by simp;omega);go_wp2_with fail
   refine ka (KF.out a1 a2 _ hB) fun W2 hb2=>?_;go_wp2;go_ret2;exact⟨by rw[Uu.out a1 a2];rfl,aH hB hb2 hB.size⟩
  ·have hB:=aH Bx.out hb1 (by simp;omega);go_wp2;go_ret2;exact⟨by rw[No.out (by rcases a1 with a1|a1<;>simp[a1])];rfl,hB⟩
def Ea(op:Int→Int→Int)(x y:Rat):List UInt8×Int:=
 if(iS x y&&lW (op (x.num*y.den) (y.num*x.den))&&lW ((x.den:Int)*y.den))=true then(aV (mkRat (op (x.num*y.den) (y.num*x.den)) (x.den*y.den)),0)else([],4)
theorem jo(x y:Rat):Ea (·+·) x y=Gw x y:=by
 unfold Ea Gw Et;simp only[xR]
theorem jp(x y:Rat):Ea (·-·) x y=if Jv x y=true then(aV (x-y),0)else([],4):=by
 unfold Ea Jv;simp only[DE]
theorem GK(h:Kq)(w:aE):
 aQ aC 80 #[.func (.func h) #[] #[]] w fun e w'=>e=aO (.func (.func 148) #[] #[cB (some ⟨w.heap.size,0,none⟩)])∧w'=w.alloc (aL #[.func (.func h) #[] #[]] 106):=by
 go_enter func80,ntmps80;go_wp2;go_ret;exact⟨rfl,rfl⟩
theorem Zd(n:Int)(x y:Rat):mkRat (wN n ((x.den:Int)*y.den)) ((x.den:Int)*y.den).natAbs=mkRat n (x.den*y.den):=by
 have h1:(0:Int)≤(x.den:Int)*y.den:=Int.mul_nonneg (by omega) (by omega);rw[wN,iN (by omega)];congr 1
theorem Sw(op:Int→Int→Int)(h:Kq)(B:Nat)(x y:Rat)(w:aE)(hE:eZ w)(hx:HQ 300 x)(hy:HQ 300 y)
 (eg:∀args w,(BY h args).run aC w=.ok (.enter h args) w)(hc:w.cell? ⟨B,0,none⟩=some (.func (.func h) #[] #[]))
 (HM:∀(u v:Int)(W:aE),eZ W→u.natAbs<10^300→v.natAbs<10^300→aQ aC h #[aA (bs (bL u)),aA (bs (bL v))] W (Rt (bO #[aA (bs (iY (op u v)).1),aF aG (iY (op u v)).2]) W)):
 aQ aC 148 #[Uy x,Uy y,cB (some ⟨B,0,none⟩)] w (Rt (bO #[aA (bs (Ea op x y).1),aF aG (Ea op x y).2]) w):=by
 have hBl:=World.block_lt_of_cell? w _ hc;have hcW:=zq (fun(W:aE)(hb:aJ w.heap.size w W)=>(hb.cell (p:=⟨B,0,none⟩) hBl).trans hc);have Bx:aY (aJ w.heap.size w ((w.alloc (aL #[aA (bs (bL x.num)),aA (bs (bL (x.den:Int)))] 104)).alloc (aL #[aA (bs (bL y.num)),aA (bs (bL (y.den:Int)))] 104))):=((aI _ w).alloc (aD _) _).alloc (by simp) _;have HC:=zq (fun(W:aE)(hb:aJ w.heap.size w W)=>C0 x y W (hE.below hb) hx hy);have HU:=zq (fun(a1:lW (x.num*y.den)=true)(a2:lW (y.num*x.den)=true)(W:aE)(hb:aJ w.heap.size w W)=>HM (x.num*y.den) (y.num*x.den) W (hE.below hb) (of_decide_eq_true a1) (of_decide_eq_true a2));have H2:=zq (fun(W:aE)(hb:aJ w.heap.size w W)=>AY x.den y.den W (hE.below hb) hx.d hy.d);have hz:(x.den:Int)*y.den≠0:=by rw[←gZ];have:=rQ x y;omega
 have HN:=zq (fun(a1:lW (op (x.num*y.den) (y.num*x.den))=true)(a2:lW ((x.den:Int)*y.den)=true)(W:aE)(hb:aJ w.heap.size w W)=>Ff (op (x.num*y.den) (y.num*x.den)) ((x.den:Int)*y.den) W (hE.below hb) (of_decide_eq_true a1) (of_decide_eq_true a2) hz);rw[Zd]at HN;have Uu:aY (lW (x.num*y.den)=true→lW (y.num*x.den)=true→lW (op (x.num*y.den) (y.num*x.den))=true→lW ((x.den:Int)*y.den)=true→Ea op x y=(aV (mkRat (op (x.num*y.den) (y.num*x.den)) (x.den*y.den)),0)):=by
  intro a b c d;rw[Ea,iS,a,b,c,d];rfl
 have No:aY ((lW (x.num*y.den)&&lW (y.num*x.den)&&lW (op (x.num*y.den) (y.num*x.den))&&lW ((x.den:Int)*y.den))=false→Ea op x y=([],4)):=by
  intro a;rw[Ea,iS,a];rfl
 have tb:= @N6 w;have Tb:=zq (fun(W1:aE)=>tb (W1:=W1) (N1:=bs (bL x.num)) (D1:=bs (bL (x.den:Int))) (N2:=bs (bL y.num)) (D2:=bs (bL (y.den:Int))));clear hE hx hy hc HM hz tb hBl;unfold Uy at *;generalize bs (bL x.num)=N1 at *;generalize bs (bL (x.den:Int))=D1 at *;generalize bs (bL y.num)=N2 at *;generalize bs (bL (y.den:Int))=D2 at *;go_enter func148,ntmps148;go_wp2_with fail
 refine(HC.out _ Bx.out).mono ?_;rintro e W1⟨⟨A,C,k,rfl,(⟨a1,a2,rfl,rfl,rfl⟩|⟨a1,rfl⟩)⟩,hb1⟩
 ·obtain⟨hB,p1,p2⟩:=Tb.out _ hb1;have pT:=hcW.out _ hB;clear hb1 Tb HC Bx;go_wp2_with fail
  refine(HU.out a1 a2 _ hB).mono ?_;by_cases a3:lW (op (x.num*y.den) (y.num*x.den))=true
  ·rw[tQ a3];rintro e W2⟨rfl,hb2⟩;have p1:=p1.below hb2 p1.lt;have p2:=p2.below hb2 p2.lt;have eQ:=aH hB hb2 hB.size;have c1:=p1.cell 1;have c2:=p2.cell 1;have l1:=p1.lt;have l2:=p2.lt;simp only[bJ,bD,cW]at c1 c2;clear p1 p2 hb2 HU pT;go_wp2_with fail
   refine(H2.out _ eQ).mono ?_;by_cases a4:lW ((x.den:Int)*y.den)=true
   ·rw[tQ a4];rintro e W3⟨rfl,hb3⟩;have fN:=aH eQ hb3 eQ.size;go_wp2_with fail
    refine(HN.out a3 a4 _ fN).mono ?_;rintro e W4⟨rfl,hb4⟩;go_wp2;go_ret2;exact⟨by rw[Uu.out a1 a2 a3 a4];rfl,aH fN hb4 fN.size⟩
   ·rw[tR (by simpa using a4)];rintro e W3⟨rfl,hb3⟩;go_wp2;go_ret2;exact⟨by rw[No.out (by simp[a4])];rfl,aH eQ hb3 eQ.size⟩
  ·rw[tR (by simpa using a3)];rintro e W2⟨rfl,hb2⟩;go_wp2;go_ret2;exact⟨by rw[No.out (by simp[a3])];rfl,aH hB hb2 hB.size⟩
 ·have hB:=(Tb.out _ hb1).1;go_wp2;go_ret2;exact⟨by rw[No.out (by rcases a1 with a1|a1<;>simp[a1])];rfl,hB⟩
end
end Go.Proofs.YtcimoodjlopdaaaGreatDoor
