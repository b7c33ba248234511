import Derived.Deep.RegionHeld3
import Derived.Test.YtckgmoobicmbnaaGreatDoorProg
import Derived.BigQuiet
import Derived.Deep.QuietTactic
import Derived.IntWalk
import Derived.Test.YtckgmoobicmbnaaGreatDoorZ0
import Derived.Test.YtckgmoobicmbnaaGreatDoorZ1
import Derived.Test.YtckgmoobicmbnaaGreatDoorZ2
import Derived.Test.YtckgmoobicmbnaaGreatDoorZ5
namespace Go.Proofs.YtckgmoobicmbnaaGreatDoor
set_option maxRecDepth 100000
set_option maxHeartbeats 8000000
set_option linter.all false
open Go.Proofs.Tryz
open _root_.Array renaming append_empty->H8
open _root_.Bool renaming and_eq_true->bK,or_eq_false_iff->dO,and_eq_false_iff->Vr
open _root_.Go renaming World->aF,undef->aP,Value->aS,Calls->aW,bodyPost_ret->cI,Addr->cT,TypeId->eC,wpAnyH_ready->pU,callFunc->uQ,wpAnyH_done->BQ,FuncId->FI
open Go.Act renaming put->dK
open Go.AllReadyH renaming cons->iX,nil->jR
open Go.ByteArray renaming toList_eq->cJ
open Go.Ending renaming returned->aQ
open Go.Instr renaming lookup->Ij
open Go.IntKind renaming i64->aE
open Go.IntWalk renaming i64_in->aX
open Go.Lib renaming hasPrefix->AY
open Go.Obj renaming cells->aJ
open Go.Proofs renaming enters_of->nH
open Go.Proofs.Tryz renaming prog->aC,results37->pQ,sizeOf70->rM,isAgg70->tO,ntmps217->Rm,func217->U6
open Go.Result renaming andThen->zt
open Go.RowKit renaming intOf->aK,Hid->bH
open Go.RowKit.Below renaming refl->aH,trans->lJ
open Go.Sem renaming run_bind->wD
open Go.Value renaming string->aA,slice->aB,int->aD,bool->aN,pointer->bA,tuple->cC,agg->cN
open Go.World renaming size_alloc->bB,block_lt_of_cell?->bG
open Go.World.ownsRow renaming cellAt->eX
open _root_.List renaming getElem?_cons_zero->aI,getElem?_toArray->aL,setIfInBounds_toArray->aM,getD_eq_getElem?_getD->aO,set_cons_zero->aV,getElem_cons_succ->aY,getElem_cons_zero->aZ,set_cons_succ->bC,getElem_toArray->bD,getElem?_cons_succ->bM,length_map->cO,mem_singleton->gQ
open _root_.Nat renaming le_refl->aG,lt_of_lt_of_le->bL,zero_le->bN,pow_le_pow_right->bO,zero_add->dZ
open _root_.Rat renaming le_of_lt->qB
open _root_.Trans renaming trans->cB
section
open Go Go.RowKit Go.Lib
theorem Wn{l:List UInt8}(h:l.all eE=true):mag l=l:=by
 cases l with
 |nil=>rfl
 |cons c r=>
  rw[List.all_cons,bK]at h;have:c≠45:=by rintro rfl;exact absurd h.1 (by decide)
  simp[mag,this]
theorem dT_mag{s:List UInt8}(h:eH s=0):mag (dT s)=dT s:=by
 refine Wn ?_;unfold dT;split
 ·exact jY ((jV (pL h).1).2 ‹_›).1
 ·decide
theorem Oi(s:List UInt8)(w:aF):
 aW aC 238 #[aA (bs s)] w fun e w'=>e=aQ (aD aE ((mag s).length:Int))∧w=w':=by
 have HT:=zq (oU (bs s) {data:= #[45]} w);rw[show(bs s).data.toList=s from rfl,show({data:= #[45]}:ByteArray).data.toList=[45]from rfl,oW]at HT;have R:bH (((mag s).length:Int)=((bs (mag s)).size:Int)):=by show _=_;rw[cZ]
 generalize bs (mag s)=M at *;go_enter func238,ntmps238;go_wp2_with fail
 refine HT.out.mono ?_;rintro e W1⟨rfl,rfl⟩;go_wp2;go_ret;exact⟨by rw[R.out];rfl,rfl⟩
theorem max36(m d:Nat):(36:Int)<max (m:Int) (d:Int)↔(decide (36<m)||decide (36<d))=true:=by
 rw[Bool.or_eq_true,decide_eq_true_eq,decide_eq_true_eq];omega
theorem Oj(a:ByteArray)(w:aF)(hE:iM w)(ha:a.size≤8000000):
 aW aC 168 #[aA a] w (Rt (aD aE (gT a.data.toList)) w):=by
 have HC:=zq (Of a w hE ha);have HP:=zq (fun(W:aF)(h:Below w.heap.size w W)=>Og a W (hE.below h) ha);clear hE;by_cases h:eH a.data.toList=0
 ·rw[h]at HC;rw[rN,ip h,rD,ip h,h]at HP;have MW:=zq (fun W=>Oi (nS a.data.toList) W);have IK:=zq (fun W=>Oi (dT a.data.toList) W);rw[dT_mag h]at IK;have R:bH (gT a.data.toList=if long36 a.data.toList=true then 4 else 0):=ip h;have hm:=max36 (mag (nS a.data.toList)).length (dT a.data.toList).length;unfold long36 at R;generalize(mag (nS a.data.toList)).length=m at *;generalize(dT a.data.toList).length=d at *;obtain⟨K,hK⟩:∃K,max (m:Int) (d:Int)=K:=⟨_,rfl⟩;rw[hK]at hm;generalize bs (nS a.data.toList)=N at *;generalize bs (dT a.data.toList)=D at *;clear h ha;by_cases k:(36:Int)<K;case' pos=>rw[ip (hm.1 k)]at R
  case' neg=>rw[iN (mt hm.2 k)]at R
  all_goals
   clear hm;go_enter func168,ntmps168;go_wp2_with fail
   refine HC.out.mono ?_;rintro e W1⟨rfl,hb1⟩;go_wp2_with fail
   refine(HP.out _ hb1).mono ?_;rintro e W2⟨rfl,hb2⟩;have hB:=aR hb1 hb2 hb1.size;go_wp2_with fail
   refine(MW.out _).mono ?_;rintro e W3⟨rfl,rfl⟩;go_wp2_with fail
   refine(IK.out _).mono ?_;rintro e W3⟨rfl,rfl⟩;go_wp2;go_ret;exact⟨by rw[R.out];rfl,hB⟩
 ·have R:bH (gT a.data.toList=eH a.data.toList):=iN h;have h':(eH a.data.toList !=0)=true:=by rw[bne_iff_ne];exact h
  clear HP;generalize eH a.data.toList=c at *;clear h ha;go_enter func168,ntmps168;go_wp2_with fail
  refine HC.out.mono ?_;rintro e W1⟨rfl,hb1⟩;go_wp2;go_ret;exact⟨by rw[R.out];rfl,hb1⟩
theorem GA(a:ByteArray)(w:aF)(hE:iM w)(ha:a.size≤8000000):
 aW aC 69 #[aA a] w (Rt (aD aE (gT a.data.toList)) w):=by
 have HP:=zq (Og a w hE ha);clear hE;by_cases h:eH a.data.toList=0
 ·rw[rN,ip h,rD,ip h,h]at HP;have HT:=zq (fun W=>oU (bs (nS a.data.toList)) {data:= #[45]} W);rw[show(bs (nS a.data.toList)).data.toList=nS a.data.toList from rfl,show({data:= #[45]}:ByteArray).data.toList=[45]from rfl,oW]at HT;have R:bH (gT a.data.toList=if long36 a.data.toList=true then 4 else 0):=ip h;have hm:=max36 (bs (mag (nS a.data.toList))).size (bs (dT a.data.toList)).size;rw[cZ,cZ]at hm;unfold long36 at R;obtain⟨K,hK⟩:∃K,max ((bs (mag (nS a.data.toList))).size:Int) ((bs (dT a.data.toList)).size:Int)=K:=⟨_,rfl⟩;rw[cZ,cZ]at hK;rw[hK]at hm;rw[←cZ,←cZ (dT a.data.toList)]at hK;have hR:(36:Int)<K→bH (gT a.data.toList=4):=fun k=>by show _=_;rw[R.out,ip (hm.1 k)]
  have Yl:¬(36:Int)<K→bH (gT a.data.toList=0):=fun k=>by show _=_;rw[R.out,iN (mt hm.2 k)]
  clear hm R;generalize bs (nS a.data.toList)=N at *;generalize bs (mag (nS a.data.toList))=M at *;generalize bs (dT a.data.toList)=D at *;clear h ha;by_cases k:(36:Int)<K;case' pos=>have R:=hR k
  case' neg=>have R:=Yl k
  all_goals
   clear hR Yl;go_enter func69,ntmps69;go_wp2_with fail
   refine HP.out.mono ?_;rintro e W1⟨rfl,hb1⟩;go_wp2_with fail
   refine(HT.out _).mono ?_;rintro e W3⟨rfl,rfl⟩;go_wp2;go_ret;exact⟨by rw[R.out];rfl,hb1⟩
 ·have R:bH (gT a.data.toList=eH a.data.toList):=iN h;have h':(eH a.data.toList !=0)=true:=by rw[bne_iff_ne];exact h
  generalize eH a.data.toList=c at *;generalize bs (rN a.data.toList)=N at *;generalize bs (rD a.data.toList)=D at *;clear h ha;go_enter func69,ntmps69;go_wp2_with fail
  refine HP.out.mono ?_;rintro e W1⟨rfl,hb1⟩;go_wp2;go_ret;exact⟨by rw[R.out];rfl,hb1⟩
structure Fr where
 up:Bool
 co:Int
 dir:Int
 sp:List UInt8
 st:List UInt8
abbrev Fr.cells(f:Fr):Array aS:= #[aN f.up,aD aE f.co,aD aE f.dir,aA (bs f.sp),aA (bs f.st)]
abbrev Fr.v(f:Fr):aS:=cN f.cells
def Bu(f:Fr):Bool:=decide (f.co<0)||decide (65536<f.co)||(decide (f.dir≠1)&&decide (f.dir≠-1))
def B9(f:Fr):Int:=
 if Bu f=true then 2 else if eH f.sp≠0 then eH f.sp else if eH f.st≠0 then eH f.st else if(long36 f.sp||long36 f.st)=true then 4 else if(dD f.sp).num<0 then 2 else 0
theorem aj{s:List UInt8}(h:eH s=0)(hl:long36 s=false):HQ 36 (dD s):=by
 obtain⟨e1,e2⟩:=rF h;obtain⟨k1,k2⟩:=jV (pL h).1;unfold long36 at hl;rw[dO,decide_eq_false_iff_not,decide_eq_false_iff_not]at hl;refine⟨?_,?_⟩
 ·rw[e1,qN,mC];exact bL (nZ _ (nM k1)) (bO (by decide) (by omega))
 ·rw[e2];have hd:=hl.2;unfold dT at hd;unfold qD;by_cases k:sL s=true
  ·rw[ip k]at hd⊢;exact bL (nZ _ (jY (k2 k).1)) (bO (by decide) (by omega))
  ·rw[iN k];exact bL (by decide:1<10^1) (bO (by decide) (by decide))
theorem Yr:HQ 1 (0:Rat):=HQ.int (n:=0) (by decide) (by decide)
theorem LH(a b:Int):(a !=b)=decide (a≠b):=by by_cases h:a=b<;>simp[h]
theorem S7{s:List UInt8}(h:eH s=0):AY s [45]=decide ((dD s).num<0):=by
 have h1:=Jv (bs s);have h2:=ZL (dD s);rw[Iv h]at h2;rw[bP]at h1;rw[h1,h2]
theorem LC.pair(W:aF)(T:eC)(x y:List UInt8):LC (W.alloc (aJ #[aA (bs x),aA (bs y)] T)) (some ⟨W.heap.size,0,none⟩) (jS [x,y]):=by
 intro i hi;refine⟨_,_,rfl,?_⟩;have:=(bT.new W #[aA (bs x),aA (bs y)] T).cell (0+i);rw[this];have rm:i<2:=hi;rcases(by omega:i=0∨i=1)with rfl|rfl<;>rfl
theorem S8(f:Nat→Int):sS f 2=if f 0≠0 then f 0 else f 1:=by
 have e:sS f 1=f 0:=by rw[sS,sS,ip rfl]
 rw[sS,e];by_cases h:f 0=0
 ·rw[ip h,iN (by simp[h])]
 ·rw[iN h,ip h]
theorem S9(f:Fr):B9 f=if Bu f=true then 2 else if sS (fun j=>eH ([f.sp,f.st].getD j [])) 2≠0 then sS (fun j=>eH ([f.sp,f.st].getD j [])) 2 else
 if sS (fun j=>gT ([f.sp,f.st].getD j [])) 2≠0 then sS (fun j=>gT ([f.sp,f.st].getD j [])) 2 else if AY f.sp [45]=true then 2 else 0:=by
 rw[B9,S8,S8];have e0:[f.sp,f.st].getD 0 []=f.sp:=rfl;have e1:[f.sp,f.st].getD 1 []=f.st:=rfl;rw[e0,e1];by_cases h:Bu f=true
 ·rw[ip h,ip h]
 rw[iN h,iN h];by_cases h1:eH f.sp=0
 ·have e2:(if eH f.sp≠0 then eH f.sp else eH f.st)=eH f.st:=iN (by simp[h1]);rw[e2,iN (show¬eH f.sp≠0 by simp[h1])];by_cases h2:eH f.st=0
  ·have n1:gT f.sp=if long36 f.sp=true then 4 else 0:=ip h1
   have n2:gT f.st=if long36 f.st=true then 4 else 0:=ip h2
   rw[iN (show¬eH f.st≠0 by simp[h2]),iN (show¬eH f.st≠0 by simp[h2]),n1,n2,S7 h1];cases long36 f.sp<;>cases long36 f.st<;>simp
  ·rw[ip h2,ip h2]
 ·rw[ip h1,ip h1,ip h1]
theorem Ta(f:Fr)(w:aF)(hE:iM w)(h1:f.sp.length≤8000000)(h2:f.st.length≤8000000):
 aW aC 90 #[f.v] w (Rt (aD aE (B9 f)) w):=by
 have R0:=S9 f;obtain⟨up,co,dir,sp,st⟩:=f;simp only[]at R0 h1 h2;have DM:∀k,k<2→(bs ([sp,st].getD k [])).size≤8000000:=by
  intro k hk;rw[cZ];rcases(by omega:k=0∨k=1)with rfl|rfl
  ·exact h1
  ·exact h2
 have HC:=zq (fun(k:Nat)(hk:k<2)(W:aF)(h:Below w.heap.size w W)=>Of (bs ([sp,st].getD k [])) W (hE.below h) (DM k hk));have HN:=zq (fun(k:Nat)(hk:k<2)(W:aF)(h:Below w.heap.size w W)=>Oj (bs ([sp,st].getD k [])) W (hE.below h) (DM k hk));have HP:=zq (fun(W:aF)=>Eb (bs sp) {data:= #[45]} W);rw[show(bs sp).data.toList=sp from rfl,show({data:= #[45]}:ByteArray).data.toList=[45]from rfl]at HP;have gY:bH (Below w.heap.size w (w.alloc (aJ #[aN up,aD aE co,aD aE dir,aA (bs sp),aA (bs st)] 44))∧bT (w.alloc (aJ #[aN up,aD aE co,aD aE dir,aA (bs sp),aA (bs st)] 44)) w.heap.size #[aN up,aD aE co,aD aE dir,aA (bs sp),aA (bs st)] 44):=
  ⟨(aH _ w).alloc (aG _) _,bT.new w _ _⟩
 clear hE h1 h2 DM;obtain⟨rb,hrb⟩:=nm (Bu ⟨up,co,dir,sp,st⟩);rw[hrb]at R0;have R1:=zq R0;have Hrb:=zq hrb;clear R0 hrb;unfold Fr.v Fr.cells;simp only[];have hSP:∀W:aF,LC (W.alloc (aJ #[aA (bs sp),aA (bs st)] 27)) (some ⟨W.heap.size,0,none⟩) (jS [sp,st]):=fun W=>LC.pair W _ sp st;have HSP:=zq hSP;clear hSP;generalize bs sp=SP at *;generalize bs st=ST at *;go_enter func90,ntmps90;go_upto_region 1 with fail
 go_cut[26] (fun v w'=>v=aN rb∧w'=w.alloc (aJ #[aN up,aD aE co,aD aE dir,aA SP,aA ST] 44));case first =>
  have hr:=zq (show(decide (co<0)||decide (65536<co)||(decide (dir≠1)&&decide (dir≠-1)))=rb from Hrb.out);by_cases c1:co<0
  ·go_wp2;go_meet;case rel=>exact⟨by rw[←hr.out];simp[c1],rfl⟩
  ·by_cases c2:65536<co
   ·go_wp2;go_meet;case rel=>exact⟨by rw[←hr.out];simp[c2],rfl⟩
   ·have D1:bH (decide (co<0)=false∧decide (65536<co)=false):=⟨decide_eq_false c1,decide_eq_false c2⟩;have hd1:(dir !=1)=decide (dir≠1):=LH _ _;have hd2:(dir != -1)=decide (dir≠-1):=LH _ _;rw[D1.out.1,D1.out.2]at hr;generalize decide (dir≠1)=b1 at *;generalize decide (dir≠-1)=b2 at *;cases b1
    ·go_wp2;go_meet;case rel=>exact⟨by rw[←hr.out];rfl,rfl⟩
    ·cases b2;all_goals
      go_wp2;go_meet;case rel=>exact⟨by rw[←hr.out];rfl,rfl⟩
 case rest=>
  obtain⟨rfl,rfl⟩:=hcut;clear Hrb;cases rb with
  |true=>
   go_wp2;go_ret;exact⟨by rw[R1.out];rfl,gY.out.1⟩
  |false=>
   rw[iN (by decide)]at R1;go_wp2_with fail
   have hb0:=gY.out.2;have fA:=gY.out.1;obtain⟨W0,eQ⟩:=nm (w.alloc (aJ #[aN up,aD aE co,aD aE dir,aA SP,aA ST] 44));rw[eQ]at hb0 fA⊢;have JS:=HSP.out W0;have Lu:=hb0.alloc (aJ #[aA SP,aA ST] 27);have Z6:=fA.alloc fA.size (aJ #[aA SP,aA ST] 27);have hG:W0.heap.size=w.heap.size+1:=by rw[←eQ];simp
   rw[hG]at JS;have HA:=zq (And.intro Z6 (And.intro Lu JS));clear eQ gY hb0 fA JS Lu Z6 hG;obtain⟨G,hG⟩:=nm (w.heap.size+1);rw[hG]at HA⊢;clear hG;go_loopw[33] (fun i wr=>∃k:Nat,i=aD aE k∧k≤2∧Below w.heap.size w wr∧bT wr w.heap.size #[aN up,aD aE co,aD aE dir,aA SP,aA ST] 44∧LC wr (some ⟨G,0,none⟩) (jS [sp,st])∧bH (sS (fun j=>eH ([sp,st].getD j [])) k=0)) (fun i _=>2-(aK i).toNat);case atStart=>exact⟨0,rfl,bN _,HA.out.1,HA.out.2.1,HA.out.2.2,rfl⟩
   case round=>
    obtain⟨k,rfl,hk,hB,hb,Ln,hz⟩:=hrel;have Hb:=zq hb;have Hrd:=zq Ln;clear hb Ln;by_cases hlt:k<2
    ·obtain⟨b,off,ak,NS⟩:=Hrd.out k (by exact hlt);injection ak with ak;injection ak with hab1 hab2;subst hab1 hab2;rw[Av [sp,st] (by exact hlt),dZ]at NS;have If:=zq (HC.out k hlt);by_cases hck:eH ([sp,st].getD k [])=0
     ·have oL:bH (sS (fun j=>eH ([sp,st].getD j [])) (k+1)=0):=IL hz.out hck;rw[bP,hck]at If;generalize bs ([sp,st].getD k [])=X at *;clear hck;go_wp2_with fail
      refine ka (If.out _ hB) fun W1 hb1=>?_;go_wp2;go_roundw;case rel=>exact⟨k+1,by go_num,by omega,aR hB hb1 hB.size,Hb.out.below hb1 Hb.out.lt,Hrd.out.below hb1,oL.out⟩
      case measure=>simp only[aK];omega
     ·have e:sS (fun j=>eH ([sp,st].getD j [])) 2=eH ([sp,st].getD k []):=Gy hz.out hck 2 hlt;have R:bH (B9 ⟨up,co,dir,sp,st⟩=eH ([sp,st].getD k [])):=by show _=_;rw[R1.out,e,ip hck]
      have h':(eH ([sp,st].getD k []) !=0)=true:=by rw[bne_iff_ne];exact hck
      rw[bP]at If;clear e;generalize eH ([sp,st].getD k [])=c at *;generalize bs ([sp,st].getD k [])=X at *;clear hck;go_wp2_with fail
      refine ka (If.out _ hB) fun W1 hb1=>?_;go_wp2;go_ret;exact⟨by rw[R.out];rfl,aR hB hb1 hB.size⟩
    ·obtain rfl:k=2:=by omega
     rw[iN (by rw[hz.out];decide)]at R1;have c3:=Hb.out.ce 3;have c4:=Hb.out.ce 4;have lt:=Hb.out.lt;clear HC hz hlt hk HA;go_wp2_with fail
     have JS:=HSP.out wr;have Lu:=Hb.out.alloc (aJ #[aA SP,aA ST] 27);have Z6:=hB.alloc hB.size (aJ #[aA SP,aA ST] 27);have HA:=zq (And.intro Z6 (And.intro Lu JS));clear JS Lu Z6 hB Hb Hrd c3 c4 lt;generalize wr.heap.size=G2 at *;go_loopw[49] (fun i wr=>∃k:Nat,i=aD aE k∧k≤2∧Below w.heap.size w wr∧bT wr w.heap.size #[aN up,aD aE co,aD aE dir,aA SP,aA ST] 44∧LC wr (some ⟨G2,0,none⟩) (jS [sp,st])∧bH (sS (fun j=>gT ([sp,st].getD j [])) k=0)) (fun i _=>2-(aK i).toNat);case atStart=>exact⟨0,rfl,bN _,HA.out.1,HA.out.2.1,HA.out.2.2,rfl⟩
     case round=>
      obtain⟨k,rfl,hk,hB,hb,Ln,hz⟩:=hrel;have Hb:=zq hb;have Hrd:=zq Ln;clear hb Ln;by_cases hlt:k<2
      ·obtain⟨b,off,ak,NS⟩:=Hrd.out k (by exact hlt);injection ak with ak;injection ak with hab1 hab2;subst hab1 hab2;rw[Av [sp,st] (by exact hlt),dZ]at NS;have If:=zq (HN.out k hlt);by_cases hck:gT ([sp,st].getD k [])=0
       ·have oL:bH (sS (fun j=>gT ([sp,st].getD j [])) (k+1)=0):=IL hz.out hck;rw[bP,hck]at If;generalize bs ([sp,st].getD k [])=X at *;clear hck;go_wp2_with fail
        refine ka (If.out _ hB) fun W1 hb1=>?_;go_wp2;go_roundw;case rel=>(repeat apply Exists.intro);exact⟨⟨k+1,by go_num,by omega,aR hB hb1 hB.size,Hb.out.below hb1 Hb.out.lt,Hrd.out.below hb1,oL.out⟩,rfl⟩
        case measure=>simp[aK];omega
       ·have e:sS (fun j=>gT ([sp,st].getD j [])) 2=gT ([sp,st].getD k []):=Gy hz.out hck 2 hlt;have R:bH (B9 ⟨up,co,dir,sp,st⟩=gT ([sp,st].getD k [])):=by show _=_;rw[R1.out,e,ip hck]
        have h':(gT ([sp,st].getD k []) !=0)=true:=by rw[bne_iff_ne];exact hck
        rw[bP]at If;clear e;generalize gT ([sp,st].getD k [])=c at *;generalize bs ([sp,st].getD k [])=X at *;clear hck;go_wp2_with fail
        refine ka (If.out _ hB) fun W1 hb1=>?_;go_wp2;go_ret;exact⟨by rw[R.out];rfl,aR hB hb1 hB.size⟩
      ·obtain rfl:k=2:=by omega
       rw[iN (by rw[hz.out];decide)]at R1;have c3:=Hb.out.ce 3;have lt:=Hb.out.lt;clear HN hz hlt hk HA;cases hp:AY sp [45];all_goals
        rw[hp]at HP R1;go_wp2_with fail
        refine kr (HP.out _) ?_;go_wp2;go_ret;exact⟨by rw[R1.out];rfl,hB⟩
theorem tT{k:Nat}{x:Rat}(h:HQ k x)(hk:k≤300):(bs (bJ x)).size≤8000000:=by
 have:=(Oa (h.mono hk).1 (h.mono hk).2).2;omega
section
variable{a b:Nat}{x y:Rat}
theorem PW(h1:HQ a x)(h2:HQ b y)(h:a+b+1≤300)(w:aF)(hE:iM w):
 aW aC 240 #[aA (bs (bJ x)),aA (bs (bJ y))] w (Rt (aA (bs (bJ (x+y)))) w):=by
 have:=fr_add (bs (bJ x)) (bs (bJ y)) w hE (tT h1 (by omega)) (tT h2 (by omega));rwa[bP,bP,addQ_T h1 h2 h]at this
theorem GB(h1:HQ a x)(h2:HQ b y)(h:a+b+1≤300)(w:aF)(hE:iM w):
 aW aC 243 #[aA (bs (bJ x)),aA (bs (bJ y))] w (Rt (aA (bs (bJ (x-y)))) w):=by
 have:=fr_sub (bs (bJ x)) (bs (bJ y)) w hE (tT h1 (by omega)) (tT h2 (by omega));rwa[bP,bP,subQ_T h1 h2 h]at this
theorem Ks(h1:HQ a x)(h2:HQ b y)(h:a+b≤300)(w:aF)(hE:iM w):
 aW aC 241 #[aA (bs (bJ x)),aA (bs (bJ y))] w (Rt (aA (bs (bJ (x*y)))) w):=by
 have:=fr_mul (bs (bJ x)) (bs (bJ y)) w hE (tT h1 (by omega)) (tT h2 (by omega));rwa[bP,bP,mulQ_T h1 h2 h]at this
theorem PZ(h1:HQ a x)(h2:HQ b y)(h:a+b≤300)(h0:y≠0)(w:aF)(hE:iM w):
 aW aC 268 #[aA (bs (bJ x)),aA (bs (bJ y))] w (Rt (aA (bs (bJ (x/y)))) w):=by
 have:=fr_div (bs (bJ x)) (bs (bJ y)) w hE (tT h1 (by omega)) (tT h2 (by omega));rwa[bP,bP,divQ_T h1 h2 h h0]at this
theorem JC(h1:HQ a x)(h2:HQ b y)(h:a+b≤300)(w:aF)(hE:iM w):
 aW aC 105 #[aA (bs (bJ x)),aA (bs (bJ y))] w (Rt (aD aE (tG x y)) w):=by
 have:=LD (bs (bJ x)) (bs (bJ y)) w hE (tT h1 (by omega)) (tT h2 (by omega));rwa[bP,bP,IA h1 h2 h]at this
end
structure FQ where
 up:Bool
 co:Int
 dir:Int
 v:Rat
 t:Rat
def FQ.fr(q:FQ):Fr:=⟨q.up,q.co,q.dir,bJ q.v,bJ q.t⟩
structure FQ.Good(q:FQ):Prop where
 co0:0≤q.co
 co1:q.co≤65536
 dir:q.dir=1∨q.dir= -1
 v0:0≤q.v
 v:HQ 30 q.v
 t:HQ 30 q.t
theorem Fr.good{f:Fr}(h:B9 f=0)(h1:f.sp.length≤30)(h2:f.st.length≤30):∃q:FQ,q.Good∧f=q.fr:=by
 unfold B9 at h;by_cases hr:Bu f=true
 ·rw[ip hr]at h;cases h
 rw[iN hr]at h;by_cases a1:eH f.sp=0
 ·rw[iN (by simp[a1])]at h;by_cases a2:eH f.st=0
  ·rw[iN (by simp[a2])]at h;by_cases hl:(long36 f.sp||long36 f.st)=true
   ·rw[ip hl]at h;cases h
   rw[iN hl]at h;by_cases hn:(dD f.sp).num<0
   ·rw[ip hn]at h;cases h
   refine⟨⟨f.up,f.co,f.dir,dD f.sp,dD f.st⟩,?_,?_⟩
   ·have hr:Bu f=false:=by simpa using hr
    unfold Bu at hr;simp only[dO,Vr,decide_eq_false_iff_not]at hr;refine⟨by show 0≤f.co;omega,by show f.co≤65536;omega,by show f.dir=1∨f.dir= -1;omega,?_,HQ.of_length a1 h1 (by decide),HQ.of_length a2 h2 (by decide)⟩;exact Rat.num_nonneg.1 (by show 0≤(dD f.sp).num;omega)
   ·unfold FQ.fr;simp only[Iv a1,Iv a2]
  ·rw[ip a2]at h;exact absurd h a2
 ·rw[ip a1]at h;exact absurd h a1
theorem FQ.Good.chk{q:FQ}(h:q.Good):B9 q.fr=0:=by
 have c1:eH (bJ q.v)=0:=pM h.v (by decide);have c2:eH (bJ q.t)=0:=pM h.t (by decide);have hl:∀{x:Rat},HQ 30 x→long36 (bJ x)=false:=by
  intro x hx;have hc:eH (bJ x)=0:=pM hx (by decide);unfold long36;rw[EQ hc,EO hc,jZ,nP,mE,dO,decide_eq_false_iff_not,decide_eq_false_iff_not];have e1:=(cS x.num.natAbs 30 (by decide)).2 hx.1;have e2:=(cS x.den 30 (by decide)).2 hx.2;omega
 have hr:Bu q.fr=false:=by
  have:=h.co0;have:=h.co1;have:=h.dir;unfold Bu FQ.fr;simp only[dO,Vr,decide_eq_false_iff_not];omega
 unfold B9;rw[iN (by rw[hr];decide),iN (by rw[show q.fr.sp=bJ q.v from rfl,c1];decide),iN (by rw[show q.fr.st=bJ q.t from rfl,c2];decide),
  iN (by rw[show q.fr.sp=bJ q.v from rfl,show q.fr.st=bJ q.t from rfl,hl h.v,hl h.t];decide),iN]
 rw[show q.fr.sp=bJ q.v from rfl,jZ];have:=Rat.num_nonneg.2 h.v0;omega
def FQ.pos(q:FQ)(z:Rat):Rat:=if z≤q.t then(q.co:Rat)else(q.co:Rat)+(q.dir:Rat)*q.v*(z-q.t)
def FQ.vel(q:FQ):Rat:=(q.dir:Rat)*q.v
theorem FQ.Good.hco{q:FQ}(h:q.Good):HQ 5 (q.co:Rat):=HQ.int (by have:=h.co0;have:=h.co1;omega) (by decide)
theorem FQ.Good.hdir{q:FQ}(h:q.Good):HQ 1 (q.dir:Rat):=HQ.int (by have:=h.dir;omega) (by decide)
theorem FQ.Good.hvel{q:FQ}(h:q.Good):HQ 31 q.vel:=(h.hdir.mul h.v).mono (by decide)
theorem zE(q:FQ)(hq:q.Good)(w:aF)(hE:iM w):
 aW aC 242 #[q.fr.v] w (Rt (aA (bs (bJ q.vel))) w):=by
 have HW:=zq (fun(W:aF)(h:Below w.heap.size w W)=>Gz q.dir W (hE.below h) (by have:=hq.dir;omega));have HM:=zq (fun(W:aF)(h:Below w.heap.size w W)=>Ks hq.hdir hq.v (by decide) W (hE.below h));have HR:bH (q.vel=(q.dir:Rat)*q.v):=rfl;rw[←HR.out]at HM;clear hE hq;obtain⟨up,co,dir,v,t⟩:=q;unfold Fr.v Fr.cells FQ.fr;simp only[]at *;generalize FQ.vel ⟨up,co,dir,v,t⟩=V at *;generalize bs (bJ v)=SP at *;generalize bs (bJ t)=ST at *;generalize bs (bJ (dir:Rat))=DT at *;go_enter func242,ntmps242;go_wp2;have hb:=bT.new w #[aN up,aD aE co,aD aE dir,aA SP,aA ST] 44;have hB:=(aH _ w).alloc (aG _) (aJ #[aN up,aD aE co,aD aE dir,aA SP,aA ST] 44);obtain⟨W,hW⟩:=nm (w.alloc (aJ #[aN up,aD aE co,aD aE dir,aA SP,aA ST] 44));rw[hW]at hb hB⊢;clear hW;have c2:=hb.ce 2;have c3:=hb.ce 3;have lt:=hb.lt;have HB:=zq hB;clear hb hB;go_region_held3 (fun w'=>w'.cell? ⟨w.heap.size,2,none⟩=some (aD aE dir)∧w'.cell? ⟨w.heap.size,3,none⟩=some (aA SP)) (go_keep)
  (first
   |(go_at_call 239;refine(HW.out _ (HB.out.drew)).mono ?_;rintro e w' ⟨rfl,hb⟩;have:=ck hb w.heap.size 2 (aD aE dir);have:=ck hb w.heap.size 3 (aA SP))
   |(go_at_call 241;refine(HM.out _ (HB.out.trans ((lJ (aH _ W).drew hb).mono HB.out.size))).mono ?_;rintro e w'' ⟨rfl,PU⟩;have k0:=cF PU (p:=⟨w.heap.size,2,none⟩) (v:=aD aE dir) (by simp[*]);have k1:=cF PU (p:=⟨w.heap.size,3,none⟩) (v:=aA SP) (by simp[*])))
 go_wp2;have hbB:=HB.out.trans ((lJ (aH _ W).drew hb).mono HB.out.size);go_ret;exact⟨rfl,hbB.trans (PU.mono hbB.size)⟩
theorem cmpR_le(x y:Rat):decide (tG x y≤0)=decide (x≤y):=by
 unfold tG;by_cases h:x<y
 ·rw[ip h];simp[qB h]
 ·rw[iN h];by_cases k:y<x
  ·rw[ip k];simp[Rat.not_le.2 k]
  ·rw[iN k];simp[Rat.not_lt.1 k]
theorem CK(q:FQ)(hq:q.Good)(z:Rat)(k:Nat)(hz:HQ k z)(hk:k≤200)(w:aF)(hE:iM w):
 aW aC 170 #[q.fr.v,aA (bs (bJ z))] w (Rt (aA (bs (bJ (q.pos z)))) w):=by
 have HC:=zq (fun(W:aF)(h:Below w.heap.size w W)=>JC hz hq.t (by omega) W (hE.below h));have HW:=zq (fun(W:aF)(h:Below w.heap.size w W)=>Gz q.co W (hE.below h) (by have:=hq.co0;have:=hq.co1;omega));have HV:=zq (fun(W:aF)(h:Below w.heap.size w W)=>zE q hq W (hE.below h));have HS:=zq (fun(W:aF)(h:Below w.heap.size w W)=>GB hz hq.t (by omega) W (hE.below h));have HM:=zq (fun(W:aF)(h:Below w.heap.size w W)=>Ks hq.hvel (hz.sub hq.t) (by omega) W (hE.below h));have HA:=zq (fun(W:aF)(h:Below w.heap.size w W)=>PW hq.hco (hq.hvel.mul (hz.sub hq.t)) (by omega) W (hE.below h));have R1:z≤q.t→bH (q.pos z=(q.co:Rat)):=fun h=>ip h;have R2:¬z≤q.t→bH (q.pos z=(q.co:Rat)+q.vel*(z-q.t)):=fun h=>iN h;have jq:=cmpR_le z q.t;generalize tG z q.t=cm at *;have hp1:z≤q.t→cm≤0:=fun h=>of_decide_eq_true (by rw[jq];exact decide_eq_true h);have jk:¬z≤q.t→¬cm≤0:=fun h=>of_decide_eq_false (by rw[jq];exact decide_eq_false h);clear hE hq hz hk jq;by_cases hzt:z≤q.t
 ·have R:=R1 hzt;have hp:=hp1 hzt;clear R1 R2 hp1 jk hzt HV HS HM HA;obtain⟨up,co,dir,v,t⟩:=q;unfold Fr.v Fr.cells FQ.fr;simp only[]at *;generalize bs (bJ v)=SP at *;generalize bs (bJ t)=ST at *;generalize bs (bJ z)=ZT at *;go_enter func170,ntmps170;go_wp2_with fail
  have hb:=bT.new w #[aN up,aD aE co,aD aE dir,aA SP,aA ST] 44;have hB:=(aH _ w).alloc (aG _) (aJ #[aN up,aD aE co,aD aE dir,aA SP,aA ST] 44);refine(HC.out _ hB).mono ?_;rintro e W1⟨rfl,hb1⟩;have hb:=hb.below hb1 hb.lt;have hB:=aR hB hb1 hB.size;have c1:=hb.ce 1;have lt:=hb.lt;clear hb hb1;go_wp2_with fail
  refine ka (HW.out _ hB) fun W2 hb2=>?_;go_wp2;go_ret;exact⟨by rw[R.out];rfl,aR hB hb2 hB.size⟩
 ·have R:=R2 hzt;have hp:=jk hzt;clear R1 R2 hp1 jk hzt;obtain⟨up,co,dir,v,t⟩:=q;unfold Fr.v Fr.cells FQ.fr at *;simp only[]at *;generalize bs (bJ v)=SP at *;generalize bs (bJ t)=ST at *;generalize bs (bJ (co:Rat))=CT at *;generalize bs (bJ z)=ZT at *;generalize bs (bJ (z-t))=DT at *;generalize bs (bJ (FQ.vel ⟨up,co,dir,v,t⟩))=VT at *;generalize bs (bJ (FQ.vel ⟨up,co,dir,v,t⟩*(z-t)))=MT at *;go_enter func170,ntmps170;go_wp2_with fail
  have hb:=bT.new w #[aN up,aD aE co,aD aE dir,aA SP,aA ST] 44;have hB:=(aH _ w).alloc (aG _) (aJ #[aN up,aD aE co,aD aE dir,aA SP,aA ST] 44);refine(HC.out _ hB).mono ?_;rintro e W⟨rfl,hb1⟩;have hb:=hb.below hb1 hb.lt;have hB:=aR hB hb1 hB.size;have d0:=hb.ce 0;have d1:=hb.ce 1;have d2:=hb.ce 2;have d3:=hb.ce 3;have d4:=hb.ce 4;have lt:=hb.lt;have HB:=zq hB;clear hb hB hb1;go_wp2_with fail
  go_region_held3 (fun w'=>w'.cell? ⟨w.heap.size,0,none⟩=some (aN up)∧w'.cell? ⟨w.heap.size,1,none⟩=some (aD aE co)∧w'.cell? ⟨w.heap.size,2,none⟩=some (aD aE dir)∧w'.cell? ⟨w.heap.size,3,none⟩=some (aA SP)∧w'.cell? ⟨w.heap.size,4,none⟩=some (aA ST)) (go_keep)
   (first
    |(go_at_call 239;refine(HW.out _ (HB.out.drew)).mono ?_;rintro e w1 ⟨rfl,hb1⟩;have mM:=aR HB.out.drew hb1 HB.out.size;have:=ck hb1 w.heap.size 0 (aN up);have:=ck hb1 w.heap.size 1 (aD aE co);have:=ck hb1 w.heap.size 2 (aD aE dir);have:=ck hb1 w.heap.size 3 (aA SP);have:=ck hb1 w.heap.size 4 (aA ST))
    |(go_at_call 242;refine(HV.out _ mM).mono ?_;rintro e w2 ⟨rfl,hb2⟩;have gJ:=aR mM hb2 mM.size;have:=ck hb2 w.heap.size 0 (aN up);have:=ck hb2 w.heap.size 1 (aD aE co);have:=ck hb2 w.heap.size 2 (aD aE dir);have:=ck hb2 w.heap.size 3 (aA SP);have:=ck hb2 w.heap.size 4 (aA ST))
    |(go_at_call 243;refine(HS.out _ gJ).mono ?_;rintro e w3 ⟨rfl,hb3⟩;have kY:=aR gJ hb3 gJ.size;have:=ck hb3 w.heap.size 0 (aN up);have:=ck hb3 w.heap.size 1 (aD aE co);have:=ck hb3 w.heap.size 2 (aD aE dir);have:=ck hb3 w.heap.size 3 (aA SP);have:=ck hb3 w.heap.size 4 (aA ST))
    |(go_at_call 241;refine(HM.out _ kY).mono ?_;rintro e w4 ⟨rfl,hb4⟩;have oI:=aR kY hb4 kY.size;have:=ck hb4 w.heap.size 0 (aN up);have:=ck hb4 w.heap.size 1 (aD aE co);have:=ck hb4 w.heap.size 2 (aD aE dir);have:=ck hb4 w.heap.size 3 (aA SP);have:=ck hb4 w.heap.size 4 (aA ST))
    |(go_at_call 240;refine(HA.out _ oI).mono ?_;rintro e w5 ⟨rfl,hb5⟩;have Ie:=aR oI hb5 oI.size;have:=ck hb5 w.heap.size 0 (aN up);have:=ck hb5 w.heap.size 1 (aD aE co);have:=ck hb5 w.heap.size 2 (aD aE dir);have:=ck hb5 w.heap.size 3 (aA SP);have:=ck hb5 w.heap.size 4 (aA ST)))
  go_wp2;go_ret;exact⟨by rw[R.out];rfl,Ie⟩
theorem rn{x:Rat}(hx:HQ 36 x):long36 (bJ x)=false:=by
 have hc:eH (bJ x)=0:=pM hx (by decide);unfold long36;rw[EQ hc,EO hc,jZ,nP,mE,dO,decide_eq_false_iff_not,decide_eq_false_iff_not];have e1:=(cS x.num.natAbs 36 (by decide)).2 hx.1;have e2:=(cS x.den 36 (by decide)).2 hx.2;omega
theorem numF_T{x:Rat}(hx:HQ 36 x):gT (bJ x)=0:=by
 rw[gT,ip (pM hx (by decide)),iN (by rw[rn hx];decide)]
theorem FQ.Good.lens{q:FQ}(h:q.Good):q.fr.sp.length≤8000000∧q.fr.st.length≤8000000:=by
 have h1:=tT h.v (by decide);have h2:=tT h.t (by decide);rw[cZ]at h1 h2;exact⟨h1,h2⟩
theorem qP(q:FQ)(hq:q.Good)(w:aF)(hE:iM w):
 aW aC 90 #[q.fr.v] w (Rt (aD aE 0) w):=by
 have:=Ta q.fr w hE hq.lens.1 hq.lens.2;rwa[hq.chk]at this
theorem bT.front{W:aF}{b:Nat}{a0 a1 a2 a3 a4:aS}{T:eC}(h:bT W b #[a0,a1,a2,a3,a4] T):
 W.cell? ⟨b,0,none⟩=some a0∧W.cell? ⟨b,1,none⟩=some a1∧W.cell? ⟨b,2,none⟩=some a2∧W.cell? ⟨b,3,none⟩=some a3∧W.cell? ⟨b,4,none⟩=some a4:=
 ⟨h.cell 0,h.cell 1,h.cell 2,h.cell 3,h.cell 4⟩
theorem ro(q:FQ)(hq:q.Good)(a:Option cT)(n cap:Nat)(zs:List Rat)(hn:zs.length=n)(Ab:n≤1000)(hz:∀z∈zs,HQ 36 z)(w:aF)(hE:iM w)(hc:LC w a (jS (zs.map bJ))):
 aW aC 104 #[q.fr.v,aB a n cap] w (Rt (aD aE 0) w):=by
 have HC:=zq (fun(W:aF)(h:Below w.heap.size w W)=>qP q hq W (hE.below h));have HN:bH (∀(k:Nat),k<n→∀W,Below w.heap.size w W→aW aC 168 #[aA (bs ((zs.map bJ).getD k []))] W (Rt (aD aE 0) W)):=by
  intro k hk W h;have JM:k<zs.length:=by omega
  have e:(zs.map bJ).getD k []=bJ zs[k]:=by simp[aO,JM]
  have hzk:=hz _ (List.getElem_mem JM);rw[e];have:=Oj (bs (bJ zs[k])) W (hE.below h) (tT hzk (by decide));rwa[bP,numF_T hzk]at this
 have Hc:=zq hc;have Hn:bH ((zs.map bJ).length=n):=by show _=_;rw[cO];exact hn
 clear hE hq hz hc hn;unfold Fr.v Fr.cells at *;generalize zs.map bJ=ls at *;generalize bs q.fr.sp=SP at *;generalize bs q.fr.st=ST at *;go_enter func104,ntmps104;go_wp2_with fail
 have hB:=(aH _ w).alloc (aG _) (aJ #[aN q.fr.up,aD aE q.fr.co,aD aE q.fr.dir,aA SP,aA ST] 44);refine(HC.out _ hB).mono ?_;rintro e W1⟨rfl,hb1⟩;have mM:=aR hB hb1 hB.size;clear hb1 hB HC;go_wp2;go_loopw[13] (fun i wr=>∃k:Nat,i=aD aE k∧k≤n∧Below w.heap.size w wr) (fun i _=>n-(aK i).toNat);case atStart=>exact⟨0,rfl,bN _,mM⟩
 case round=>
  obtain⟨k,rfl,hk,hB⟩:=hrel;by_cases hlt:k<n
  ·obtain⟨b,off,rfl,NS⟩:=Hc.out k (by rw[Gx,Hn.out];exact hlt);rw[Av ls (by rw[Hn.out];exact hlt)]at NS;have hcx':=(hB.cell (p:=⟨b,off+k,none⟩) (bG w _ NS)).trans NS;have HNk:=zq (HN.out k hlt);clear NS;generalize bs (ls.getD k [])=X at *;go_wp2_with fail
   refine(HNk.out _ hB).mono ?_;rintro e W2⟨rfl,hb2⟩;go_wp2;go_roundw;case rel=>exact⟨k+1,by go_num,by omega,aR hB hb2 hB.size⟩
   case measure=>simp only[aK];omega
  ·obtain rfl:n=k:=by omega
   go_wp2;go_ret;exact⟨rfl,hB⟩
theorem Tc(q:FQ)(hq:q.Good)(z:Rat)(hz:HQ 36 z)(w:aF)(hE:iM w):
 aW aC 93 #[q.fr.v,aA (bs (bJ z))] w (Rt (cC #[aA (bs (bJ (q.pos z))),aD aE 0]) w):=by
 have HC:=zq (fun(W:aF)(h:Below w.heap.size w W)(a:Option cT)(hc:LC W a (jS ([z].map bJ)))=>ro q hq a 1 1 [z] rfl (by decide) (by intro x hx;rw[gQ]at hx;subst hx;exact hz) W (hE.below h) hc);have HP:=zq (fun(W:aF)(h:Below w.heap.size w W)=>CK q hq z 36 hz (by decide) W (hE.below h));have HR:bH (∀(W:aF)(T:eC),LC (W.alloc (aJ #[aA (bs (bJ z))] T)) (some ⟨W.heap.size,0,none⟩) (jS ([z].map bJ))):=by
  intro W T i hi;have hi:i<1:=hi;obtain rfl:i=0:=by omega
  exact⟨_,_,rfl,(bT.new W #[aA (bs (bJ z))] T).cell 0⟩
 clear hE hq hz;unfold Fr.v Fr.cells at *;generalize bs q.fr.sp=SP at *;generalize bs q.fr.st=ST at *;generalize bs (bJ z)=ZT at *;generalize bs (bJ (q.pos z))=PT at *;go_enter func93,ntmps93;go_wp2_with fail
 have hb:=(bT.new w #[aN q.fr.up,aD aE q.fr.co,aD aE q.fr.dir,aA SP,aA ST] 44).alloc (aJ #[aA ZT] 27);have hB:=((aH _ w).alloc (aG _) (aJ #[aN q.fr.up,aD aE q.fr.co,aD aE q.fr.dir,aA SP,aA ST] 44)).alloc (by simp) (aJ #[aA ZT] 27);have hr:=HR.out (w.alloc (aJ #[aN q.fr.up,aD aE q.fr.co,aD aE q.fr.dir,aA SP,aA ST] 44)) 27;rw[bB]at hr;refine(HC.out _ hB _ hr).mono ?_;rintro e W1⟨rfl,hb1⟩;have hb:=hb.below hb1 hb.lt;have hB:=aR hB hb1 hB.size;obtain⟨d0,d1,d2,d3,d4⟩:=hb.front;have lt:=hb.lt;clear hb hb1 hr;go_wp2_with fail
 refine(HP.out _ hB).mono ?_;rintro e W2⟨rfl,hb2⟩;go_wp2;go_ret2;exact⟨rfl,aR hB hb2 hB.size⟩
end
section
open Go
def FQ.low(q:FQ)(z:Rat):Rat:=if z≤q.t then 0 else q.vel
def FQ.high(q:FQ)(z:Rat):Rat:=if z<q.t then 0 else q.vel
def lR(f g:FQ)(z:Rat):Prop:=f.pos z=g.pos z∧(f.low z≠g.low z∨f.high z≠g.high z)
theorem rq{q:FQ}{z:Rat}(h:z≤q.t):q.pos z=q.co:=ip h
theorem IP{q:FQ}{z:Rat}(h:q.t<z):q.pos z=q.co+q.vel*(z-q.t):=iN (Rat.not_le.2 h)
def yH(f g:FQ):Rat:=(g.co:Rat)-(f.co:Rat)
def iW(f g:FQ):List Rat:=
 [f.t,g.t]++(if f.vel≠0 then[f.t+yH f g/f.vel]else[])++(if g.vel≠0 then[g.t-yH f g/g.vel]else[])++
  (if f.vel≠g.vel then[(yH f g+(f.vel*f.t-g.vel*g.t))/(f.vel-g.vel)]else[])
theorem Ol{f g:FQ}{z:Rat}(h:lR f g z):z∈iW f g:=by
 obtain⟨h1,h2⟩:=h;unfold iW;simp only[List.mem_append,List.mem_cons,List.not_mem_nil,or_false];by_cases e1:z=f.t
 ·exact .inl (.inl (.inl (.inl e1)))
 by_cases e2:z=g.t
 ·exact .inl (.inl (.inl (.inr e2)))
 rcases(by grind:z<f.t∨f.t<z)with a|a<;>rcases(by grind:z<g.t∨g.t<z)with b|b
 ·have l1:f.low z=0:=ip (qB a);have l2:g.low z=0:=ip (qB b);have u1:f.high z=0:=ip a;have u2:g.high z=0:=ip b;rw[l1,l2,u1,u2]at h2;grind
 ·rw[rq (qB a),IP b]at h1;have hw:g.vel≠0:=by
   intro e;have l1:f.low z=0:=ip (qB a);have l2:g.low z=g.vel:=iN (Rat.not_le.2 b);have u1:f.high z=0:=ip a;have u2:g.high z=g.vel:=iN (by grind);grind
  refine .inl (.inr ?_);rw[ip hw,gQ];unfold yH;grind
 ·rw[rq (qB b),IP a]at h1;have hw:f.vel≠0:=by
   intro e;have l1:g.low z=0:=ip (qB b);have l2:f.low z=f.vel:=iN (Rat.not_le.2 a);have u1:g.high z=0:=ip b;have u2:f.high z=f.vel:=iN (by grind);grind
  refine .inl (.inl (.inr ?_));rw[ip hw,gQ];unfold yH;grind
 ·rw[IP a,IP b]at h1;have hw:f.vel≠g.vel:=by
   intro e;have l1:g.low z=g.vel:=iN (Rat.not_le.2 b);have l2:f.low z=f.vel:=iN (Rat.not_le.2 a);have u1:g.high z=g.vel:=iN (by grind);have u2:f.high z=f.vel:=iN (by grind);grind
  refine .inr ?_;rw[ip hw,gQ];unfold yH;grind
end
section
open Go Go.RowKit Go.Lib
theorem LI(x y:Rat):(x<y∧tG x y= -1)∨(x=y∧tG x y=0)∨(y<x∧tG x y=1):=by
 unfold tG;by_cases h:x<y
 ·exact .inl ⟨h,ip h⟩
 ·by_cases k:y<x
  ·exact .inr (.inr ⟨k,by rw[iN h,ip k]⟩)
  ·exact .inr (.inl ⟨by grind,by rw[iN h,iN k]⟩)
theorem Ej(q:FQ)(hq:q.Good)(z:Rat)(k:Nat)(hz:HQ k z)(hk:k≤200)(w:aF)(hE:iM w):
 aW aC 217 #[q.fr.v,aA (bs (bJ z))] w (Rt (cC #[aA (bs (bJ (q.low z))),aA (bs (bJ (q.high z)))]) w):=by
 have HC:=zq (fun(W:aF)(h:Below w.heap.size w W)=>JC hz hq.t (by omega) W (hE.below h));have HV:=zq (fun(W:aF)(h:Below w.heap.size w W)=>zE q hq W (hE.below h));have z0:bs (bJ 0)={data:= #[48]}:=by rw[uM];rfl
 clear hE hq hz hk;unfold Fr.v Fr.cells at *;generalize hSP:bs q.fr.sp=SP at *;generalize hST:bs (bJ q.t)=ST at *;rw[show bs q.fr.st=ST from hST]at *;clear hSP hST;have jq:=LI z q.t;generalize tG z q.t=cm at *;have R:bH (∀a b,q.low z=a→q.high z=b→(aQ (cC #[aA (bs (bJ (q.low z))),aA (bs (bJ (q.high z)))])=aQ (cC #[aA (bs (bJ a)),aA (bs (bJ b))]))):=by
  intro a b h1 h2;rw[h1,h2]
 have hb:=bT.new w #[aN q.fr.up,aD aE q.fr.co,aD aE q.fr.dir,aA SP,aA ST] 44;have hB:=(aH _ w).alloc (aG _) (aJ #[aN q.fr.up,aD aE q.fr.co,aD aE q.fr.dir,aA SP,aA ST] 44);rcases jq with⟨h,rfl⟩|⟨h,rfl⟩|⟨h,rfl⟩
 ·have RR:=zq (R.out 0 0 (ip (qB h)) (ip h));rw[z0]at RR;clear R h z0 HV;generalize bs (bJ z)=ZT at *;go_enter U6,Rm;go_wp2_with fail
  refine(HC.out _ hB).mono ?_;rintro e W⟨rfl,hb1⟩;go_wp2;go_ret2;exact⟨RR.out.symm,aR hB hb1 hB.size⟩
 ·have RR:=zq (R.out 0 q.vel (ip (by grind)) (iN (by grind)));rw[z0]at RR;clear R h z0;generalize bs (bJ z)=ZT at *;generalize bs (bJ q.vel)=VT at *;go_enter U6,Rm;go_wp2_with fail
  refine(HC.out _ hB).mono ?_;rintro e W⟨rfl,hb1⟩;have hb:=hb.below hb1 hb.lt;have hB:=aR hB hb1 hB.size;obtain⟨d0,d1,d2,d3,d4⟩:=hb.front;have lt:=hb.lt;clear hb hb1;go_wp2_with fail
  refine(HV.out _ hB).mono ?_;rintro e W2⟨rfl,hb2⟩;go_wp2;go_ret2;exact⟨RR.out.symm,aR hB hb2 hB.size⟩
 ·have RR:=zq (R.out q.vel q.vel (iN (by grind)) (iN (by grind)));clear R h z0;generalize bs (bJ z)=ZT at *;generalize bs (bJ q.vel)=VT at *;go_enter U6,Rm;go_wp2_with fail
  refine(HC.out _ hB).mono ?_;rintro e W⟨rfl,hb1⟩;have hb:=hb.below hb1 hb.lt;have hB:=aR hB hb1 hB.size;obtain⟨d0,d1,d2,d3,d4⟩:=hb.front;have lt:=hb.lt;have HB:=zq hB;clear hb hb1 hB;go_wp2_with fail
  go_region_held3 (fun w'=>w'.cell? ⟨w.heap.size,0,none⟩=some (aN q.fr.up)∧w'.cell? ⟨w.heap.size,1,none⟩=some (aD aE q.fr.co)∧w'.cell? ⟨w.heap.size,2,none⟩=some (aD aE q.fr.dir)∧w'.cell? ⟨w.heap.size,3,none⟩=some (aA SP)∧w'.cell? ⟨w.heap.size,4,none⟩=some (aA ST)) (go_keep)
   (first
    |(go_at_call 242;have tok:=HB.out;refine(HV.out _ HB.out.drew).mono ?_;rintro e w1 ⟨rfl,hb1⟩;have mM:=aR HB.out.drew hb1 HB.out.size;have:=ck hb1 w.heap.size 0 (aN q.fr.up);have:=ck hb1 w.heap.size 1 (aD aE q.fr.co);have:=ck hb1 w.heap.size 2 (aD aE q.fr.dir);have:=ck hb1 w.heap.size 3 (aA SP);have:=ck hb1 w.heap.size 4 (aA ST))
    |(go_at_call 242;refine(HV.out _ mM).mono ?_;rintro e w2 ⟨rfl,hb2⟩;have gJ:=aR mM hb2 mM.size;have:=ck hb2 w.heap.size 0 (aN q.fr.up);have:=ck hb2 w.heap.size 1 (aD aE q.fr.co);have:=ck hb2 w.heap.size 2 (aD aE q.fr.dir);have:=ck hb2 w.heap.size 3 (aA SP);have:=ck hb2 w.heap.size 4 (aA ST)))
  go_wp2;go_ret2;exact⟨RR.out.symm,gJ⟩
theorem LJ:(Tryz.prog.info? 27).map (fun i=>(i.zero,i.size,i.bytes))=some (some (aA ⟨#[]⟩),1,16):=by kernel_rfl
theorem LC.own{w:aF}{base e:Nat}{a:Option cT}{n cap:Nat}{xs:List aS}(h:w.ownsRow base e 1 (aB a n cap) n xs):LC w a xs:=by
 intro i hi;have hl:=h.1;simp only[Nat.mul_one]at hl;rcases h.2 with⟨_,h2⟩|⟨g,c,yU,hv,_⟩
 ·omega
 ·injection hv with e1 e2 e3;subst e1 e3;refine⟨g,0,rfl,?_⟩;have:=eX h i (by omega);rw[dZ,this];simp[aO,List.getElem?_eq_getElem hi]
theorem Ys{w:aF}{cR:Array Oper}{rest:List Oper}{o:Oper}{a:Act}{Q:Exit→Act→aF→Prop}(Is:o.guard=none)(s x:Operand)
 (ho:o.op=.call {callee:=.builtin .append,args:= #[s,x],argTypes:= #[54,54]})(base:Nat)
 (v:aS)(n:Nat)(xs:List aS)(hs:a.eval s=v)(hown:w.ownsRow base 27 1 v n xs)
 (y:ByteArray)(hx:a.eval x=aB (some ⟨w.heap.size,0,none⟩) 1 1)
 (M8:n+1≤2147483648)(kJ:base≤w.heap.size)
 (h:∀g cap w',w'.ownsRow base 27 1 (aB (some ⟨g,0,none⟩) (n+1) cap) (n+1) (xs++[aA y])→base≤g→w.grownBy w' v.ownBlock→
  wpList aC cR Q rest (a.put o.dst (aB (some ⟨g,0,none⟩) (n+1) cap)) w'):
 wpList aC cR Q (o::rest) a (w.alloc (aJ #[aA y] 27)):=by
 obtain⟨i0,hi,zL,vX,oL⟩:=info_parts LJ;exact rO Is s x 54 ho base 27 i0 (aA ⟨#[]⟩) 1 16 underlying54 hi zL vX oL rfl (by decide) v n xs hs hown [aA y] hx rfl (by simp[Value.oneCell']) M8 (by decide) kJ h
instance:Inhabited Fr:=⟨⟨false,0,0,[],[]⟩⟩
structure Pt where
 side:Int
 fr:List UInt8
 en:List UInt8
abbrev Pt.cells(p:Pt):Array aS:= #[aD aE p.side,aA (bs p.fr),aA (bs p.en)]
abbrev Pt.v(p:Pt):aS:=cN p.cells
instance:Inhabited Pt:=⟨⟨0,[],[]⟩⟩
structure Lp where
 a:Option cT
 cap:Nat
 ps:List Pt
def Lp.v(l:Lp):aS:=aB l.a l.ps.length l.cap
instance:Inhabited Lp:=⟨⟨none,0,[]⟩⟩
def zR(W:aF)(a:Option cT)(fs:List Fr):Prop:=
 ∀i,i<fs.length→∃b off,a=some ⟨b,off,none⟩∧∀j,j<5→W.cell? ⟨b,off+i*5+j,none⟩=some ((fs.getD i default).cells.getD j aP)
def CL(W:aF)(a:Option cT)(ps:List Pt):Prop:=
 ∀i,i<ps.length→∃b off,a=some ⟨b,off,none⟩∧∀j,j<3→W.cell? ⟨b,off+i*3+j,none⟩=some ((ps.getD i default).cells.getD j aP)
def E5(W:aF)(a:Option cT)(ls:List Lp):Prop:=
 ∀i,i<ls.length→∃b off,a=some ⟨b,off,none⟩∧W.cell? ⟨b,off+i,none⟩=some (ls.getD i default).v∧CL W (ls.getD i default).a (ls.getD i default).ps
def Ek(W:aF)(a:Option cT)(xs:List (List UInt8)):Prop:=
 ∀i,i<xs.length→∃b off,a=some ⟨b,off,none⟩∧W.cell? ⟨b,off+i,none⟩=some (aA (bs (xs.getD i [])))
theorem zR.below{w w':aF}{a:Option cT}{fs:List Fr}(h:zR w a fs)(hb:Below w.heap.size w w'):zR w' a fs:=by
 intro i hi;obtain⟨b,off,rfl,hc⟩:=h i hi;exact⟨b,off,rfl,fun j hj=>(hb.cell (p:=⟨b,off+i*5+j,none⟩) (bG w _ (hc j hj))).trans (hc j hj)⟩
theorem CL.below{w w':aF}{a:Option cT}{ps:List Pt}(h:CL w a ps)(hb:Below w.heap.size w w'):CL w' a ps:=by
 intro i hi;obtain⟨b,off,rfl,hc⟩:=h i hi;exact⟨b,off,rfl,fun j hj=>(hb.cell (p:=⟨b,off+i*3+j,none⟩) (bG w _ (hc j hj))).trans (hc j hj)⟩
theorem E5.below{w w':aF}{a:Option cT}{ls:List Lp}(h:E5 w a ls)(hb:Below w.heap.size w w'):E5 w' a ls:=by
 intro i hi;obtain⟨b,off,rfl,hc,hp⟩:=h i hi;exact⟨b,off,rfl,(hb.cell (p:=⟨b,off+i,none⟩) (bG w _ hc)).trans hc,hp.below hb⟩
theorem Ek.below{w w':aF}{a:Option cT}{xs:List (List UInt8)}(h:Ek w a xs)(hb:Below w.heap.size w w'):Ek w' a xs:=by
 intro i hi;obtain⟨b,off,rfl,hc⟩:=h i hi;exact⟨b,off,rfl,(hb.cell (p:=⟨b,off+i,none⟩) (bG w _ hc)).trans hc⟩
theorem rt{w:aF}{a:Option cT}{xs:List (List UInt8)}(h:LC w a (jS xs)):Ek w a xs:=by
 intro i hi;have:=h i (by rw[Gx];exact hi);rwa[Av xs hi]at this
theorem zR.at{w:aF}{a:Option cT}{fs:List Fr}(h:zR w a fs){i:Nat}(hi:i<fs.length){f:Fr}(hf:fs.getD i default=f):∃b off,a=some ⟨b,off,none⟩∧
 w.cell? ⟨b,off+i*5,none⟩=some (aN f.up)∧w.cell? ⟨b,off+i*5+1,none⟩=some (aD aE f.co)∧w.cell? ⟨b,off+i*5+2,none⟩=some (aD aE f.dir)∧
 w.cell? ⟨b,off+i*5+3,none⟩=some (aA (bs f.sp))∧w.cell? ⟨b,off+i*5+4,none⟩=some (aA (bs f.st)):=by
 obtain⟨b,off,rfl,hc⟩:=h i hi;subst hf;exact⟨b,off,rfl,hc 0 (by decide),hc 1 (by decide),hc 2 (by decide),hc 3 (by decide),hc 4 (by decide)⟩
theorem CL.at{w:aF}{a:Option cT}{ps:List Pt}(h:CL w a ps){i:Nat}(hi:i<ps.length){p:Pt}(hp:ps.getD i default=p):∃b off,a=some ⟨b,off,none⟩∧
 w.cell? ⟨b,off+i*3,none⟩=some (aD aE p.side)∧w.cell? ⟨b,off+i*3+1,none⟩=some (aA (bs p.fr))∧w.cell? ⟨b,off+i*3+2,none⟩=some (aA (bs p.en)):=by
 obtain⟨b,off,rfl,hc⟩:=h i hi;subst hp;exact⟨b,off,rfl,hc 0 (by decide),hc 1 (by decide),hc 2 (by decide)⟩
theorem E5.at{w:aF}{a:Option cT}{ls:List Lp}(h:E5 w a ls){i:Nat}(hi:i<ls.length){l:Lp}(hl:ls.getD i default=l):∃b off,a=some ⟨b,off,none⟩∧
 w.cell? ⟨b,off+i,none⟩=some (aB l.a l.ps.length l.cap)∧CL w l.a l.ps:=by
 obtain⟨b,off,rfl,hc,hp⟩:=h i hi;subst hl;exact⟨b,off,rfl,hc,hp⟩
theorem am (g:FI) (lb:Array aS) (eg:∀ args w,(uQ g args).run aC w= .ok (.enter g args) w) (a:Option cT) (n cap:Nat) (xs:List Fr) (p:Nat→Bool) (w:aF)
 (hn:xs.length=n) (sT:n≤9223372036854775807) (hc:zR w a xs)
 (hp:∀ i,i < n→∀ W,Below w.heap.size w W→aW aC g (#[(xs.getD i default).v] ++ lb) W (Rt (aN (p i)) W)) :
 aW aC 166 #[aB a n cap, .func (.func g) #[] lb] w (Rt (aD aE (mD p n)) w):=by
 have Hc:=zq hc;have Hn:=zq hn;have Hp:=zq hp;clear hc hn hp;go_enter func166,ntmps166;go_wp2;go_loopw [5,8] (fun _ i wr=> ∃ k:Nat,i=aD aE k∧k≤n∧Below w.heap.size w wr∧bH (mD p k= -1)) (fun _ i _=> n - (aK i).toNat);case atStart=> exact⟨0,rfl,bN _,aH _ w,rfl⟩
 case round=>
  obtain⟨k,rfl,hk,hB,hz⟩:=hrel;by_cases hlt:k < n
  ·obtain⟨b,off,rfl,c0,c1,c2,c3,c4⟩:=(Hc.out.below hB).at (i:=k) (by rw [Hn.out];exact hlt) rfl;have IQ:=zq (Hp.out k hlt);unfold Fr.v Fr.cells at IQ;generalize xs.getD k default=x at *;cases hq:p k with
   | true=>
    rw [hq] at IQ;have R:bH (mD p n=k):=Aj hz.out hq hlt;clear hq;go_wp2_with fail
    refine(IQ.out _ hB).mono ?_;rintro e W1 ⟨rfl,hb1⟩;go_wp2;go_ret;exact⟨by rw [R.out] <;> rfl,aR hB hb1 hB.size⟩
   | false=>
    rw [hq] at IQ;have oL:bH (mD p (k + 1)= -1):=Ai hz.out hq;clear hq;go_wp2_with fail
    refine(IQ.out _ hB).mono ?_;rintro e W1 ⟨rfl,hb1⟩;go_wp2;go_roundw;case rel=> exact⟨k + 1,by go_num,by omega,aR hB hb1 hB.size,oL⟩
    case measure=> simp only [aK];omega
  ·obtain rfl:n=k:=by omega
   go_wp2;go_ret;exact⟨by rw [hz.out] <;> rfl,hB⟩
theorem an(g:FI)(lb:Array aS)(eg:∀args w,(uQ g args).run aC w=.ok (.enter g args) w)(a:Option cT)(n cap:Nat)(xs:List Fr)(p:Nat→Bool)(w:aF)
 (hn:xs.length=n)(sT:n≤9223372036854775807)(hc:zR w a xs)
 (hp:∀i,i<n→∀W,Below w.heap.size w W→aW aC g (#[(xs.getD i default).v]++lb) W (Rt (aN (p i)) W)):
 aW aC 88 #[aB a n cap,.func (.func g) #[] lb] w (Rt (aN (anyN p n)) w):=by
 have HI:=zq (am g lb eg a n cap xs p w hn sT hc hp);have R:bH (∀c,mD p n=c→anyN p n=decide (0≤c)):=fun c h=>by rw[←h];exact Ak p n
 clear hp hc hn;generalize mD p n=c at *;have R:=zq (R.out c rfl);go_enter func88,ntmps88;go_wp2_with fail
 refine HI.out.mono ?_;rintro e W1⟨rfl,hb1⟩;go_wp2;go_ret;exact⟨by rw[R.out]<;>rfl,hb1⟩
theorem ru (g:FI) (lb:Array aS) (eg:∀ args w,(uQ g args).run aC w= .ok (.enter g args) w) (a:Option cT) (n cap:Nat) (xs:List Pt) (p:Nat→Bool) (w:aF)
 (hn:xs.length=n) (sT:n≤9223372036854775807) (hc:CL w a xs)
 (hp:∀ i,i < n→∀ W,Below w.heap.size w W→aW aC g (#[(xs.getD i default).v] ++ lb) W (Rt (aN (p i)) W)) :
 aW aC 142 #[aB a n cap, .func (.func g) #[] lb] w (Rt (aD aE (mD p n)) w):=by
 have Hc:=zq hc;have Hn:=zq hn;have Hp:=zq hp;clear hc hn hp;go_enter func142,ntmps142;go_wp2;go_loopw [5,8] (fun _ i wr=> ∃ k:Nat,i=aD aE k∧k≤n∧Below w.heap.size w wr∧bH (mD p k= -1)) (fun _ i _=> n - (aK i).toNat);case atStart=> exact⟨0,rfl,bN _,aH _ w,rfl⟩
 case round=>
  obtain⟨k,rfl,hk,hB,hz⟩:=hrel;by_cases hlt:k < n
  ·obtain⟨b,off,rfl,c0,c1,c2⟩:=(Hc.out.below hB).at (i:=k) (by rw [Hn.out];exact hlt) rfl;have IQ:=zq (Hp.out k hlt);unfold Pt.v Pt.cells at IQ;generalize xs.getD k default=x at *;cases hq:p k with
   | true=>
    rw [hq] at IQ;have R:bH (mD p n=k):=Aj hz.out hq hlt;clear hq;go_wp2_with fail
    refine(IQ.out _ hB).mono ?_;rintro e W1 ⟨rfl,hb1⟩;go_wp2;go_ret;exact⟨by rw [R.out] <;> rfl,aR hB hb1 hB.size⟩
   | false=>
    rw [hq] at IQ;have oL:bH (mD p (k + 1)= -1):=Ai hz.out hq;clear hq;go_wp2_with fail
    refine(IQ.out _ hB).mono ?_;rintro e W1 ⟨rfl,hb1⟩;go_wp2;go_roundw;case rel=> exact⟨k + 1,by go_num,by omega,aR hB hb1 hB.size,oL⟩
    case measure=> simp only [aK];omega
  ·obtain rfl:n=k:=by omega
   go_wp2;go_ret;exact⟨by rw [hz.out] <;> rfl,hB⟩
theorem Td(g:FI)(lb:Array aS)(eg:∀args w,(uQ g args).run aC w=.ok (.enter g args) w)(a:Option cT)(n cap:Nat)(xs:List Pt)(p:Nat→Bool)(w:aF)
 (hn:xs.length=n)(sT:n≤9223372036854775807)(hc:CL w a xs)
 (hp:∀i,i<n→∀W,Below w.heap.size w W→aW aC g (#[(xs.getD i default).v]++lb) W (Rt (aN (p i)) W)):
 aW aC 65 #[aB a n cap,.func (.func g) #[] lb] w (Rt (aN (anyN p n)) w):=by
 have HI:=zq (ru g lb eg a n cap xs p w hn sT hc hp);have R:bH (∀c,mD p n=c→anyN p n=decide (0≤c)):=fun c h=>by rw[←h];exact Ak p n
 clear hp hc hn;generalize mD p n=c at *;have R:=zq (R.out c rfl);go_enter func65,ntmps65;go_wp2_with fail
 refine HI.out.mono ?_;rintro e W1⟨rfl,hb1⟩;go_wp2;go_ret;exact⟨by rw[R.out]<;>rfl,hb1⟩
theorem sb (g:FI) (lb:Array aS) (eg:∀ args w,(uQ g args).run aC w= .ok (.enter g args) w) (a:Option cT) (n cap:Nat) (xs:List Lp) (p:Nat→Bool) (w:aF)
 (hn:xs.length=n) (sT:n≤9223372036854775807) (hc:E5 w a xs)
 (hp:∀ i,i < n→∀ W,Below w.heap.size w W→aW aC g (#[aB (xs.getD i default).a (xs.getD i default).ps.length (xs.getD i default).cap] ++ lb) W (Rt (aN (p i)) W)) :
 aW aC 169 #[aB a n cap, .func (.func g) #[] lb] w (Rt (aD aE (mD p n)) w):=by
 have Hc:=zq hc;have Hn:=zq hn;have Hp:=zq hp;clear hc hn hp;go_enter func169,ntmps169;go_wp2;go_loopw [5,8] (fun _ i wr=> ∃ k:Nat,i=aD aE k∧k≤n∧Below w.heap.size w wr∧bH (mD p k= -1)) (fun _ i _=> n - (aK i).toNat);case atStart=> exact⟨0,rfl,bN _,aH _ w,rfl⟩
 case round=>
  obtain⟨k,rfl,hk,hB,hz⟩:=hrel;by_cases hlt:k < n
  ·obtain⟨b,off,rfl,c0,_⟩:=(Hc.out.below hB).at (i:=k) (by rw [Hn.out];exact hlt) rfl;have IQ:=zq (Hp.out k hlt);generalize xs.getD k default=x at *;cases hq:p k with
   | true=>
    rw [hq] at IQ;have R:bH (mD p n=k):=Aj hz.out hq hlt;clear hq;go_wp2_with fail
    refine(IQ.out _ hB).mono ?_;rintro e W1 ⟨rfl,hb1⟩;go_wp2;go_ret;exact⟨by rw [R.out] <;> rfl,aR hB hb1 hB.size⟩
   | false=>
    rw [hq] at IQ;have oL:bH (mD p (k + 1)= -1):=Ai hz.out hq;clear hq;go_wp2_with fail
    refine(IQ.out _ hB).mono ?_;rintro e W1 ⟨rfl,hb1⟩;go_wp2;go_roundw;case rel=> exact⟨k + 1,by go_num,by omega,aR hB hb1 hB.size,oL⟩
    case measure=> simp only [aK];omega
  ·obtain rfl:n=k:=by omega
   go_wp2;go_ret;exact⟨by rw [hz.out] <;> rfl,hB⟩
theorem Te(g:FI)(lb:Array aS)(eg:∀args w,(uQ g args).run aC w=.ok (.enter g args) w)(a:Option cT)(n cap:Nat)(xs:List Lp)(p:Nat→Bool)(w:aF)
 (hn:xs.length=n)(sT:n≤9223372036854775807)(hc:E5 w a xs)
 (hp:∀i,i<n→∀W,Below w.heap.size w W→aW aC g (#[aB (xs.getD i default).a (xs.getD i default).ps.length (xs.getD i default).cap]++lb) W (Rt (aN (p i)) W)):
 aW aC 91 #[aB a n cap,.func (.func g) #[] lb] w (Rt (aN (anyN p n)) w):=by
 have HI:=zq (sb g lb eg a n cap xs p w hn sT hc hp);have R:bH (∀c,mD p n=c→anyN p n=decide (0≤c)):=fun c h=>by rw[←h];exact Ak p n
 clear hp hc hn;generalize mD p n=c at *;have R:=zq (R.out c rfl);go_enter func91,ntmps91;go_wp2_with fail
 refine HI.out.mono ?_;rintro e W1⟨rfl,hb1⟩;go_wp2;go_ret;exact⟨by rw[R.out]<;>rfl,hb1⟩
def oY(f:Fr):Int:=if f.up=true then(if 0<f.dir then 3 else 1)else(if 0<f.dir then 0 else 2)
def JY(f:Fr):Int:=if f.up=true then -f.dir else f.dir
def se(d:Int):Int:=if d<2 then 1 else -1
theorem Yt{f:Fr}(h:f.dir=1∨f.dir= -1):se (oY f)=JY f:=by
 unfold se oY JY;cases f.up<;>rcases h with e|e<;>rw[e]<;>decide
theorem pN(f:Fr)(w:aF):
 aW aC 52 #[f.v] w (Rt (aD aE (oY f)) w):=by
 obtain⟨up,co,dir,sp,st⟩:=f;have R:bH (oY ⟨up,co,dir,sp,st⟩=if up=true then(if 0<dir then 3 else 1)else(if 0<dir then 0 else 2)):=rfl;unfold Fr.v Fr.cells;simp only[];have hB:=zq ((aH _ w).alloc (aG _) (aJ #[aN up,aD aE co,aD aE dir,aA (bs sp),aA (bs st)] 44));generalize bs sp=SP at *;generalize bs st=ST at *;cases up;case' false=>have R2:bH (oY ⟨false,co,dir,sp,st⟩=if 0<dir then 0 else 2):=R;clear R;have R:=R2;clear R2
 case' true=>have R2:bH (oY ⟨true,co,dir,sp,st⟩=if 0<dir then 3 else 1):=R;clear R;have R:=R2;clear R2
 all_goals
  by_cases hd:0<dir;case' pos=>rw[ip hd]at R
  case' neg=>rw[iN hd]at R
  all_goals
   go_enter func52,ntmps52;go_wp2;go_ret;exact⟨by rw[R.out]<;>rfl,hB.out⟩
theorem Om(d:Int)(w:aF):
 aW aC 67 #[aD aE d] w fun e w'=>e=aQ (aD aE (se d))∧w=w':=by
 by_cases h:d<2;case' pos=>have R:bH (se d=1):=ip h
 case' neg=>have R:bH (se d= -1):=iN h
 all_goals
  go_enter func67,ntmps67;go_wp2;go_ret;exact⟨by rw[R.out]<;>rfl,rfl⟩
def JZ(fs:List Fr):Nat→Bool:=fun i=>B9 (fs.getD i default) !=0
def P7(ls:List Lp):Nat→Bool:=fun i=>decide (96<(ls.getD i default).ps.length)
def xM(fs:List Fr):Bool:=decide (24<fs.length)||anyN (JZ fs) fs.length
def sU(ls:List Lp):Bool:=decide (24<ls.length)||anyN (P7 ls) ls.length
def J0(zs:List (List UInt8))(n:Nat):Int:=sS (fun j=>gT (zs.getD j [])) n
def iL(fs:List Fr)(zs:List (List UInt8))(ls:List Lp):Int:=
 if xM fs=true then 1 else if J0 zs zs.length≠0 then J0 zs zs.length else if sU ls=true then 4 else 0
theorem Yu{fs:List Fr}{zs:List (List UInt8)}{ls:List Lp}(h:24<fs.length):iL fs zs ls=1:=by
 rw[iL,ip];unfold xM;rw[decide_eq_true h,Bool.true_or]
theorem chkT_f2{fs:List Fr}{zs:List (List UInt8)}{ls:List Lp}{i:Nat}(hi:i<fs.length)(h:JZ fs i=true):iL fs zs ls=1:=by
 rw[iL,ip];unfold xM;rw[eJ.2 ⟨i,hi,h⟩,Bool.or_true]
theorem On{fs:List Fr}(h:¬24<fs.length)(h2:anyN (JZ fs) fs.length=false):xM fs=false:=by
 unfold xM;rw[decide_eq_false h,h2];rfl
theorem chkT_z{fs:List Fr}{zs:List (List UInt8)}{ls:List Lp}(hf:xM fs=false){i:Nat}(hi:i<zs.length)(hz:J0 zs i=0)(h:gT (zs.getD i [])≠0):iL fs zs ls=gT (zs.getD i []):=by
 have e:J0 zs zs.length=gT (zs.getD i []):=Gy hz h _ hi;rw[iL,iN (by rw[hf];decide),e,ip h]
theorem chkT_l{fs:List Fr}{zs:List (List UInt8)}{ls:List Lp}(hf:xM fs=false)(hz:J0 zs zs.length=0):iL fs zs ls=if sU ls=true then 4 else 0:=by
 rw[iL,iN (by rw[hf];decide),iN (by rw[hz];decide)]
theorem badLs_1{ls:List Lp}(h:24<ls.length):sU ls=true:=by unfold sU;rw[decide_eq_true h,Bool.true_or]
theorem badLs_2{ls:List Lp}{i:Nat}(hi:i<ls.length)(h:P7 ls i=true):sU ls=true:=by unfold sU;rw[eJ.2 ⟨i,hi,h⟩,Bool.or_true]
theorem ap{ls:List Lp}(h:¬24<ls.length)(h2:anyN (P7 ls) ls.length=false):sU ls=false:=by
 unfold sU;rw[decide_eq_false h,h2];rfl
theorem tr_new1(f:Fr)(w:aF)(hE:iM w)(h1:f.sp.length≤8000000)(h2:f.st.length≤8000000):
 aW aC 89 #[f.v] w (Rt (aN (B9 f !=0)) w):=by
 have HC:=zq (fun(W:aF)(h:Below w.heap.size w W)=>Ta f W (hE.below h) h1 h2);have hB:=(aH _ w).alloc (aG _) (aJ f.cells 44);clear hE h1 h2;have Hne:bH (∀c,B9 f=c→(B9 f !=0)=(c !=0)):=fun c h=>by rw[h]
 generalize B9 f=c at *;obtain⟨up,co,dir,sp,st⟩:=f;unfold Fr.v Fr.cells at *;simp only[]at *;generalize bs sp=SP at *;generalize bs st=ST at *;go_enter func89,ntmps89;go_wp2_with fail
 refine(HC.out _ hB).mono ?_;rintro e W1⟨rfl,hb1⟩;go_wp2;go_ret;exact⟨rfl,aR hB hb1 hB.size⟩
theorem tr_new2(a:Option cT)(n cap:Nat)(hn:n≤1000000)(w:aF):
 aW aC 92 #[aB a n cap] w fun e w'=>e=aQ (aN (decide (96<n)))∧w=w':=by
 by_cases h:(96:Int)<(n:Int);case' pos=>have R:bH (decide (96<n)=true):=decide_eq_true (by omega)
 case' neg=>have R:bH (decide (96<n)=false):=decide_eq_false (by omega)
 all_goals
  go_enter func92,ntmps92;go_wp2;go_ret;exact⟨by rw[R.out]<;>rfl,rfl⟩
def Fr.q(f:Fr):FQ:=⟨f.up,f.co,f.dir,dD f.sp,dD f.st⟩
theorem FQ.fr_q(q:FQ):q.fr.q=q:=by
 cases q;simp only[Fr.q,FQ.fr,jZ]
structure Fr.Ok(f:Fr):Prop where
 chk:B9 f=0
 sp:f.sp.length≤30
 st:f.st.length≤30
theorem Fr.Ok.good{f:Fr}(h:f.Ok):f.q.Good∧f.q.fr=f:=by
 obtain⟨q,hq,rfl⟩:=Fr.good h.chk h.sp h.st;rw[FQ.fr_q];exact⟨hq,rfl⟩
theorem Fr.Ok.dir{f:Fr}(h:f.Ok):f.dir=1∨f.dir= -1:=h.good.1.dir
theorem E6{s:List UInt8}(h:gT s=0):eH s=0∧HQ 36 (dD s)∧bJ (dD s)=s:=by
 unfold gT at h;by_cases hc:eH s=0
 ·rw[ip hc]at h;by_cases hl:long36 s=true
  ·rw[ip hl]at h;cases h
  ·exact⟨hc,aj hc (by simpa using hl),Iv hc⟩
 ·rw[iN hc]at h;exact absurd h hc
theorem Oo{s:List UInt8}(h:gT s=0):s.length≤8000000:=by
 obtain⟨-,h2,h3⟩:=E6 h;have:=tT h2 (by decide);rw[h3,cZ]at this;exact this
def Wo(f:Fr)(z:List UInt8):List UInt8:=bJ (f.q.pos (dD z))
def oZ(fs:List Fr)(z:List UInt8):List (List UInt8):=fs.map fun f=>Wo f z
theorem P8(f:Fr)(hf:f.Ok)(z:List UInt8)(hz:gT z=0)(w:aF)(hE:iM w):
 aW aC 93 #[f.v,aA (bs z)] w (Rt (cC #[aA (bs (Wo f z)),aD aE 0]) w):=by
 obtain⟨hg,he⟩:=hf.good;obtain⟨-,h2,h3⟩:=E6 hz;have:=Tc f.q hg (dD z) h2 w hE;rwa[he,h3]at this
theorem sf{fs:List Fr}{z:List UInt8}{k:Nat}(hk:k<fs.length):jS ((oZ fs z).take (k+1))=jS ((oZ fs z).take k)++[aA (bs (Wo (fs.getD k default) z))]:=by
 unfold oZ jS;rw[List.take_succ_eq_append_getElem (by rw[cO];exact hk)];simp[aO,hk]
def P9(a:Option cT)(n ca:Nat)(fs:List Fr)(zs:List (List UInt8))(ls:List Lp)(w:aF)(e:Ending)(w':aF):Prop:=
 (∃a1 n1 c1 a2 n2 c2,e=aQ (cC #[cN #[aB a1 n1 c1,aB a2 n2 c2],aD aE (iL fs zs ls)])∧
  (iL fs zs ls=0→a1=a∧n1=n∧c1=ca∧(0<zs.length→n2=n∧Ek w' a2 (oZ fs (zs.getD 0 [])))))∧Below w.heap.size w w'
theorem bT.two{W:aF}{b:Nat}{x y:aS}{T:eC}(h:bT W b #[x,y] T):W.cell? ⟨b,0,none⟩=some x∧W.cell? ⟨b,1,none⟩=some y∧W.frozen? ⟨b,0,none⟩=false∧W.frozen? ⟨b,1,none⟩=false∧b<W.heap.size:=
 ⟨h.cell 0,h.cell 1,h.fz 0,h.fz 1,h.lt⟩
theorem sV (a b c:Option cT) (n m k ca cb cc:Nat) (fs:List Fr) (ls:List Lp) (zs:List (List UInt8)) (w:aF) (hE:iM w)
 (hf:fs.length=n) (hl:ls.length=m) (hz:zs.length=k) (hn:n≤1000000) (hm:m≤1000000) (hk:k≤1000000)
 (Ig:∀ f∈fs,f.sp.length≤30∧f.st.length≤30) (hzs:∀ z∈zs,z.length≤8000000) (Nx:∀ l∈ls,l.ps.length≤1000000)
 (rf:zR w a fs) (rl:E5 w b ls) (rz:Ek w c zs) :
 aW aC 37 #[aB a n ca,aB b m cb,aB c k cc] w (P9 a n ca fs zs ls w):=by
 have HA:bH (∀ W,Below w.heap.size w W→aW aC 88 #[aB a n ca, .func (.func 89) #[] #[]] W (Rt (aN (anyN (JZ fs) n)) W)):=fun W hW=>
  an 89 #[] (nH func89 (by kernel_rfl) rfl) a n ca fs (JZ fs) W hf (by omega) (rf.below hW) (fun i hi W2 h2=> by
   have:=Ig _ (eB (by rw [hf];exact hi) default);rw [H8];exact tr_new1 _ W2 (hE.below (hW.trans (h2.mono hW.size))) (by omega) (by omega))
 have HL:bH (∀ W,Below w.heap.size w W→aW aC 91 #[aB b m cb, .func (.func 92) #[] #[]] W (Rt (aN (anyN (P7 ls) m)) W)):=fun W hW=>
  Te 92 #[] (nH func92 (by kernel_rfl) rfl) b m cb ls (P7 ls) W hl (by omega) (rl.below hW) (fun i hi W2 h2=> by
   rw [H8];refine(tr_new2 _ _ _ (Nx _ (eB (by rw [hl];exact hi) default)) W2).mono ?_;rintro e w' ⟨h1,rfl⟩;exact⟨h1,aH _ _⟩)
 have HZ:bH (∀ i,i < k→∀ W,Below w.heap.size w W→aW aC 69 #[aA (bs (zs.getD i []))] W (Rt (aD aE (gT (zs.getD i []))) W)):=fun i hi W h=> by
  have h1:=hzs _ (eB (by rw [hz];exact hi) []);have:=GA (bs (zs.getD i [])) W (hE.below h) (by rw [cZ];exact h1);rwa [bP] at this
 have HP:bH (anyN (JZ fs) n=false→0 < k→gT (zs.getD 0 [])=0→∀ i,i < n→∀ W,Below w.heap.size w W→aW aC 93 #[(fs.getD i default).v,aA (bs (zs.getD 0 []))] W (Rt (cC #[aA (bs (Wo (fs.getD i default) (zs.getD 0 []))),aD aE 0]) W)):=fun hA hk0 h0 i hi W h=> by
  have h1:=Ig _ (eB (by rw [hf];exact hi) default);have h2:=dC.1 hA i hi;have h3:B9 (fs.getD i default)=0:=by unfold JZ at h2;simpa using h2
  exact P8 _ ⟨h3,h1.1,h1.2⟩ _ h0 W (hE.below h)
 have HT:bH (∀ i,i < n→jS ((oZ fs (zs.getD 0 [])).take (i + 1))=jS ((oZ fs (zs.getD 0 [])).take i) ++ [aA (bs (Wo (fs.getD i default) (zs.getD 0 [])))]):=fun i hi=> sf (by rw [hf];exact hi);have HLn:bH ((oZ fs (zs.getD 0 [])).take n=oZ fs (zs.getD 0 [])):=List.take_of_length_le (by unfold oZ;rw [cO,hf];exact aG _);have Hf:=zq hf;have Hl:=zq hl;have Hz:=zq hz;have Rf:=zq rf;have Rz:=zq rz;have R1:bH (24 < n→iL fs zs ls=1):=fun h=> Yu (by rw [hf];exact h);have R2:bH (anyN (JZ fs) n=true→iL fs zs ls=1):=fun h=> by
  obtain⟨i,hi,h2⟩:=eJ.1 h;exact chkT_f2 (by rw [hf];exact hi) h2
 have RF:bH (¬ 24 < n→anyN (JZ fs) n=false→xM fs=false):=fun h1 h2=> On (by rw [hf];exact h1) (by rw [hf];exact h2);have RL1:bH (24 < m→sU ls=true):=fun h=> badLs_1 (by rw [hl];exact h);have RL2:bH (anyN (P7 ls) m=true→sU ls=true):=fun h=> by
  obtain⟨i,hi,h2⟩:=eJ.1 h;exact badLs_2 (by rw [hl];exact hi) h2
 have RL3:bH (¬ 24 < m→anyN (P7 ls) m=false→sU ls=false):=fun h1 h2=> ap (by rw [hl];exact h1) (by rw [hl];exact h2);have si:bH (∀ c:Int,iL fs zs ls=c→c≠0→∀ W,Below w.heap.size w W→P9 a n ca fs zs ls w (aQ (cC #[cN #[aB none 0 0,aB none 0 0],aD aE c])) W):=fun c h1 h2 W hB=>
  ⟨⟨_,_,_,_,_,_,by rw [h1],fun h=> absurd (h1.symm.trans h) h2⟩,hB⟩
 have q0:=bT.new w #[aB none 0 0,aB none 0 0] 70;have fA:=(aH w.heap.size w).alloc (aG _) (aJ #[aB none 0 0,aB none 0 0] 70);clear hE hf hl hz Ig hzs Nx rf rl rz;obtain⟨w0,jr⟩:∃ W,w.alloc (aJ #[aB none 0 0,aB none 0 0] 70)=W:=⟨_,rfl⟩;by_cases h24:24 < n
 ·have e:=zq (si.out 1 (R1.out h24) (by decide));clear jr;go_enter func37,ntmps37;go_wp2;exact cI (dF (T:=70) pQ _ _ w.heap.size _ _ rfl (by first | exact q0 | exact(q0.set 0 _).set 1 _) tO rM) rfl (e.out _ (by first | exact fA | exact(fA.setCell (aG _) _).setCell (aG _) _))
 ·have hB0' :=fA;have q0' :=q0;rw [jr] at hB0' q0';have gY:=zq hB0';have Q0:=zq q0';have HH:=zq jr;clear R1 fA q0 hB0' q0' jr;go_enter func37,ntmps37;go_wp2_with fail
  rw [HH.out];refine(HA.out _ gY.out).mono ?_;rintro e W1 ⟨rfl,hb1⟩;have mM:=aR gY.out hb1 gY.out.size;have Q1:=zq (Q0.out.below hb1 Q0.out.lt);clear hb1 HA HH Q0 gY;obtain⟨A,hA⟩:∃ A,anyN (JZ fs) n=A:=⟨_,rfl⟩;rw [hA] at R2 RF HP ⊢;clear hA;cases A with
  | true=>
   have e:=zq (si.out 1 (R2.out rfl) (by decide));obtain⟨c0,c1,f0,f1,lt⟩:=Q1.out.two;go_wp2;exact cI (dF (T:=70) pQ _ _ w.heap.size _ _ rfl ((Q1.out.set 0 _).set 1 _) tO rM) rfl (e.out _ ((mM.setCell (aG _) _).setCell (aG _) _))
  | false=>
   have Hbf:=zq (RF.out h24 rfl);have Tf:=zq (HP.out rfl);clear R2 RF HP;go_wp2;go_loopw [26] (fun i wr=> ∃ j:Nat,i=aD aE j∧j≤k∧bH (Below w.heap.size w wr)∧bH (bT wr w.heap.size #[aB none 0 0,aB none 0 0] 70)∧bH (J0 zs j=0)) (fun i _=> k - (aK i).toNat);case atStart=> exact⟨0,rfl,bN _,mM,Q1.out,rfl⟩
   case round=>
    clear mM Q1;obtain⟨j,rfl,hj,HB,HQ,hz⟩:=hrel;by_cases hlt:j < k
    ·obtain⟨p,off,rfl,c0⟩:=(Rz.out.below HB.out) j (by rw [Hz.out];exact hlt);have HZj:=zq (HZ.out j hlt);have RZ:bH (gT (zs.getD j [])≠0→iL fs zs ls=gT (zs.getD j [])):=fun h=> chkT_z Hbf.out (by rw [Hz.out];exact hlt) hz.out h;have RN:bH (gT (zs.getD j [])=0→J0 zs (j + 1)=0):=fun h=> IL hz.out h;by_cases h0:gT (zs.getD j [])=0
     ·have e:=zq (RN.out h0);rw [h0] at HZj;clear h0 RZ RN;generalize bs (zs.getD j [])=Z at *;go_wp2_with fail
      refine(HZj.out _ HB.out).mono ?_;rintro e' W2 ⟨rfl,hb2⟩;go_wp2;go_roundw;case rel=> exact⟨j + 1,by go_num,by omega,aR HB.out hb2 HB.out.size,HQ.out.below hb2 HQ.out.lt,e⟩
      case measure=> simp only [aK];omega
     ·have e:=zq (si.out _ (RZ.out h0) h0);have h' :(gT (zs.getD j []) !=0)=true:=by rw [bne_iff_ne];exact h0
      clear h0 RZ RN;generalize gT (zs.getD j [])=c at *;generalize bs (zs.getD j [])=Z at *;go_wp2_with fail
      refine(HZj.out _ HB.out).mono ?_;rintro e' W2 ⟨rfl,hb2⟩;have gJ:=aR HB.out hb2 HB.out.size;have DO:=zq (HQ.out.below hb2 HQ.out.lt);obtain⟨d0,d1,f0,f1,lt⟩:=DO.out.two;go_wp2;exact cI (dF (T:=70) pQ _ _ w.heap.size _ _ rfl ((DO.out.set 0 _).set 1 _) tO rM) rfl (e.out _ ((gJ.setCell (aG _) _).setCell (aG _) _))
    ·obtain rfl:k=j:=by omega
     have RL:=zq (chkT_l (ls:=ls) Hbf.out (by rw [Hz.out];exact hz.out));have PQ:bH (0 < k→gT (zs.getD 0 [])=0):=fun h=> IM hz.out 0 h;clear HZ Hbf hlt;rename aF=> wB;by_cases h24l:24 < m
     ·have e:=zq (si.out 4 (RL.out.trans (ip (RL1.out h24l))) (by decide));obtain⟨d0,d1,f0,f1,lt⟩:=HQ.out.two;go_wp2;exact cI (dF (T:=70) pQ _ _ w.heap.size _ _ rfl ((HQ.out.set 0 _).set 1 _) tO rM) rfl (e.out _ ((HB.out.setCell (aG _) _).setCell (aG _) _))
     ·go_wp2_with fail
      refine(HL.out _ HB.out).mono ?_;rintro e W3 ⟨rfl,hb3⟩;have kY:=zq (aR HB.out hb3 HB.out.size);have Q3:=zq (HQ.out.below hb3 HQ.out.lt);clear hb3 HB HQ HL RL1;obtain⟨A,hA⟩:∃ A,anyN (P7 ls) m=A:=⟨_,rfl⟩;rw [hA] at RL2 RL3 ⊢;clear hA;cases A with
      | true=>
       have e:=zq (si.out 4 (RL.out.trans (ip (RL2.out rfl))) (by decide));obtain⟨d0,d1,f0,f1,lt⟩:=Q3.out.two;go_wp2;exact cI (dF (T:=70) pQ _ _ w.heap.size _ _ rfl ((Q3.out.set 0 _).set 1 _) tO rM) rfl (e.out _ ((kY.out.setCell (aG _) _).setCell (aG _) _))
      | false=>
       have e0:=zq (RL.out.trans (iN (by rw [RL3.out h24l rfl];decide)));clear RL RL2 RL3 si hz;obtain⟨d0,d1,f0,f1,lt⟩:=Q3.out.two;have Z6:=kY.out.alloc kY.out.size (aJ #[aB a n ca,aB none 0 0] 70);have qA:=bT.new W3 #[aB a n ca,aB none 0 0] 70;have q6:=Q3.out.alloc (aJ #[aB a n ca,aB none 0 0] 70);by_cases hk0:0 < k
       ·have zL:=PQ.out hk0;have HPb:=zq (Tf.out hk0 zL);obtain⟨pz,oz,rfl, -⟩:=Rz.out 0 (by rw [Hz.out];exact hk0);have HZc:bH (∀ W,Below w.heap.size w W→W.cell? ⟨pz,oz,none⟩=some (aA (bs (zs.getD 0 [])))):=fun W hW=> by
         obtain⟨p',o',e1,h1⟩:=(Rz.out.below hW) 0 (by rw [Hz.out];exact hk0);injection e1 with e1;injection e1 with e1 e2;subst e1 e2;exact h1
        have Hz0:=zq zL;clear zL Tf PQ d0 d1 f0 f1 lt;generalize hZ:zs.getD 0 []=z0 at *;have HZe:=zq hZ;clear hZ;have HBA:=zq Z6;have QA:=zq qA;have Q6:=zq q6;have hlt3:w.heap.size < W3.heap.size:=Q3.out.lt;clear Z6 qA q6 kY Q3;go_wp2;obtain⟨G,hG⟩:∃ G,W3.heap.size=G:=⟨_,rfl⟩;rw [hG] at QA hlt3 ⊢;obtain⟨WA,hWA⟩:∃ W,W3.alloc (aJ #[aB a n ca,aB none 0 0] 70)=W:=⟨_,rfl⟩;rw [hWA] at QA Q6 HBA ⊢;clear hG hWA;go_loopw [52] (fun i wr=> ∃ (j:Nat) (v:aS),i=aD aE j∧j≤n∧bH (Below w.heap.size w wr)∧bH (bT wr w.heap.size #[aB none 0 0,aB none 0 0] 70)∧bH (bT wr G #[aB a n ca,v] 70)∧bH (wr.ownsRow (G + 1) 27 1 v j (jS ((oZ fs z0).take j)))) (fun i _=> n - (aK i).toNat);case atStart=> exact⟨0,_,rfl,bN _,HBA.out,Q6.out,QA.out,⟨by simp [jS], .inl ⟨rfl,rfl⟩⟩⟩
        case round=>
         clear HBA Q6 QA;obtain⟨j,v,rfl,hj,HB,Q6,QT,qO⟩:=hrel;by_cases hlt:j < n
         ·obtain⟨b1,off,rfl,c0,c1,c2,c3,c4⟩:=(Rf.out.below HB.out).at (i:=j) (by rw [Hf.out];exact hlt) rfl;have HPj:=zq (HPb.out j hlt);have HTj:=zq (HT.out j hlt);have hzc:=HZc.out _ HB.out;have hbl:b1 < wr.heap.size:=bG wr ⟨b1,off + j * 5,none⟩ c0;unfold Fr.v Fr.cells at HPj;generalize fs.getD j default=f at *;obtain⟨Aw,CM,pA,LK,Rx⟩:=f;simp only [] at *;generalize bs (Wo ⟨Aw,CM,pA,LK,Rx⟩ z0)=Y at *;generalize bs LK=FSP at *;generalize bs Rx=FST at *;generalize bs z0=Z at *;have HBb:=zq (HB.out.alloc HB.out.size (aJ #[aN Aw,aD aE CM,aD aE pA,aA FSP,aA FST] 44));go_wp2;go_cut [14] (fun v W=> v=aA Y∧bH (Below wr.heap.size wr W));case first=>
           go_region_held3 (fun w' => (w'.cell? ⟨wr.heap.size,0,none⟩=some (aN Aw)∧w'.cell? ⟨wr.heap.size,1,none⟩=some (aD aE CM)∧w'.cell? ⟨wr.heap.size,2,none⟩=some (aD aE pA)∧w'.cell? ⟨wr.heap.size,3,none⟩=some (aA FSP)∧w'.cell? ⟨wr.heap.size,4,none⟩=some (aA FST))∧w'.cell? ⟨pz,oz,none⟩=some (aA Z)) (go_keep)
            (first
             | (go_at_call 93;with_reducible refine(HPj.out _ HBb.out.drew).mono ?_;rintro e w1 ⟨rfl,hb1⟩;have hBp:=zq (((aH wr.heap.size wr).alloc (aG _) _).drew.trans (hb1.mono (by simp)));have:=ck hb1 wr.heap.size 0 (aN Aw);have:=ck hb1 wr.heap.size 1 (aD aE CM);have:=ck hb1 wr.heap.size 2 (aD aE pA);have:=ck hb1 wr.heap.size 3 (aA FSP);have:=ck hb1 wr.heap.size 4 (aA FST);have kz:=cF hb1 (p:=⟨pz,oz,none⟩) (v:=aA Z) (by simp [*])))
           go_wp2;go_meet;case rel=> exact⟨rfl,hBp.out⟩
          case rest=>
          obtain⟨rfl,IR⟩:=hcut;have vR:=zq (aU HB.out IR.out);have Q6:=zq (Q6.out.below IR.out Q6.out.lt);have hGlt:=QT.out.lt;have QT:=zq (QT.out.below IR.out QT.out.lt);have nC:=dI qO.out IR.out;have Ru:G + 1≤wc.heap.size:=Nat.le_trans hGlt IR.out.size;obtain⟨t0,t1,tf0,tf1,tl⟩:=QT.out.two;clear HB IR qO HPj HPb c0 c1 c2 c3 c4 hzc HBb hGlt;go_wp2_with (at_builtin;refine Ys rfl _ _ rfl (G + 1) v j _ rfl nC _ rfl (by omega) Ru ?_;intro g1 Ni w1 Gn hg1 tJ;have hqg:=zq (QT.out.grown tJ (wF nC (by omega)));obtain⟨t0,t1,tf0,tf1,tl⟩:=hqg.out.two)
          have fR:=zq ((eP vR.out tJ nC (by omega) vR.out.size).setCell (p:=⟨G,1,none⟩) (Nat.le_of_lt hlt3) (aB (some ⟨g1,0,none⟩) (j + 1) Ni));have Q62:=zq ((Q6.out.grown tJ (wF nC (by omega))).other (a:=⟨G,1,none⟩) (aB (some ⟨g1,0,none⟩) (j + 1) Ni) (by show w.heap.size≠G;omega));have QT2:=zq (hqg.out.set 1 (aB (some ⟨g1,0,none⟩) (j + 1) Ni));rw [← HTj.out] at Gn;have sj:=zq (lB Gn (a:=⟨G,1,none⟩) (by show G < G + 1;omega) (aB (some ⟨g1,0,none⟩) (j + 1) Ni));clear nC Gn tJ t0 t1 tf0 tf1 tl hqg vR Q6 QT;go_wp2;go_roundw;case rel=> exact⟨j + 1,_,by go_num,by omega,fR.out,Q62.out,QT2.out,sj.out⟩
          case measure=> simp only [aK];omega
         ·obtain rfl:n=j:=by omega
          obtain⟨t0,t1,tf0,tf1,tl⟩:=QT.out.two;obtain⟨d0,d1,f0,f1,lt⟩:=Q6.out.two;obtain⟨vb,vc,rfl⟩:∃ b c,v=aB b n c:=by
           rcases qO.out.2 with ⟨h1,h2⟩ | ⟨g,cap,yU,h1,_⟩
           ·exact⟨none,0,by rw [h1,h2]⟩
           ·exact⟨_,_,h1⟩
          have jC:¬ w.heap.size=G:=by omega
          have hne' :¬ G=w.heap.size:=by omega
          go_wp2;refine cI (dF (T:=70) pQ _ _ w.heap.size _ _ rfl ((Q6.out.set 0 _).set 1 _) tO rM) rfl ⟨⟨a,n,ca,vb,n,vc,by rw [e0.out] <;> rfl,fun _=> ⟨rfl,rfl,rfl,fun _=> ⟨rfl, ?_⟩⟩⟩,(HB.out.setCell (aG _) _).setCell (aG _) _⟩;have Oe:=lB (lB qO.out (a:=⟨w.heap.size,0,none⟩) (by show w.heap.size < G + 1;omega) (aB a n ca)) (a:=⟨w.heap.size,1,none⟩) (by show w.heap.size < G + 1;omega) (aB vb n vc);rw [HLn.out] at Oe;rw [HZe.out];exact rt (LC.own Oe)
       ·have hk00:k=0:=by omega
        subst hk00;obtain⟨t0,t1,tf0,tf1,tl⟩:=qA.two;obtain⟨e00,e01,ef0,ef1,el⟩:=q6.two;have Q6:=zq q6;have HBA:=zq Z6;have hlz:zs.length=0:=Hz.out;have Hlz:=zq hlz;have jC:¬ w.heap.size=W3.heap.size:=Nat.ne_of_lt Q3.out.lt;clear hlz;go_wp2;exact cI (dF (T:=70) pQ _ _ w.heap.size _ _ rfl (((Q3.out.set 0 _).set 1 _).alloc _) tO rM) rfl ⟨⟨a,n,ca,none,0,0,by rw [e0.out] <;> rfl,fun _=> ⟨rfl,rfl,rfl,fun h=> absurd h (by rw [Hlz.out];decide)⟩⟩,((kY.out.setCell (aG _) _).setCell (aG _) _).alloc (by simp [kY.out.size]) _⟩
theorem key_way(x y d:Int)(w:aF):(Instr.checkKey true 10000 153 (cN #[aD aE x,aD aE y,aD aE d])).run aC w=.ok () w:=by kernel_rfl
theorem sk(x y:Int)(w:aF):(Instr.checkKey true 10000 151 (cN #[aD aE x,aD aE y])).run aC w=.ok () w:=by kernel_rfl
theorem und_sb(w:aF):(underlying 138).run aC w=.ok (.map 151 4) w:=by kernel_rfl
theorem und_wb(w:aF):(underlying 146).run aC w=.ok (.map 153 4) w:=by kernel_rfl
theorem zer_b(w:aF):(zeroValue 4).run aC w=.ok (aN false) w:=by kernel_rfl
theorem LL{w:aF}{b:Nat}{es:Array MapEntry}{c:Nat}(h:w.heap[b]? =some (.map es c)):(getObj b).run aC w=.ok (.map es c) w:=by simp[getObj,Sem.run,h]
theorem so(k:aS)(w:aF):(Instr.findKey 153 k []).run aC w=.ok none w:=by kernel_rfl
theorem au(k:aS)(w:aF):(Instr.findKey 151 k []).run aC w=.ok none w:=by kernel_rfl
theorem look_wb{w:aF}{b c:Nat}(h:w.heap[b]? =some (.map #[] c))(x y d:Int):(Ij 146 (.map (some b)) (cN #[aD aE x,aD aE y,aD aE d]) false).run aC w=.ok (aN false) w:=by
 simp[Ij,wD,und_wb,zt,LL h,key_way,so,zer_b]
theorem look_sb{w:aF}{b c:Nat}(h:w.heap[b]? =some (.map #[] c))(x y:Int):(Ij 138 (.map (some b)) (cN #[aD aE x,aD aE y]) false).run aC w=.ok (aN false) w:=by
 simp[Ij,wD,und_sb,zt,LL h,sk,au,zer_b]
theorem sq(f:aS)(w:aF):aW aC 231 #[aB none 0 0,aD aE 0,aD aE 0,f] w fun e w'=>(∃v,e=aQ v)∧Below w.heap.size w w':=by
 go_enter func231,ntmps231;go_wp2;go_loop [8] (fun i=>i=aD aE 1) (fun _=>0);case atStart=>rfl
 case round=>
  obtain rfl:=hrel;go_wp2;go_end0;exact⟨⟨_,rfl⟩,aH _ _⟩
theorem av(f:aS)(w:aF):aW aC 154 #[aB none 0 0,aD aE 0,f] w fun e w'=>(∃v,e=aQ v)∧Below w.heap.size w w':=by
 have HI:=zq (fun W=>sq f W);go_enter func154,ntmps154;go_wp2;go_loop [7,8] (fun a b=>a=aD aE 0∧b=aD aE 20) (fun _ _=>0);case atStart=>exact⟨rfl,rfl⟩
 case round=>
  obtain⟨rfl,rfl⟩:=hrel;go_wp2_with fail
  refine(HI.out _).mono ?_;rintro e W1⟨⟨v,rfl⟩,hb1⟩;have eW:=zq hb1;clear hb1;go_wp2;go_loopw[6] (fun a wr=>a=aD aE 20∧bH (Below w.heap.size w wr)) (fun _ _=>0);case atStart=>exact⟨rfl,eW.out⟩
  case round=>
   obtain⟨rfl,HB⟩:=hrel;go_wp2;go_end0;exact⟨⟨_,rfl⟩,HB.out⟩
theorem aw(f:aS)(w:aF):aW aC 77 #[aB none 0 0,f] w fun e w'=>(∃v,e=aQ v)∧Below w.heap.size w w':=by
 have HI:=zq (fun W=>av f W);go_enter func77,ntmps77;go_wp2_with fail
 refine(HI.out _).mono ?_;rintro e W1⟨⟨v,rfl⟩,hb1⟩;have eW:=zq hb1;clear hb1;go_wp2;go_end0;exact⟨⟨_,rfl⟩,eW.out⟩
theorem Ny(a b:Option cT)(n m ca cb:Nat)(w:aF):aW aC 32 #[cN #[aB a n ca,aB b m cb],aB none 0 0] w (Rt (aB none 0 0) w):=by
 have gY:=zq ((aH w.heap.size w).alloc (aG _) (aJ #[aB a n ca,aB b m cb] 70));obtain⟨W0,eQ⟩:∃W,w.alloc (aJ #[aB a n ca,aB b m cb] 70)=W:=⟨_,rfl⟩;rw[eQ]at gY;have HI:=zq (fun W v=>aw v W);go_enter func32,ntmps32;go_wp2;try rw[eQ]
 clear eQ;go_loop [5,12] (fun o i=>o=aB none 0 0∧i=aD aE 0) (fun _ _=>0);case atStart=>exact⟨rfl,rfl⟩
 case round=>
  obtain⟨rfl,rfl⟩:=hrel;go_wp2_with fail
  refine(HI.out _ _).mono ?_;rintro e W1⟨⟨v,rfl⟩,hb1⟩;have eW:=zq (aU gY.out hb1);clear hb1;go_wp2;go_ret;exact⟨rfl,eW.out⟩
theorem Tg(x:Int)(u:Bool)(w:aF):aW aC 175 #[cN #[aD aE x,aD aE x],aN u] w (Rt (aD aE x) w):=by
 have gY:=zq ((aH w.heap.size w).alloc (aG _) (aJ #[aD aE x,aD aE x] 151));obtain⟨e0,e1,-,-,lT⟩:=(bT.new w #[aD aE x,aD aE x] 151).two;obtain⟨W0,eQ⟩:∃W,w.alloc (aJ #[aD aE x,aD aE x] 151)=W:=⟨_,rfl⟩;rw[eQ]at gY e0 e1 lT;cases u<;>
 ·go_enter func175,ntmps175;go_upto_if 5 with(fail);try rw[eQ]
  go_wp2;go_ret;exact⟨rfl,gY.out⟩
def Ih(W:aF)(G:Nat)(xs ys:aS):Prop:=
 ∃m2 m3 m4:Nat,bT W G #[xs,ys,.map (some m2),.map (some m3),.map (some m4)] 140∧(∃c,W.heap[m2]? =some (.map #[] c))∧(∃c,W.heap[m3]? =some (.map #[] c))∧(∃c,W.heap[m4]? =some (.map #[] c))
def GC(fs:List Fr)(at':List (List UInt8))(p q:Pt):Bool:=
 if((fs.getD p.side.toNat default).up !=(fs.getD q.side.toNat default).up)=true then
  (p.en==at'.getD q.side.toNat [])&&(q.fr==at'.getD p.side.toNat [])
 else((fs.getD p.side.toNat default).dir==(fs.getD q.side.toNat default).dir)&&(p.en==q.fr)&&(at'.getD p.side.toNat []==at'.getD q.side.toNat [])
theorem Qa(x y:List UInt8):((bs x).toList==(bs y).toList)=(x==y):=by
 rw[cJ,cJ,bP,bP]
def JointW(w W:aF)(g h:Nat)(pc qc fc gc:Array aS):Prop:=
 bT W w.heap.size pc 47∧bT W (w.heap.size+1) qc 47∧bT W g fc 44∧bT W h gc 44∧Below w.heap.size w W
theorem joint1(w:aF)(pc qc fc gc:Array aS):JointW w ((((w.alloc (aJ pc 47)).alloc (aJ qc 47)).alloc (aJ fc 44)).alloc (aJ gc 44)) (w.heap.size+1+1) (w.heap.size+1+1+1) pc qc fc gc:=by
 refine⟨(((bT.new w _ _).alloc _).alloc _).alloc _,?_,?_,?_,((((aH _ w).alloc (aG _) _).alloc (by simp) _).alloc (by simp;omega) _).alloc (by simp;omega) _⟩
 ·have:=bT.new (w.alloc (aJ pc 47)) qc 47;rw[bB]at this;exact(this.alloc _).alloc _
 ·have:=bT.new ((w.alloc (aJ pc 47)).alloc (aJ qc 47)) fc 44;rw[bB,bB]at this;exact this.alloc _
 ·have:=bT.new (((w.alloc (aJ pc 47)).alloc (aJ qc 47)).alloc (aJ fc 44)) gc 44;rwa[bB,bB,bB]at this
theorem bT.three{W:aF}{b:Nat}{x y z:aS}{T:eC}(h:bT W b #[x,y,z] T):W.cell? ⟨b,0,none⟩=some x∧W.cell? ⟨b,1,none⟩=some y∧W.cell? ⟨b,2,none⟩=some z:=⟨h.cell 0,h.cell 1,h.cell 2⟩
def IS(w W:aF)(g h:Nat)(tc pc qc fc gc:Array aS):Prop:=
 bT W w.heap.size tc 70∧bT W (w.heap.size+1) pc 47∧bT W (w.heap.size+1+1) qc 47∧bT W g fc 44∧bT W h gc 44∧Below w.heap.size w W
theorem Yv(w:aF)(tc pc qc fc gc:Array aS):IS w (((((w.alloc (aJ tc 70)).alloc (aJ pc 47)).alloc (aJ qc 47)).alloc (aJ fc 44)).alloc (aJ gc 44)) (w.heap.size+1+1+1) (w.heap.size+1+1+1+1) tc pc qc fc gc:=by
 obtain⟨a,b,c,d,e⟩:=joint1 (w.alloc (aJ tc 70)) pc qc fc gc;rw[bB]at a b c d e;exact⟨((((bT.new w _ _).alloc _).alloc _).alloc _).alloc _,a,b,c,d,((aH _ w).alloc (aG _) _).trans (e.mono (by omega))⟩
theorem jointT2(w:aF)(tc pc qc fc gc:Array aS):IS w (((((w.alloc (aJ tc 70)).alloc (aJ pc 47)).alloc (aJ qc 47)).alloc (aJ gc 44)).alloc (aJ fc 44)) (w.heap.size+1+1+1+1) (w.heap.size+1+1+1) tc pc qc fc gc:=by
 obtain⟨a,b,c,d,e,f⟩:=Yv w tc pc qc gc fc;exact⟨a,b,c,e,d,f⟩
theorem IS.drew{w W:aF}{g h:Nat}{tc pc qc fc gc:Array aS}(k:IS w W g h tc pc qc fc gc):IS w W.drew g h tc pc qc fc gc:=⟨k.1,k.2.1,k.2.2.1,k.2.2.2.1,k.2.2.2.2.1,k.2.2.2.2.2.drew⟩
theorem sr{f g:Fr}(hf:f.dir=1∨f.dir= -1)(hg:g.dir=1∨g.dir= -1)(hu:f.up=g.up):(oY f==oY g)=(f.dir==g.dir):=by
 unfold oY;rw[hu];cases g.up<;>rcases hf with e|e<;>rcases hg with e2|e2<;>rw[e,e2]<;>decide
theorem az(a b:Option cT)(n ca cb:Nat)(fs:List Fr)(at':List (List UInt8))(p q:Pt)(s t:Nat)(w:aF)
 (hdir:∀f∈fs,f.dir=1∨f.dir= -1)(hs:p.side=s)(ht:q.side=t)(J2:s<n)(Rv:t<n)(hf:fs.length=n)(hl:at'.length=n)(rf:zR w a fs)(ra:Ek w b at'):
 aW aC 171 #[cN #[aB a n ca,aB b n cb],p.v,q.v] w (Rt (aN (GC fs at' p q)) w):=by
 obtain⟨b1,o1,rfl,c0,c1,c2,c3,c4⟩:=rf.at (i:=s) (by omega) rfl;obtain⟨b1',o1',e1,d0,d1,d2,d3,d4⟩:=rf.at (i:=t) (by omega) rfl;injection e1 with e1;injection e1 with e1 e2;subst e1 e2;obtain⟨b2,o2,rfl,k0⟩:=ra s (by omega);obtain⟨b2',o2',e1,k1⟩:=ra t (by omega);injection e1 with e1;injection e1 with e1 e2;subst e1 e2;obtain⟨ps,pf,pt⟩:=p;obtain⟨qs,qf,qt⟩:=q;obtain rfl:ps=s:=hs;obtain rfl:qs=t:=ht;have R:bH (GC fs at' ⟨s,pf,pt⟩ ⟨t,qf,qt⟩=if((fs.getD s default).up !=(fs.getD t default).up)=true then(pt==at'.getD t [])&&(qf==at'.getD s [])
  else((fs.getD s default).dir==(fs.getD t default).dir)&&(pt==qf)&&(at'.getD s []==at'.getD t [])):=rfl
 have l1:b1<w.heap.size:=bG w ⟨b1,o1+s*5,none⟩ c0;have l2:b2<w.heap.size:=bG w ⟨b2,o2+s,none⟩ k0;have u1:∀k,b1<w.heap.size+k:=fun k=>by omega
 have u2:∀k,b2<w.heap.size+k:=fun k=>by omega
 have v1:∀k,¬b1=w.heap.size+k:=fun k=>by omega
 have v2:∀k,¬b2=w.heap.size+k:=fun k=>by omega
 have v3:¬b1=w.heap.size:=by omega
 have v4:¬b2=w.heap.size:=by omega
 have hdf:=hdir _ (eB (by rw[hf];exact J2) default);have hdg:=hdir _ (eB (by rw[hf];exact Rv) default);clear hdir;rw[←Qa pt,←Qa qf,←Qa pt,←Qa (at'.getD s [])]at R;generalize fs.getD s default=f at *;generalize fs.getD t default=g at *;unfold Pt.v Pt.cells;simp only[];generalize GC fs at' ⟨s,pf,pt⟩ ⟨t,qf,qt⟩=J at *;generalize bs (at'.getD s [])=As at *;generalize bs (at'.getD t [])=At at *;generalize bs pf=PF at *;generalize bs pt=PT at *;generalize bs qf=QF at *;generalize bs qt=QT at *;have MW:=zq (fun W=>pN f W);have IK:=zq (fun W=>pN g W);have HDD:bH (f.up=g.up→(oY f==oY g)=(f.dir==g.dir)):=sr hdf hdg;clear hdf hdg;generalize oY f=D1 at *;generalize oY g=D2 at *;unfold Fr.v Fr.cells at MW IK;obtain⟨Aw,CM,pA,LK,Rx⟩:=f;obtain⟨Wp,gco,LM,gsp,gst⟩:=g;simp only[]at *;generalize bs LK=FSP at *;generalize bs Rx=FST at *;generalize bs gsp=GSP at *;generalize bs gst=GST at *;obtain⟨x1,hx1⟩:∃x,(PT.toList==At.toList)=x:=⟨_,rfl⟩;obtain⟨x2,hx2⟩:∃x,(QF.toList==As.toList)=x:=⟨_,rfl⟩;obtain⟨x3,hx3⟩:∃x,(PT.toList==QF.toList)=x:=⟨_,rfl⟩;obtain⟨x4,hx4⟩:∃x,(As.toList==At.toList)=x:=⟨_,rfl⟩;obtain⟨x5,hx5⟩:∃x,(pA==LM)=x:=⟨_,rfl⟩;rw[hx1,hx2,hx3,hx4,hx5]at R;clear rf ra hf hl;go_enter func171,ntmps171;go_upto_region 1 with fail
 go_cut[7,8] (fun x y W=>∃g h:Nat,x=bA (some ⟨g,0,none⟩)∧y=bA (some ⟨h,0,none⟩)∧bH (IS w W g h (#[aB (some ⟨b1,o1,none⟩) n ca,aB (some ⟨b2,o2,none⟩) n cb]) (#[aD aE s,aA PF,aA PT]) (#[aD aE t,aA QF,aA QT]) (#[aN Aw,aD aE CM,aD aE pA,aA FSP,aA FST]) (#[aN Wp,aD aE gco,aD aE LM,aA GSP,aA GST])));case first =>
  go_region;all_goals
   go_wp2;go_meet;case rel=>first |exact⟨_,_,rfl,rfl,(Yv _ _ _ _ _ _).drew⟩|exact⟨_,_,rfl,rfl,(jointT2 _ _ _ _ _ _).drew⟩
 case rest=>
 obtain⟨g',h',rfl,rfl,HJ⟩:=hcut;have hB:=zq HJ.out.2.2.2.2.2;have t0:=HJ.out.1.cell 0;have t1:=HJ.out.1.cell 1;simp only[aL,aI,bM]at t0 t1;obtain⟨p0,p1,p2⟩:=HJ.out.2.1.three;obtain⟨q0,q1,q2⟩:=HJ.out.2.2.1.three;obtain⟨f0,f1,f2,f3,f4⟩:=HJ.out.2.2.2.1.front;obtain⟨g0,g1,g2,g3,g4⟩:=HJ.out.2.2.2.2.1.front;have c0:=cF hB.out k0;have c1:=cF hB.out k1;clear k0 k1 u1 u2 v1 v2 v3 v4 l1 l2;cases hu:(Aw !=Wp);case true=>
  obtain rfl:J=(x1&&x2):=by rw[R.out,hu];rfl
  have hv:(!Aw==Wp)=true:=by rw[←hu];cases Aw<;>cases Wp<;>rfl
  clear R hx3 hx4 hx5;cases x1;all_goals
   go_wp2;go_quiet (fail)
   go_wp2;go_ret;exact⟨by first |rfl|(simp;done),below_drewN hB.out _⟩
 case false=>
  obtain rfl:J=(x5&&x3&&x4):=by rw[R.out,hu];rfl
  have hv:(!Aw==Wp)=false:=by rw[←hu];cases Aw<;>cases Wp<;>rfl
  have hdd:(D1==D2)=x5:=by rw[←hx5];exact HDD.out (by simpa using hu)
  clear R hx5 hx1 hx2;go_wp2;refine wp_region_held_drew (S:=fun w'=>(w'.cell? ⟨g',0,none⟩=some (aN Aw)∧w'.cell? ⟨g',1,none⟩=some (aD aE CM)∧w'.cell? ⟨g',2,none⟩=some (aD aE pA)∧w'.cell? ⟨g',3,none⟩=some (aA FSP)∧w'.cell? ⟨g',4,none⟩=some (aA FST))∧(w'.cell? ⟨h',0,none⟩=some (aN Wp)∧w'.cell? ⟨h',1,none⟩=some (aD aE gco)∧w'.cell? ⟨h',2,none⟩=some (aD aE LM)∧w'.cell? ⟨h',3,none⟩=some (aA GSP)∧w'.cell? ⟨h',4,none⟩=some (aA GST))∧(w'.cell? ⟨w.heap.size,0,none⟩=some (aB (some ⟨b1,o1,none⟩) n ca)∧w'.cell? ⟨w.heap.size,1,none⟩=some (aB (some ⟨b2,o2,none⟩) n cb))∧(w'.cell? ⟨w.heap.size+1,0,none⟩=some (aD aE s)∧w'.cell? ⟨w.heap.size+1,1,none⟩=some (aA PF)∧w'.cell? ⟨w.heap.size+1,2,none⟩=some (aA PT))∧(w'.cell? ⟨w.heap.size+1+1,0,none⟩=some (aD aE t)∧w'.cell? ⟨w.heap.size+1+1,1,none⟩=some (aA QF)∧w'.cell? ⟨w.heap.size+1+1,2,none⟩=some (aA QT))∧w'.cell? ⟨b2,o2+s,none⟩=some (aA As)∧w'.cell? ⟨b2,o2+t,none⟩=some (aA At)) (by kernel_rfl) ?_ (fun rR=>?_)
  ·(try dsimp only);go_keep
  refine tH 0 rfl ?_;refine tH 2 rfl ?_;try simp only[dK,bD,aY,aZ,aM,aV,bC]
  refine pU (rs:=[1]) (by kernel_rfl) (by simp) ?_;refine iX rfl (fun K hK=>?_) jR;go_simp;with_reducible refine(MW.out _).mono ?_
  rintro e w1⟨rfl,hb1⟩;have hBd1:=zq (aU hB.out.drew hb1);have:=ck hb1 g' 0 (aN Aw);have:=ck hb1 g' 1 (aD aE CM);have:=ck hb1 g' 2 (aD aE pA);have:=ck hb1 g' 3 (aA FSP);have:=ck hb1 g' 4 (aA FST);have:=ck hb1 h' 0 (aN Wp);have:=ck hb1 h' 1 (aD aE gco);have:=ck hb1 h' 2 (aD aE LM);have:=ck hb1 h' 3 (aA GSP);have:=ck hb1 h' 4 (aA GST);have:=ck hb1 w.heap.size 0 (aB (some ⟨b1,o1,none⟩) n ca);have:=ck hb1 w.heap.size 1 (aB (some ⟨b2,o2,none⟩) n cb);have:=ck hb1 (w.heap.size+1) 0 (aD aE s);have:=ck hb1 (w.heap.size+1) 1 (aA PF);have:=ck hb1 (w.heap.size+1) 2 (aA PT);have:=ck hb1 (w.heap.size+1+1) 0 (aD aE t);have:=ck hb1 (w.heap.size+1+1) 1 (aA QF);have:=ck hb1 (w.heap.size+1+1) 2 (aA QT);have ka:=cF hb1 (p:=⟨b2,o2+s,none⟩) (v:=aA As) (by simp[*]);have kb:=cF hb1 (p:=⟨b2,o2+t,none⟩) (v:=aA At) (by simp[*]);show K _ _;refine hK.out _ _ ?_ (fun rR=>?_)
  ·(try dsimp only);go_keep
  clear hK K;try simp only[dK,bD,aY,aZ,aM,aV,bC]
  refine pU (rs:=[3]) (by kernel_rfl) (by simp) ?_;refine iX rfl (fun K hK=>?_) jR;go_simp;with_reducible refine(IK.out _).mono ?_
  rintro e w2⟨rfl,hb2⟩;have hBd2:=zq (aU hBd1.out hb2);have:=ck hb2 g' 0 (aN Aw);have:=ck hb2 g' 1 (aD aE CM);have:=ck hb2 g' 2 (aD aE pA);have:=ck hb2 g' 3 (aA FSP);have:=ck hb2 g' 4 (aA FST);have:=ck hb2 h' 0 (aN Wp);have:=ck hb2 h' 1 (aD aE gco);have:=ck hb2 h' 2 (aD aE LM);have:=ck hb2 h' 3 (aA GSP);have:=ck hb2 h' 4 (aA GST);have:=ck hb2 w.heap.size 0 (aB (some ⟨b1,o1,none⟩) n ca);have:=ck hb2 w.heap.size 1 (aB (some ⟨b2,o2,none⟩) n cb);have:=ck hb2 (w.heap.size+1) 0 (aD aE s);have:=ck hb2 (w.heap.size+1) 1 (aA PF);have:=ck hb2 (w.heap.size+1) 2 (aA PT);have:=ck hb2 (w.heap.size+1+1) 0 (aD aE t);have:=ck hb2 (w.heap.size+1+1) 1 (aA QF);have:=ck hb2 (w.heap.size+1+1) 2 (aA QT);have ka:=cF hb2 (p:=⟨b2,o2+s,none⟩) (v:=aA As) (by simp[*]);have kb:=cF hb2 (p:=⟨b2,o2+t,none⟩) (v:=aA At) (by simp[*]);show K _ _;refine hK.out _ _ ?_ (fun rR=>?_)
  ·(try dsimp only);go_keep
  clear hK K;refine tH 4 rfl ?_;refine tH 5 rfl ?_;cases x5;case false=>
   refine sH 6 rfl ?_;refine sH 7 rfl ?_;refine sH 8 rfl ?_;refine sH 9 rfl ?_;refine sH 10 rfl ?_;refine tH 11 rfl ?_;refine tH 12 rfl ?_;refine sH 13 rfl ?_;refine sH 14 rfl ?_;refine sH 15 rfl ?_;refine sH 16 rfl ?_;refine sH 17 rfl ?_;refine sH 18 rfl ?_;refine sH 19 rfl ?_;refine sH 20 rfl ?_;refine sH 21 rfl ?_;refine sH 22 rfl ?_;refine sH 23 rfl ?_;refine sH 24 rfl ?_;refine sH 25 rfl ?_;refine tH 26 rfl ?_;refine tH 27 rfl ?_;try simp only[dK,bD,aY,aZ,aM,aV,bC]
   refine BQ (by kernel_rfl) ?_ _;go_wp2;go_ret;exact⟨by first |rfl|(simp;done),hBd2.out⟩
  case true=>
   refine tH 6 rfl ?_;refine tH 7 rfl ?_;refine tH 8 rfl ?_;refine tH 9 rfl ?_;refine tH 10 rfl ?_;refine tH 11 rfl ?_;refine tH 12 rfl ?_;cases x3;case false=>
    refine sH 13 rfl ?_;refine sH 14 rfl ?_;refine sH 15 rfl ?_;refine sH 16 rfl ?_;refine sH 17 rfl ?_;refine sH 18 rfl ?_;refine sH 19 rfl ?_;refine sH 20 rfl ?_;refine sH 21 rfl ?_;refine sH 22 rfl ?_;refine sH 23 rfl ?_;refine sH 24 rfl ?_;refine sH 25 rfl ?_;refine tH 26 rfl ?_;refine tH 27 rfl ?_;try simp only[dK,bD,aY,aZ,aM,aV,bC]
    refine BQ (by kernel_rfl) ?_ _;go_wp2;go_ret;exact⟨by first |rfl|(simp;done),hBd2.out⟩
   case true=>
    refine tH 13 rfl ?_;refine tH 14 rfl ?_;refine tH 15 rfl ?_;refine tH 16 rfl ?_;refine tH 17 rfl ?_;refine tH 18 rfl ?_;refine tH 19 rfl ?_;refine tH 20 rfl ?_;refine tH 21 rfl ?_;refine tH 22 rfl ?_;refine tH 23 rfl ?_;refine tH 24 rfl ?_;refine tH 25 rfl ?_;refine tH 26 rfl ?_;refine tH 27 rfl ?_;try simp only[dK,bD,aY,aZ,aM,aV,bC]
    refine BQ (by kernel_rfl) ?_ _;go_wp2;go_ret;exact⟨by first |rfl|(simp;done),hBd2.out⟩
def DP(fs:List Fr)(p:Pt):Int:=(iE p.en p.fr).1*JY (fs.getD p.side.toNat default)
def El(fs:List Fr)(right:Bool)(p:Pt):Bool:=
 decide (0≤p.side)&&decide (p.side<fs.length)&&decide (gT p.fr=0)&&decide (gT p.en=0)&&(!decide (DP fs p<0)&& !(right &&decide (DP fs p=0)))
def LN (fs:List Fr) (right:Bool) (ps:List Pt):Nat→Bool:=fun i=> !El fs right (ps.getD i default)
def LO(fs:List Fr)(at':List (List UInt8))(ps:List Pt):Nat→Bool:=fun i=> !GC fs at' (ps.getD i default) (ps.getD ((i+1)%ps.length) default)
def jF(fs:List Fr)(at':List (List UInt8))(ps:List Pt)(right:Bool):Bool:=
 decide (4≤ps.length)&& !anyN (LN fs right ps) ps.length&& !anyN (LO fs at' ps) ps.length
theorem Th{fs:List Fr}{at':List (List UInt8)}{ps:List Pt}{right:Bool}(h:ps.length<4):jF fs at' ps right =false:=by
 unfold jF;rw[decide_eq_false (by omega)];rfl
theorem Wq {fs:List Fr} {at' :List (List UInt8)} {ps:List Pt} {right:Bool} {i:Nat} (hi:i < ps.length) (h:El fs right (ps.getD i default)=false):jF fs at' ps right=false:=by
 unfold jF;rw [show anyN (LN fs right ps) ps.length=true from eJ.2 ⟨i,hi,by unfold LN;rw [h];rfl⟩];simp
theorem Wr{fs:List Fr}{at':List (List UInt8)}{ps:List Pt}{right:Bool}{i:Nat}(hi:i<ps.length)(h:GC fs at' (ps.getD i default) (ps.getD ((i+1)%ps.length) default)=false):jF fs at' ps right =false:=by
 unfold jF;rw[show anyN (LO fs at' ps) ps.length=true from eJ.2 ⟨i,hi,by unfold LO;rw[h];rfl⟩];simp
theorem su{fs:List Fr}{at':List (List UInt8)}{ps:List Pt}{right:Bool}(h4:¬ps.length<4)(h1:anyN (LN fs right ps) ps.length=false)(h2:anyN (LO fs at' ps) ps.length=false):jF fs at' ps right =true:=by
 unfold jF;rw[decide_eq_true (by omega),h1,h2];rfl
theorem Oq {fs:List Fr} {right:Bool} {ps:List Pt} {n i:Nat} (h:anyN (LN fs right ps) n=false) (hi:i < n):El fs right (ps.getD i default)=true:=by
 have:=dC.1 h i hi;unfold LN at this;simpa using this
theorem LQ{fs:List Fr}{right:Bool}{p:Pt}(h:El fs right p=true):∃s:Nat,p.side=s∧s<fs.length:=by
 unfold El at h;simp only[bK,decide_eq_true_eq]at h;exact⟨p.side.toNat,by omega,by omega⟩
theorem sv(s t:List UInt8): -1≤(iE s t).1∧(iE s t).1≤1:=by
 unfold iE;split
 ·split
  ·rcases LI (dD s) (dD t)with⟨_,h⟩|⟨_,h⟩|⟨_,h⟩<;>simp[h]
  ·simp
 ·simp
theorem fwd_one{f:Fr}(h:f.dir=1∨f.dir= -1):JY f=1∨JY f= -1:=by
 unfold JY;cases f.up<;>rcases h with e|e<;>simp[e]
theorem Yw{fs:List Fr}(hdir:∀f∈fs,f.dir=1∨f.dir= -1){p:Pt}{s:Nat}(hs:p.side=s)(J2:s<fs.length): -1≤DP fs p∧DP fs p≤1:=by
 unfold DP;have h1:=sv p.en p.fr;have h2:=fwd_one (hdir _ (eB (i:=p.side.toNat) (by omega) default));generalize(iE p.en p.fr).1=c at *;rcases h2 with e|e<;>rw[e]<;>omega
theorem Ti{k n:Nat}(h:k<n):(k+1<n∧(k+1)%n=k+1)∨(k+1=n∧(k+1)%n=0):=by
 by_cases e:k+1<n
 ·exact .inl ⟨e,Nat.mod_eq_of_lt e⟩
 ·have:k+1=n:=by omega
  exact .inr ⟨this,by rw[this];exact Nat.mod_self n⟩
theorem Ot(k n:Nat):((k:Int)+1).tmod (n:Int)=(((k+1)%n:Nat):Int):=by
 rw[Int.tmod_eq_emod_of_nonneg (by omega)];push_cast;rfl
theorem sw (a b c:Option cT) (nf n ca cb cc:Nat) (fs:List Fr) (at' :List (List UInt8)) (ps:List Pt) (right:Bool) (w:aF) (hE:iM w)
 (hf:fs.length=nf) (hl:at'.length=nf) (hp:ps.length=n) (hn:n≤1000000) (hdir:∀ f∈fs,f.dir=1∨f.dir= -1) (wG:∀ p∈ps,p.fr.length≤8000000∧p.en.length≤8000000)
 (rf:zR w a fs) (ra:Ek w b at') (rp:CL w c ps) :
 aW aC 95 #[cN #[aB a nf ca,aB b nf cb],aB c n cc,aN right] w (Rt (aN (jF fs at' ps right)) w):=by
 have HS:bH (∀ s:List UInt8,s.length≤8000000→∀ W,Below w.heap.size w W→aW aC 69 #[aA (bs s)] W (Rt (aD aE (gT s)) W)):=fun s hs W h=> by
  have:=GA (bs s) W (hE.below h) (by rw [cZ];exact hs);rwa [bP] at this
 have HO:bH (∀ s t:List UInt8,s.length≤8000000→t.length≤8000000→∀ W,Below w.heap.size w W→aW aC 61 #[aA (bs s),aA (bs t)] W (Rt (aD aE (iE s t).1) W)):=fun s t hs ht W h=> by
  have:=mN (bs s) (bs t) W (hE.below h) (by rw [cZ];exact hs) (by rw [cZ];exact ht);rwa [bP,bP] at this
 have HF:bH (∀ i,i < nf→∀ W,aW aC 52 #[(fs.getD i default).v] W (Rt (aD aE (oY (fs.getD i default))) W)):=fun i hi W=> pN _ W;have HT:bH (∀ i,i < nf→∀ W,aW aC 67 #[aD aE (oY (fs.getD i default))] W (Rt (aD aE (JY (fs.getD i default))) W)):=fun i hi W=> by
  have:=Om (oY (fs.getD i default)) W;rw [Yt (hdir _ (eB (by rw [hf];exact hi) default))] at this;refine this.mono ?_;rintro e w' ⟨h1,rfl⟩;exact⟨h1,aH _ _⟩
 have HJ:bH (∀ p q:Pt,(∃ s:Nat,p.side=s∧s < nf)→(∃ s:Nat,q.side=s∧s < nf)→∀ W,Below w.heap.size w W→aW aC 171 #[cN #[aB a nf ca,aB b nf cb],p.v,q.v] W (Rt (aN (GC fs at' p q)) W)):=by
  rintro p q ⟨s,hs,J2⟩ ⟨t,ht,Rv⟩ W h;exact az a b nf ca cb fs at' p q s t W hdir hs ht J2 Rv hf hl (rf.below h) (ra.below h)
 have HA:bH (∀ p:Pt,∀ s:Nat,p.side=s→s < nf→ -1≤DP fs p∧DP fs p≤1):=fun p s hs J2=> Yw hdir hs (by rw [hf];exact J2);have Hf:=zq hf;have Hp:=zq hp;have Rf:=zq rf;have Rp:=zq rp;have Hps:bH (∀ i,i < n→(ps.getD i default).fr.length≤8000000∧(ps.getD i default).en.length≤8000000):=fun i hi=> wG _ (eB (by rw [hp];exact hi) default);have R1:bH (n < 4→jF fs at' ps right=false):=fun h=> Th (by rw [hp];exact h);have R2:bH (∀ i,i < n→El fs right (ps.getD i default)=false→jF fs at' ps right=false):=fun i hi h=> Wq (by rw [hp];exact hi) h;have R3:bH (∀ i,i < n→GC fs at' (ps.getD i default) (ps.getD ((i + 1) % n) default)=false→jF fs at' ps right=false):=fun i hi h=> Wr (by rw [hp];exact hi) (by rw [hp];exact h);have R4:bH (¬ n < 4→anyN (LN fs right ps) n=false→anyN (LO fs at' ps) n=false→jF fs at' ps right=true):=fun h1 h2 h3=> su (by rw [hp];exact h1) (by rw [hp];exact h2) (by rw [hp];exact h3);have R5:bH (∀ i,anyN (LN fs right ps) n=false→i < n→∃ s:Nat,(ps.getD i default).side=s∧s < nf):=fun i h hi=> by
  have:=LQ (Oq h hi);rwa [hf] at this
 have R6:bH (∀ i,LO fs at' ps i= !GC fs at' (ps.getD i default) (ps.getD ((i + 1) % n) default)):=fun i=> by unfold LO;rw [hp]
 have T0:=zq (bT.new w #[aB a nf ca,aB b nf cb] 70);have BT:=zq ((aH w.heap.size w).alloc (aG _) (aJ #[aB a nf ca,aB b nf cb] 70));clear hE hf hl hp hdir wG rf ra rp;by_cases h4:n < 4
 ·have R:=zq (R1.out h4);go_enter func95,ntmps95;go_wp2;go_ret;exact⟨by rw [R.out] <;> rfl,BT.out⟩
 ·go_enter func95,ntmps95;go_wp2;go_loopw [17] (fun i wr=> ∃ k:Nat,i=aD aE k∧k≤n∧bH (Below w.heap.size w wr)∧bH (bT wr w.heap.size #[aB a nf ca,aB b nf cb] 70)∧bH (anyN (LN fs right ps) k=false)) (fun i _=> n - (aK i).toNat);case atStart=> exact⟨0,rfl,bN _,BT.out,T0.out,rfl⟩
  case round=>
   clear BT T0;obtain⟨k,rfl,hk,HB,Ou,hz⟩:=hrel;by_cases hlt:k < n
   ·obtain⟨pb,po,rfl,c0,c1,c2⟩:=(Rp.out.below HB.out).at (i:=k) (by rw [Hp.out];exact hlt) rfl;have Rk:=zq (R2.out k hlt);have kK:=Hps.out k hlt;have HBb:=zq (fun (x:Pt)=> HB.out.alloc HB.out.size (aJ #[aD aE x.side,aA (bs x.fr),aA (bs x.en)] 47));have Hbad:bH (El fs right (ps.getD k default)=true→anyN (LN fs right ps) (k + 1)=false):=fun h=> gO hz.out (by unfold LN;rw [h];rfl);have Tf:bH (El fs right (ps.getD k default)=(decide (0≤(ps.getD k default).side) && decide ((ps.getD k default).side < nf) && decide (gT (ps.getD k default).fr=0) && decide (gT (ps.getD k default).en=0) && (!decide (DP fs (ps.getD k default) < 0) && !(right && decide (DP fs (ps.getD k default)=0))))):=by
     show _=_;unfold El;rw [Hf.out]
    generalize ps.getD k default=p at *;have bc:=zq (HBb.out p);have qb:=bT.new wr #[aD aE p.side,aA (bs p.fr),aA (bs p.en)] 47;have Qb:=zq qb;clear HBb qb hz;have Hc:=zq (HO.out p.en p.fr kK.2 kK.1);have HSf:=zq (HS.out p.fr kK.1);have HSe:=zq (HS.out p.en kK.2);have HAp:=zq (HA.out p);have HAd:bH (DP fs p=(iE p.en p.fr).1 * JY (fs.getD p.side.toNat default)):=rfl;generalize El fs right p=PB at *;generalize DP fs p=AD at *;generalize (iE p.en p.fr).1=CC at *;clear kK;generalize gT p.fr=N1 at *;generalize gT p.en=N2 at *;obtain⟨side,fr,en⟩:=p;simp only [] at *;generalize bs fr=FR at *;generalize bs en=EN at *;obtain⟨t0,t1, -, -,tl⟩:=Ou.out.two;by_cases g1:side < 0
    ·have R:bH (jF fs at' ps right=false):=Rk.out (by rw [Tf.out,decide_eq_false (by omega)];rfl);go_wp2;go_ret;exact⟨by rw [R.out] <;> rfl,bc.out⟩
    ·by_cases g2:(nf:Int)≤side
     ·have R:bH (jF fs at' ps right=false):=Rk.out (by rw [Tf.out,decide_eq_false (p:=side < (nf:Int)) (by omega),Bool.and_false];rfl);go_wp2;go_ret;exact⟨by rw [R.out] <;> rfl,bc.out⟩
     ·obtain⟨s,rfl⟩:∃ s:Nat,side=s:=⟨side.toNat,by omega⟩;have J2:s < nf:=by omega
      have Tf:bH (PB=(decide (N1=0) && decide (N2=0) && (!decide (AD < 0) && !(right && decide (AD=0))))):=by
       show _=_;rw [Tf.out,decide_eq_true (by omega),decide_eq_true (p:=(s:Int) < (nf:Int)) (by omega)];simp [Bool.and_assoc]
      clear g1 g2;by_cases n1:N1=0;case neg=>
       have R:bH (jF fs at' ps right=false):=Rk.out (by rw [Tf.out,decide_eq_false n1];rfl);have n1' :(N1 !=0)=true:=by rw [bne_iff_ne];exact n1
       clear n1;go_wp2_with fail
       with_reducible refine(HSf.out _ bc.out).mono ?_
       rintro e W1 ⟨rfl,hb1⟩;go_wp2;go_ret;exact⟨by rw [R.out] <;> rfl,aU bc.out hb1⟩
      case pos=>
       subst n1;go_wp2_with fail
       with_reducible refine(HSf.out _ bc.out).mono ?_
       rintro e W1 ⟨rfl,hb1⟩;have eW:=zq (aU bc.out hb1);have Q1:=zq (Qb.out.below hb1 Qb.out.lt);have Tj:=zq ((Ou.out.alloc (aJ #[aD aE s,aA FR,aA EN] 47)).below hb1 (Ou.out.alloc _).lt);obtain⟨e0,e1,e2⟩:=Q1.out.three;obtain⟨t0,t1, -, -,tl⟩:=Tj.out.two;have el:=Q1.out.lt;clear hb1 HSf;by_cases n2:N2=0;case neg=>
        have R:bH (jF fs at' ps right=false):=Rk.out (by rw [Tf.out,decide_eq_false n2];rfl);have n2' :(N2 !=0)=true:=by rw [bne_iff_ne];exact n2
        clear n2;go_wp2_with fail
        with_reducible refine(HSe.out _ eW.out).mono ?_
        rintro e W2 ⟨rfl,hb2⟩;go_wp2;go_ret;exact⟨by rw [R.out] <;> rfl,aU eW.out hb2⟩
       case pos=>
        subst n2;have Tf:bH (PB=(!decide (AD < 0) && !(right && decide (AD=0)))):=Tf;go_wp2_with fail
        with_reducible refine(HSe.out _ eW.out).mono ?_
        rintro e W2 ⟨rfl,hb2⟩;have fR:=zq (aU eW.out hb2);have Q2:=zq (Q1.out.below hb2 Q1.out.lt);have HTr2:=zq (Tj.out.below hb2 Tj.out.lt);have hAb:=HAp.out s rfl J2;rw [show((s:Int)).toNat=s from rfl] at HAd;have HFs:=zq (HF.out s J2);have HTs:=zq (HT.out s J2);obtain⟨fb,fo,rfl,f0,f1,f2,f3,f4⟩:=(Rf.out.below fR.out).at (i:=s) (by rw [Hf.out];exact J2) rfl;unfold Fr.v Fr.cells at HFs;generalize fs.getD s default=f at *;generalize JY f=FW at *;generalize oY f=DF at *;obtain⟨Aw,CM,pA,LK,Rx⟩:=f;simp only [] at *;generalize bs LK=FSP at *;generalize bs Rx=FST at *;obtain⟨e0,e1,e2⟩:=Q2.out.three;obtain⟨t0,t1, -, -,tl⟩:=HTr2.out.two;have el:=Q2.out.lt;have hw:IntKind.i64.wrap (CC * FW)=AD:=by rw [← HAd.out];exact aX _ (by omega)
        clear hb2 HSe HAp HAd eW Q1 Q2 Qb bc Ou Tj;go_wp2;go_cut [9] (fun v W=> v=aD aE AD∧bH (Below W2.heap.size W2 W));case first=>
         go_region_held3 (fun w' => (w'.cell? ⟨wr.heap.size,0,none⟩=some (aD aE s)∧w'.cell? ⟨wr.heap.size,1,none⟩=some (aA FR)∧w'.cell? ⟨wr.heap.size,2,none⟩=some (aA EN))∧(w'.cell? ⟨w.heap.size,0,none⟩=some (aB (some ⟨fb,fo,none⟩) nf ca)∧w'.cell? ⟨w.heap.size,1,none⟩=some (aB b nf cb))∧w'.cell? ⟨fb,fo + s * 5,none⟩=some (aN Aw)∧w'.cell? ⟨fb,fo + s * 5 + 1,none⟩=some (aD aE CM)∧w'.cell? ⟨fb,fo + s * 5 + 2,none⟩=some (aD aE pA)∧w'.cell? ⟨fb,fo + s * 5 + 3,none⟩=some (aA FSP)∧w'.cell? ⟨fb,fo + s * 5 + 4,none⟩=some (aA FST)) (go_keep)
          (first
           | (go_at_call 61;with_reducible refine(Hc.out _ (by first | exact fR.out.drew | exact aU fR.out hBt.out | exact aU fR.out hBf.out)).mono ?_;rintro e w1 ⟨rfl,hb1⟩;have hBo:=zq (aU (by first | exact hBt.out | exact hBf.out | exact(aH _ W2).drew) hb1);have:=ck hb1 wr.heap.size 0 (aD aE s);have:=ck hb1 wr.heap.size 1 (aA FR);have:=ck hb1 wr.heap.size 2 (aA EN);have:=ck hb1 w.heap.size 0 (aB (some ⟨fb,fo,none⟩) nf ca);have:=ck hb1 w.heap.size 1 (aB b nf cb);have m0:=cF hb1 (p:=⟨fb,fo + s * 5,none⟩) (v:=aN Aw) (by simp [*]);have m1:=cF hb1 (p:=⟨fb,fo + s * 5 + 1,none⟩) (v:=aD aE CM) (by simp [*]);have m2:=cF hb1 (p:=⟨fb,fo + s * 5 + 2,none⟩) (v:=aD aE pA) (by simp [*]);have m3:=cF hb1 (p:=⟨fb,fo + s * 5 + 3,none⟩) (v:=aA FSP) (by simp [*]);have m4:=cF hb1 (p:=⟨fb,fo + s * 5 + 4,none⟩) (v:=aA FST) (by simp [*]))
           | (go_at_call 52;with_reducible refine(HFs.out _).mono ?_;rintro e w1 ⟨rfl,hb1⟩;have hBf:=zq (aU (by first | exact hBo.out | exact(aH _ W2).drew) hb1);have:=ck hb1 wr.heap.size 0 (aD aE s);have:=ck hb1 wr.heap.size 1 (aA FR);have:=ck hb1 wr.heap.size 2 (aA EN);have:=ck hb1 w.heap.size 0 (aB (some ⟨fb,fo,none⟩) nf ca);have:=ck hb1 w.heap.size 1 (aB b nf cb);have m0:=cF hb1 (p:=⟨fb,fo + s * 5,none⟩) (v:=aN Aw) (by simp [*]);have m1:=cF hb1 (p:=⟨fb,fo + s * 5 + 1,none⟩) (v:=aD aE CM) (by simp [*]);have m2:=cF hb1 (p:=⟨fb,fo + s * 5 + 2,none⟩) (v:=aD aE pA) (by simp [*]);have m3:=cF hb1 (p:=⟨fb,fo + s * 5 + 3,none⟩) (v:=aA FSP) (by simp [*]);have m4:=cF hb1 (p:=⟨fb,fo + s * 5 + 4,none⟩) (v:=aA FST) (by simp [*]))
           | (go_at_call 67;with_reducible refine(HTs.out _).mono ?_;rintro e w1 ⟨rfl,hb1⟩;have hBt:=zq (aU (by first | exact hBo.out | exact hBf.out) hb1);have:=ck hb1 wr.heap.size 0 (aD aE s);have:=ck hb1 wr.heap.size 1 (aA FR);have:=ck hb1 wr.heap.size 2 (aA EN);have:=ck hb1 w.heap.size 0 (aB (some ⟨fb,fo,none⟩) nf ca);have:=ck hb1 w.heap.size 1 (aB b nf cb);have m0:=cF hb1 (p:=⟨fb,fo + s * 5,none⟩) (v:=aN Aw) (by simp [*]);have m1:=cF hb1 (p:=⟨fb,fo + s * 5 + 1,none⟩) (v:=aD aE CM) (by simp [*]);have m2:=cF hb1 (p:=⟨fb,fo + s * 5 + 2,none⟩) (v:=aD aE pA) (by simp [*]);have m3:=cF hb1 (p:=⟨fb,fo + s * 5 + 3,none⟩) (v:=aA FSP) (by simp [*]);have m4:=cF hb1 (p:=⟨fb,fo + s * 5 + 4,none⟩) (v:=aA FST) (by simp [*])))
         all_goals
          go_wp2;go_meet;case rel=> exact⟨by first | rfl | rw [hw],by first | exact hBt.out | exact hBo.out⟩
        case rest=>
        obtain⟨rfl,HB3⟩:=hcut;have Bv:=zq (aU fR.out HB3.out);have HTx:=zq (HTr2.out.below HB3.out HTr2.out.lt);clear hw fR HB3 HFs HTs Hc f0 f1 f2 f3 f4 e0 e1 e2 el t0 t1 tl HTr2;by_cases d1:AD < 0
        ·have R:bH (jF fs at' ps right=false):=Rk.out (by rw [Tf.out,decide_eq_true d1];rfl);go_wp2;go_ret;exact⟨by rw [R.out] <;> rfl,Bv.out⟩
        ·have Tf:bH (PB= !(right && decide (AD=0))):=by
          show _=_;rw [Tf.out,decide_eq_false d1];rfl
         by_cases d2:AD=0
         ·subst d2;cases right with
          | true=>
           have R:bH (jF fs at' ps true=false):=Rk.out (by rw [Tf.out];rfl);go_wp2;go_ret;exact⟨by rw [R.out] <;> rfl,Bv.out⟩
          | false=>
           have e:=zq (Hbad.out (by rw [Tf.out];rfl));go_wp2;go_roundw;case rel=> exact⟨k + 1,by go_num,by omega,Bv.out,HTx.out,e.out⟩
           case measure=> simp only [aK];omega
         ·have e:=zq (Hbad.out (by rw [Tf.out,decide_eq_false d2,Bool.and_false];rfl));have d3:(AD==0)=false:=by simpa using d2
          cases right;all_goals
           go_wp2;go_roundw;case rel=> exact⟨k + 1,by go_num,by omega,Bv.out,HTx.out,e.out⟩
           case measure=> simp only [aK];omega
   ·obtain rfl:n=k:=by omega
    clear HS HO HF HT HA R1 R2 hlt;go_wp2;go_loopw [70] (fun i wr=> ∃ j:Nat,i=aD aE j∧j≤n∧bH (Below w.heap.size w wr)∧bH (bT wr w.heap.size #[aB a nf ca,aB b nf cb] 70)∧bH (anyN (LO fs at' ps) j=false)) (fun i _=> n - (aK i).toNat);case atStart=> exact⟨0,rfl,bN _,HB.out,Ou.out,rfl⟩
    case round=>
     clear HB Ou;obtain⟨j,rfl,hj,HB,Ou,hy⟩:=hrel;by_cases hlt:j < n
     ·have hqn:(j + 1) % n < n:=Nat.mod_lt _ (by omega);have Z8:=Ot j n;have B8:=zq (R3.out j hlt);have HR6:=zq (R6.out j);have HRn:bH (LO fs at' ps j=false→anyN (LO fs at' ps) (j + 1)=false):=fun h=> gO hy.out h;have Ei:=R5.out j hz.out hlt;have FA:=R5.out _ hz.out hqn;generalize (j + 1) % n=q at *;obtain⟨pb,po,rfl,c0,c1,c2⟩:=(Rp.out.below HB.out).at (i:=j) (by rw [Hp.out];exact hlt) rfl;obtain⟨pb',po',e1,d0,d1,d2⟩:=(Rp.out.below HB.out).at (i:=q) (by rw [Hp.out];exact hqn) rfl;injection e1 with e1;injection e1 with e1 e2;subst e1 e2;have HJj:=zq (HJ.out _ _ Ei FA);clear Ei FA;generalize LO fs at' ps j=BJ at *;generalize ps.getD j default=p at *;generalize ps.getD q default=p2 at *;generalize GC fs at' p p2=JB at *;unfold Pt.v Pt.cells at HJj;obtain⟨s1,u1,v1⟩:=p;obtain⟨s2,u2,v2⟩:=p2;simp only [] at *;generalize bs u1=U1 at *;generalize bs v1=V1 at *;generalize bs u2=U2 at *;generalize bs v2=V2 at *;have oo:IntKind.i64.wrap ((j:Int) + 1)=(j:Int) + 1:=aX _ (by omega);have PQ:¬ n=0:=by omega
      have hqi:(q:Int) < (n:Int):=by omega
      have rG:(0:Int)≤(q:Int):=by omega
      have S:bH (JB=false→jF fs at' ps right=false):=B8.out;obtain⟨t0,t1, -, -,tl⟩:=Ou.out.two;have bc:=zq (HB.out.alloc HB.out.size (aJ #[aD aE s1,aA U1,aA V1] 47));go_wp2;go_cut [86] (fun v W=> v=aN (!JB)∧bH (Below wr.heap.size wr W));case first=>
       go_region_held3 (fun w' => (w'.cell? ⟨wr.heap.size,0,none⟩=some (aD aE s1)∧w'.cell? ⟨wr.heap.size,1,none⟩=some (aA U1)∧w'.cell? ⟨wr.heap.size,2,none⟩=some (aA V1))∧(w'.cell? ⟨w.heap.size,0,none⟩=some (aB a nf ca)∧w'.cell? ⟨w.heap.size,1,none⟩=some (aB b nf cb))∧w'.cell? ⟨pb,po + q * 3,none⟩=some (aD aE s2)∧w'.cell? ⟨pb,po + q * 3 + 1,none⟩=some (aA U2)∧w'.cell? ⟨pb,po + q * 3 + 2,none⟩=some (aA V2)) (go_keep)
        (first
         | (go_at_call 171;with_reducible refine(HJj.out _ bc.out.drew).mono ?_;rintro e w1 ⟨rfl,hb1⟩;have hBo:=zq (((aH wr.heap.size wr).alloc (aG _) _).drew.trans (hb1.mono (by simp)));have:=ck hb1 wr.heap.size 0 (aD aE s1);have:=ck hb1 wr.heap.size 1 (aA U1);have:=ck hb1 wr.heap.size 2 (aA V1);have:=ck hb1 w.heap.size 0 (aB a nf ca);have:=ck hb1 w.heap.size 1 (aB b nf cb);have m3:=cF hb1 (p:=⟨pb,po + q * 3,none⟩) (v:=aD aE s2) (by simp [*]);have m4:=cF hb1 (p:=⟨pb,po + q * 3 + 1,none⟩) (v:=aA U2) (by simp [*]);have m5:=cF hb1 (p:=⟨pb,po + q * 3 + 2,none⟩) (v:=aA V2) (by simp [*])))
       all_goals
        go_wp2;go_meet;case rel=> exact⟨rfl,hBo.out⟩
      case rest=>
      obtain⟨rfl,eW⟩:=hcut;have Bv:=zq (aU HB.out eW.out);have HTx:=zq (Ou.out.below eW.out Ou.out.lt);clear oo Z8 HB eW Ou t0 t1 tl bc;cases JB with
      | false=>
       have R:=zq (S.out rfl);go_wp2;go_ret;exact⟨by rw [R.out] <;> rfl,Bv.out⟩
      | true=>
       have e:=zq (HRn.out (by rw [HR6.out];rfl));go_wp2;go_roundw;case rel=> exact⟨j + 1,by go_num,by omega,Bv.out,HTx.out,e.out⟩
       case measure=> simp only [aK];omega
     ·obtain rfl:n=j:=by omega
      have R:=zq (R4.out h4 hz.out hy.out);go_wp2;go_ret;exact⟨by rw [R.out] <;> rfl,HB.out⟩
def Ws(ls:List Lp):Prop:=∀l∈ls,l.ps.length≤1000000∧∀p∈l.ps,p.fr.length≤8000000∧p.en.length≤8000000
def bd(fs:List Fr)(at':List (List UInt8))(ls:List Lp)(right:Bool):Nat→Bool:=fun i=> !jF fs at' (ls.getD i default).ps right
def tK(fs:List Fr)(at':List (List UInt8))(ls:List Lp)(right:Bool):Bool:= !anyN (bd fs at' ls right) ls.length
theorem Dv(fs:List Fr)(z:List UInt8):(oZ fs z).length=fs.length:=by unfold oZ;rw[cO]
theorem tr_all1(a b c:Option cT)(nf n ca cb cc b1 b2:Nat)(fs:List Fr)(at':List (List UInt8))(ps:List Pt)(right:Bool)(w:aF)(hE:iM w)
 (hf:fs.length=nf)(hl:at'.length=nf)(hp:ps.length=n)(hn:n≤1000000)(hdir:∀f∈fs,f.dir=1∨f.dir= -1)(wG:∀p∈ps,p.fr.length≤8000000∧p.en.length≤8000000)
 (rf:zR w a fs)(ra:Ek w b at')(rp:CL w c ps)(h0:w.cell? ⟨b1,0,none⟩=some (aB a nf ca))(h1:w.cell? ⟨b1,1,none⟩=some (aB b nf cb))(h2:w.cell? ⟨b2,0,none⟩=some (aN right)):
 aW aC 94 #[aB c n cc,bA (some ⟨b1,0,none⟩),bA (some ⟨b2,0,none⟩)] w (Rt (aN (!jF fs at' ps right)) w):=by
 have HW:=zq (sw a b c nf n ca cb cc fs at' ps right w hE hf hl hp hn hdir wG rf ra rp);clear hE hf hl hp hdir wG rf ra rp;generalize jF fs at' ps right =WB at *;go_enter func94,ntmps94;go_wp2_with fail
 refine HW.out.mono ?_;rintro e W1⟨rfl,hb1⟩;go_wp2;go_ret;exact⟨rfl,hb1⟩
theorem Wt (a b c:Option cT) (nf n ca cb cc:Nat) (fs:List Fr) (at' :List (List UInt8)) (ls:List Lp) (right:Bool) (w:aF) (hE:iM w)
 (hf:fs.length=nf) (hl:at'.length=nf) (hs:ls.length=n) (hn:n≤1000000) (hdir:∀ f∈fs,f.dir=1∨f.dir= -1) (Nx:Ws ls)
 (rf:zR w a fs) (ra:Ek w b at') (rl:E5 w c ls) :
 aW aC 38 #[cN #[aB a nf ca,aB b nf cb],aB c n cc,aN right] w (Rt (aN (tK fs at' ls right)) w):=by
 have q1:=(bT.new w #[aB a nf ca,aB b nf cb] 70).alloc (aJ #[aN right] 4);have q2:=bT.new (w.alloc (aJ #[aB a nf ca,aB b nf cb] 70)) #[aN right] 4;rw [bB] at q2;have hB:=((aH w.heap.size w).alloc (aG _) (aJ #[aB a nf ca,aB b nf cb] 70)).alloc (by simp) (aJ #[aN right] 4);obtain⟨W0,eQ⟩:∃ W,(w.alloc (aJ #[aB a nf ca,aB b nf cb] 70)).alloc (aJ #[aN right] 4)=W:=⟨_,rfl⟩;rw [eQ] at q1 q2 hB;have HH:=zq (Te 94 #[bA (some ⟨w.heap.size,0,none⟩),bA (some ⟨w.heap.size + 1,0,none⟩)] (nH func94 (by kernel_rfl) rfl) c n cc ls (bd fs at' ls right) W0 hs (by omega) (rl.below hB) (fun i hi W2 h2=> by
  have hm:=eB (i:=i) (by rw [hs];exact hi) (default:Lp);obtain⟨k1,k2⟩:=Nx _ hm;have gJ:=aU hB h2;obtain⟨pb,po, -, -,h3⟩:=(rl.below gJ).at (i:=i) (by rw [hs];exact hi) rfl;have t1:=q1.below h2 q1.lt;have t2:=q2.below h2 q2.lt;exact tr_all1 a b _ nf _ ca cb _ w.heap.size (w.heap.size + 1) fs at' _ right W2 (hE.below gJ) hf hl rfl k1 hdir k2 (rf.below gJ) (ra.below gJ) h3 (t1.cell 0) (t1.cell 1) (t2.cell 0)))
 have HA:bH (tK fs at' ls right= !anyN (bd fs at' ls right) n):=by show _=_;unfold tK;rw [hs]
 have HB:=zq hB;have qg:=zq eQ;clear hE hf hl hs hdir Nx rf ra rl q1 q2 hB eQ;generalize anyN (bd fs at' ls right) n=X at *;go_enter func38,ntmps38;go_wp2_with fail
 rw [qg.out];refine HH.out.mono ?_;rintro e W1 ⟨rfl,hb1⟩;go_wp2;go_ret;exact⟨by rw [HA.out] <;> rfl,aU HB.out hb1⟩
structure Po where
 x:List UInt8
 y:List UInt8
abbrev Po.cells(p:Po):Array aS:= #[aA (bs p.x),aA (bs p.y)]
abbrev Po.v(p:Po):aS:=cN p.cells
instance:Inhabited Po:=⟨⟨[],[]⟩⟩
def dV(fs:List Fr)(at':List (List UInt8))(p:Pt):Po:=
 if(fs.getD p.side.toNat default).up=true then⟨at'.getD p.side.toNat [],p.fr⟩else⟨p.fr,at'.getD p.side.toNat []⟩
theorem IT{P:Program}{fn:Func}{p:Tmp}{ty T:eC}(h:fn.results= #[.cell p ty])(tmps:Array aS)(w:aF)(g:Nat)(x y:aS)
 (hp:tmps.getD p aP=bA (some ⟨g,0,none⟩))(hb:bT w g #[x,y] T)(ha:∀w,(isAgg ty).run P w=.ok true w)(hs:∀w,(sizeOf ty).run P w=.ok 2 w):
 (results fn tmps).run P w=.ok (cN #[x,y]) w:=by
 have RY:tmps[p]?.getD aP=bA (some ⟨g,0,none⟩):=by simpa using hp
 have c0:=hb.cell 0;have c1:=hb.cell 1;simp only[aL,aI,bM]at c0 c1;simp[results,h,go_sem,RY,c0,c1,ha,hs]
theorem Ax(a b:Option cT)(n ca cb:Nat)(fs:List Fr)(at':List (List UInt8))(p:Pt)(s:Nat)(w:aF)
 (hs:p.side=s)(J2:s<n)(hf:fs.length=n)(hl:at'.length=n)(rf:zR w a fs)(ra:Ek w b at'):
 aW aC 70 #[cN #[aB a n ca,aB b n cb],p.v] w (Rt ((dV fs at' p).v) w):=by
 obtain⟨b1,o1,rfl,c0,c1,c2,c3,c4⟩:=rf.at (i:=s) (by omega) rfl;obtain⟨b2,o2,rfl,k0⟩:=ra s (by omega);obtain⟨ps,pf,pt⟩:=p;obtain rfl:ps=s:=hs;have R:bH (dV fs at' ⟨s,pf,pt⟩=if(fs.getD s default).up=true then⟨at'.getD s [],pf⟩else⟨pf,at'.getD s []⟩):=rfl;have l1:b1<w.heap.size:=bG w ⟨b1,o1+s*5,none⟩ c0;have l2:b2<w.heap.size:=bG w ⟨b2,o2+s,none⟩ k0;have u2:∀k,b2<w.heap.size+k:=fun k=>by omega
 have u1:∀k,b1<w.heap.size+k:=fun k=>by omega
 have v7:¬b2=w.heap.size+1+1:=by omega
 have v8:¬w.heap.size+1+1=b2:=by omega
 have v9:¬b2=w.heap.size+1:=by omega
 have u5:b2<w.heap.size+1:=by omega
 have u3:b1<w.heap.size+1+1:=by omega
 have u4:b2<w.heap.size+1+1:=by omega
 have v2:∀k,¬b2=w.heap.size+k:=fun k=>by omega
 have v5:∀k,¬w.heap.size+k=b2:=fun k=>by omega
 have v4:¬b2=w.heap.size:=by omega
 have v6:¬w.heap.size=b2:=by omega
 have Q1:bH (∀x y,bT ((((w.alloc (aJ #[aB (some ⟨b1,o1,none⟩) n ca,aB (some ⟨b2,o2,none⟩) n cb] 70)).alloc (aJ #[aD aE s,aA (bs pf),aA (bs pt)] 47)).alloc (aJ #[x,y] 66)).drew) (w.heap.size+1+1) #[x,y] 66):=fun x y=>by
  have:=bT.new ((w.alloc (aJ #[aB (some ⟨b1,o1,none⟩) n ca,aB (some ⟨b2,o2,none⟩) n cb] 70)).alloc (aJ #[aD aE s,aA (bs pf),aA (bs pt)] 47)) #[x,y] 66;rwa[bB,bB]at this
 have HB:bH (∀x y,Below w.heap.size w ((((w.alloc (aJ #[aB (some ⟨b1,o1,none⟩) n ca,aB (some ⟨b2,o2,none⟩) n cb] 70)).alloc (aJ #[aD aE s,aA (bs pf),aA (bs pt)] 47)).alloc (aJ #[x,y] 66)).drew)):=fun x y=>
  ((((aH w.heap.size w).alloc (aG _) _).alloc (by simp) _).alloc (by simp;omega) _).drew
 have KZ:bH (∀x y,(((w.alloc (aJ #[aB (some ⟨b1,o1,none⟩) n ca,aB (some ⟨b2,o2,none⟩) n cb] 70)).alloc (aJ #[aD aE s,aA (bs pf),aA (bs pt)] 47)).alloc (aJ #[x,y] 66)).drew.cell? ⟨b2,o2+s,none⟩=some (aA (bs (at'.getD s [])))):=fun x y=>((HB.out x y).cell (p:=⟨b2,o2+s,none⟩) l2).trans k0;clear rf ra hf hl;generalize fs.getD s default=f at *;generalize at'.getD s []=A at *;obtain⟨Aw,CM,pA,LK,Rx⟩:=f;simp only[]at *;unfold Pt.v Pt.cells;simp only[];cases Aw;case' false=>have R2:bH ((dV fs at' ⟨s,pf,pt⟩).v=cN #[aA (bs pf),aA (bs A)]):=by show Po.v _=_;rw[R.out];rfl
 case' true=>have R2:bH ((dV fs at' ⟨s,pf,pt⟩).v=cN #[aA (bs A),aA (bs pf)]):=by show Po.v _=_;rw[R.out];rfl
 all_goals
  clear R;generalize dV fs at' ⟨s,pf,pt⟩=RC at *;generalize bs A=As at *;generalize bs pf=PF at *;generalize bs pt=PT at *;go_enter func70,ntmps70;go_wp2;have kk:=KZ.out (aA {data:= #[]}) (aA {data:= #[]});go_region_held3 (fun w'=>(w'.cell? ⟨w.heap.size+1,0,none⟩=some (aD aE s)∧w'.cell? ⟨w.heap.size+1,1,none⟩=some (aA PF)∧w'.cell? ⟨w.heap.size+1,2,none⟩=some (aA PT))∧(w'.cell? ⟨w.heap.size,0,none⟩=some (aB (some ⟨b1,o1,none⟩) n ca)∧w'.cell? ⟨w.heap.size,1,none⟩=some (aB (some ⟨b2,o2,none⟩) n cb))∧w'.cell? ⟨b2,o2+s,none⟩=some (aA As)) ((try refine⟨⟨?_,?_,?_⟩,⟨?_,?_⟩,?_⟩)<;>(first |exact kk|exact KZ.out _ _|go_keep)) (fail)
  go_wp2;refine cI (IT (T:=66) Tryz.results70 _ _ (w.heap.size+1+1) _ _ rfl (Q1.out _ _) isAgg66 sizeOf66) rfl ⟨by rw[R2.out]<;>rfl,HB.out _ _⟩
def pB(qs:List Po):List aS:=qs.flatMap fun q=>[aA (bs q.x),aA (bs q.y)]
theorem Tk(qs:List Po)(q:Po):pB (qs++[q])=pB qs++[aA (bs q.x),aA (bs q.y)]:=by simp[pB]
theorem Wu(qs:List Po):(pB qs).length=2*qs.length:=by
 induction qs with
 |nil=>rfl
 |cons q qs ih=>simp[pB]at *;omega
theorem Ov:∀(qs:List Po)(i:Nat),i<qs.length→(pB qs)[i*2]? =some (aA (bs (qs.getD i default).x))∧(pB qs)[i*2+1]? =some (aA (bs (qs.getD i default).y))
 |[],i,h=>by simp at h
 |q::qs,0,_=>⟨rfl,rfl⟩
 |q::qs,i+1,h=>by
  have ih:=Ov qs i (by simpa using h)
  have e1:(i+1)*2=i*2+1+1:=by omega
  have e2:(i+1)*2+1=(i*2+1)+1+1:=by omega
  have e:pB (q::qs)=aA (bs q.x)::aA (bs q.y)::pB qs:=rfl
  rw[e2,e1,e]
  simp only[bM,List.getD_cons_succ]
  exact ih
def Yx(W:aF)(a:Option cT)(qs:List Po):Prop:=
 ∀i,i<qs.length→∃b off,a=some ⟨b,off,none⟩∧W.cell? ⟨b,off+i*2,none⟩=some (aA (bs (qs.getD i default).x))∧W.cell? ⟨b,off+i*2+1,none⟩=some (aA (bs (qs.getD i default).y))
theorem Yx.below{w w':aF}{a:Option cT}{qs:List Po}(h:Yx w a qs)(hb:Below w.heap.size w w'):Yx w' a qs:=by
 intro i hi;obtain⟨b,off,rfl,h1,h2⟩:=h i hi;exact⟨b,off,rfl,(hb.cell (p:=⟨b,off+i*2,none⟩) (bG w _ h1)).trans h1,(hb.cell (p:=⟨b,off+i*2+1,none⟩) (bG w _ h2)).trans h2⟩
theorem Yx.own{w:aF}{base e:Nat}{a:Option cT}{n cap:Nat}{qs:List Po}(h:w.ownsRow base e 2 (aB a n cap) n (pB qs)):Yx w a qs:=by
 intro i hi;have hl:=h.1;rw[Wu]at hl;rcases h.2 with⟨_,h2⟩|⟨g,c,yU,hv,_⟩
 ·omega
 ·injection hv with e1 e2 e3;subst e1 e3;obtain⟨k1,k2⟩:=Ov qs i hi;refine⟨g,0,rfl,?_,?_⟩
  ·rw[dZ,eX h (i*2) (by omega),k1]
  ·rw[dZ,eX h (i*2+1) (by omega),k2]
structure Lo where
 a:Option cT
 cap:Nat
 qs:List Po
instance:Inhabited Lo:=⟨⟨none,0,[]⟩⟩
def RdLo(W:aF)(a:Option cT)(ls:List Lo):Prop:=
 ∀i,i<ls.length→∃b off,a=some ⟨b,off,none⟩∧W.cell? ⟨b,off+i,none⟩=some (aB (ls.getD i default).a (ls.getD i default).qs.length (ls.getD i default).cap)∧Yx W (ls.getD i default).a (ls.getD i default).qs
def sW(fs:List Fr)(at':List (List UInt8))(ls:List Lp):List (List Po):=ls.map fun l=>l.ps.map fun p=>dV fs at' p
end
end Go.Proofs.YtckgmoobicmbnaaGreatDoor
