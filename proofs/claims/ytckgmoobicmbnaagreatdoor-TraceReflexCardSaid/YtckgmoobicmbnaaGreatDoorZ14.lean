import Derived.RangeFuncCalls
import Derived.Laws.StructEq
import Derived.BigQuiet
import Derived.Deep.QuietTactic
import Derived.Outline
import Derived.Deep.AppendLies
import Derived.Deep.RegionHeld3
import Derived.Deep.CutBlock
import Derived.OwnWalkIn
import Derived.Shelf.Spec.SlicesGrow
import Derived.Deep.Slices
import Derived.Deep.Strs
import Derived.Test.YtckgmoobicmbnaaGreatDoorZ0
import Derived.Test.YtckgmoobicmbnaaGreatDoorZ1
import Derived.Test.YtckgmoobicmbnaaGreatDoorZ2
import Derived.Test.YtckgmoobicmbnaaGreatDoorZ5
import Derived.Test.YtckgmoobicmbnaaGreatDoorZ6
import Derived.Test.YtckgmoobicmbnaaGreatDoorZ7
import Derived.Test.YtckgmoobicmbnaaGreatDoorZ8
import Derived.Test.YtckgmoobicmbnaaGreatDoorZ9
import Derived.Test.YtckgmoobicmbnaaGreatDoorZ13
namespace Go.Proofs.YtckgmoobicmbnaaGreatDoor
set_option maxRecDepth 100000
set_option maxHeartbeats 8000000
set_option linter.all false
open Go.Proofs.Tryz
open _root_.Array renaming replicate_succ->bR,replicate_zero->bS,size_append->tX
open _root_.Bool renaming and_eq_true->bK,or_eq_false_iff->dO,not_eq_true'->iH,not_eq_false'->jb
open _root_.Classical renaming byContradiction->vD
open _root_.Go renaming World->aF,Value->aS,Calls->aW,below_drewN->cK,Addr->cT,maxLen->dL,TypeId->eC,Oper->gL,results_tmp->iB,wpAnyH_ready->pU,info_parts->vJ,size_zeroCells->Zh
open Go.Act renaming put->dK
open Go.AllReadyH renaming cons->iX,nil->jR
open Go.Ending renaming returned->aQ
open Go.IntKind renaming i64->aE
open Go.IntWalk renaming i64_in->aX
open Go.Obj renaming cells->aJ
open Go.Op renaming equalIn->MQ
open Go.Oper renaming semAt_some->dW
open Go.Proofs renaming sortWorld->Pj
open Go.Proofs.Lays8 renaming n4->JK
open Go.Proofs.Tryz renaming prog->aC,underlying3->eR,underlying4->gE,zeroValue4->iJ,zeroValue3->jD,isAgg3->kG,sizeOf4->lK,sizeOf3->mU,isAgg4->nG,underlying45->uU,underlying0->vY,zeroValue0->xV,sizeOf0->Df,isAgg0->Fs,sizeOf45->U9,isAgg45->XL,underlying26->mj
open Go.RowKit renaming intOf->aK,Hid->bH,Below->Bc
open Go.RowKit.Below renaming refl->aH
open Go.Shelf renaming Ren->iK
open Go.Sort renaming insertionSort->Zj
open Go.Value renaming string->aA,slice->aB,int->aD,bool->aN,pointer->bA,tuple->cC,agg->cN
open Go.World renaming cells?_some->jg
open Go.World.ownsRow renaming cellAt->eX,frozenAt->fN
open _root_.Int renaming toNat_natCast->iF,zero_mul->D6,natCast_add->Et
open _root_.List renaming getElem?_cons_zero->aI,getElem?_toArray->aL,setIfInBounds_toArray->aM,getD_eq_getElem?_getD->aO,set_cons_zero->aV,getElem_cons_succ->aY,getElem_cons_zero->aZ,set_cons_succ->bC,getElem_toArray->bD,length_cons->bF,getElem?_cons_succ->bM,append_toArray->bU,size_toArray->bW,length_nil->bY,cons_append->bZ,push_toArray->cD,nil_append->cL,length_map->cO,length_append->cP,take_succ_eq_append_getElem->dU,getElem?_eq_getElem->eO,getElem_of_mem->eU,length_take->fG,take_of_length_le->fM,length_drop->jU,getElem?_append_right->lU,getElem?_eq_none->mI,range->vN,foldl_cons->sE,mem_cons->sZ,map_append->tW,pairwise_cons->yQ,getElem?_append_left->Bb,append_assoc->B7,mem_map_of_mem->Fx,map_cons->Il,getElem!_eq_getElem?_getD->Km,take_append_drop->Vo,getElem!_toArray->Vw,set_append_right->Vx,attach_map_val->Zk,getElem?_take->iz,length_attach->je
open _root_.List.Pairwise renaming nil->jc
open _root_.Nat renaming le_refl->aG,lt_of_lt_of_le->bL,zero_le->bN,pow_le_pow_right->bO,reduceAdd->cW,reduceSub->cX,gcd->dR,mod_eq_of_lt->fE,eq_zero_or_pos->fF,lt_or_ge->fK,mod_lt->fU,le_of_lt->fZ,zero_mul->oC,add_zero->oE,le_of_eq->Aa
section
open Go Go.Sort
section
variable{α:Type}(lt:α→α→Bool)
def tL(x:α):List α→List α
 |[]=>[x]
 |y::l=>if lt x y=true then x::y::l else y::tL x l
def rV(l:List α):List α:=l.foldl (fun out x=>tL lt x out) []
def Us(l:List α):Prop:=l.Pairwise fun a b=>lt b a=false
theorem Ut(x:α)(l:List α)(z:α):z∈tL lt x l↔z=x∨z∈l:=by
 induction l with
 |nil=>simp[tL]
 |cons y l ih=>
  unfold tL;split
  ·simp
  ·rw[sZ,ih,sZ];constructor
   ·rintro(h|h|h)
    ·exact .inr (.inl h)
    ·exact .inl h
    ·exact .inr (.inr h)
   ·rintro(h|h|h)
    ·exact .inr (.inl h)
    ·exact .inl h
    ·exact .inr (.inr h)
theorem yh(x:α)(l:List α):(tL lt x l).length=l.length+1:=by
 induction l with
 |nil=>rfl
 |cons y l ih=>
  unfold tL;split
  ·rfl
  ·rw[bF,ih,bF]
theorem fm{x y:α}{l:List α}(h:lt x y=true):tL lt x (l++[y])=tL lt x l++[y]:=by
 induction l with
 |nil=>simp[tL,h]
 |cons z l ih=>
  rw[bZ,tL,tL];split
  ·rfl
  ·rw[ih];rfl
theorem yi{x:α}{l:List α}(h:∀z∈l,lt x z=false):tL lt x l=l++[x]:=by
 induction l with
 |nil=>rfl
 |cons z l ih=>
  rw[tL,iN (by rw[h z (List.mem_cons_self ..)];decide),ih fun u hu=>h u (List.mem_cons_of_mem _ hu)];rfl
variable{lt}
theorem yj[Inhabited α](hS:SWO lt){x:α}{l:List α}(h:Us lt l):Us lt (tL lt x l):=by
 unfold Us at *;induction l with
 |nil=>simp[tL]
 |cons y l ih=>
  rw[yQ]at h;unfold tL;split
  ·rename_i hxy;rw[yQ,yQ];refine⟨fun z hz=>?_,h⟩;have hyx:lt y x=false:=by
    cases e:lt y x with
    |false=>rfl
    |true=>have:=hS.trans _ _ _ hxy e;rw[hS.irrefl]at this;cases this
   rcases List.mem_cons.1 hz with rfl|hz
   ·exact hyx
   ·exact hS.ntrans _ _ _ (h.1 z hz) hyx
  ·rename_i hxy;rw[yQ];refine⟨fun z hz=>?_,ih h.2⟩;rcases(Ut lt x l z).1 hz with rfl|hz
   ·simpa using hxy
   ·exact h.1 z hz
variable[Inhabited α]
theorem Mu(hS:SWO lt):∀(n:Nat)(P:List α)(x:α)(R:List α),P.length=n→Us lt P→insInner lt 0 n (P++x::R).toArray=(tL lt x P++R).toArray
 |0,P,x,R,hP,_=>by
  obtain rfl:P=[]:=List.length_eq_zero_iff.1 hP
  rfl
 |n+1,P,x,R,hP,hA=>by
  obtain⟨Q,y,rfl⟩:∃Q y,P=Q++[y]:=⟨P.dropLast,P.getLast (by intro e;rw[e]at hP;cases hP),(List.dropLast_concat_getLast _).symm⟩
  have hQ:Q.length=n:=by rw[cP]at hP;simpa using hP
  have e1:(Q++[y]++x::R).toArray[n+1]! =x:=by
   rw[Vw,Km,lU (by rw[hP];exact aG _),hP];simp
  have e0:(Q++[y]++x::R).toArray[n]! =y:=by
   rw[Vw,Km,B7,lU (by rw[hQ];exact aG _),hQ];simp
  unfold Us at hA;rw[List.pairwise_append]at hA;rw[insInner,e1,e0];by_cases hl:lt x y=true
  ·rw[ip (by simp[hl])];have es:swp (Q++[y]++x::R).toArray (n+1) n=(Q++x::(y::R)).toArray:=by
    unfold swp;rw[e1,e0,aM,aM,B7,Vx _ _ (by omega),Vx _ _ (by omega),show n+1-Q.length=1 by omega,show n-Q.length=0 by omega];rfl
   rw[es,Mu hS n Q x (y::R) hQ hA.1,fm lt hl];simp
  ·rw[iN (by simp[hl])];have hf:lt x y=false:=by simpa using hl
   rw[yi lt (l:=Q++[y]) fun z hz=>?_]
   ·simp
   ·rcases List.mem_append.1 hz with h|h
    ·exact hS.ntrans _ _ _ hf (hA.2.2 z h y (by simp))
    ·rw[List.mem_singleton.1 h];exact hf
theorem Xt(l:List α)(x:α):rV lt (l++[x])=tL lt x (rV lt l):=by unfold rV;rw[List.foldl_append];rfl
theorem DA(l:List α):(rV lt l).length=l.length:=by
 suffices h:∀(l m:List α),(l.foldl (fun out x=>tL lt x out) m).length=l.length+m.length by
  have:=h l [];simpa[rV]using this
 intro l;induction l with
 |nil=>intro m;simp
 |cons x l ih=>intro m;rw[sE,ih,yh,bF];omega
theorem fw(hS:SWO lt)(l:List α):Us lt (rV lt l):=by
 suffices h:∀(l m:List α),Us lt m→Us lt (l.foldl (fun out x=>tL lt x out) m) by exact h l [] jc
 intro l;induction l with
 |nil=>intro m h;exact h
 |cons x l ih=>intro m h;rw[sE];exact ih _ (yj hS h)
theorem fx(l:List α)(z:α):z∈rV lt l↔z∈l:=by
 suffices h:∀(l m:List α),z∈l.foldl (fun out x=>tL lt x out) m↔z∈l∨z∈m by
  have:=h l [];simpa[rV]using this
 intro l;induction l with
 |nil=>intro m;simp
 |cons x l ih=>
  intro m;rw[sE,ih,Ut,sZ];constructor
  ·rintro(h|h|h)
   ·exact .inl (.inr h)
   ·exact .inl (.inl h)
   ·exact .inr h
  ·rintro((h|h)|h)
   ·exact .inr (.inl h)
   ·exact .inl h
   ·exact .inr (.inr h)
theorem Mv(hS:SWO lt)(l:List α):∀(m i:Nat),m+i=l.length→insOuter lt 0 l.length i (rV lt (l.take i)++l.drop i).toArray=(rV lt l).toArray
 |0,i,h=>by
  rw[insOuter,iN (by omega),fM (by omega),List.drop_eq_nil_of_le (by omega),List.append_nil]
 |m+1,i,h=>by
  have hi:i<l.length:=by omega
  rw[insOuter,ip hi,List.drop_eq_getElem_cons hi,Mu hS i _ _ _ (by rw[DA,fG];omega) (fw hS _),←Xt,←dU hi]
  exact Mv hS l m (i+1) (by omega)
theorem Mw(hS:SWO lt)(l:List α):Zj lt l.toArray 0 l.length=(rV lt l).toArray:=by
 unfold Zj;cases l with
 |nil=>rw[insOuter,iN (by simp)];rfl
 |cons x l=>
  have:=Mv hS (x::l) l.length 1 (by rw[bF]);exact this
theorem yk{β:Type}{f:α→β}{lt':β→β→Bool}(h:∀x y,lt x y=lt' (f x) (f y))(x:α)(l:List α):(tL lt x l).map f=tL lt' (f x) (l.map f):=by
 induction l with
 |nil=>rfl
 |cons y l ih=>
  rw[tL,Il,tL,h];split
  ·rfl
  ·rw[Il,ih]
theorem fy{β:Type}{f:α→β}{lt':β→β→Bool}(h:∀x y,lt x y=lt' (f x) (f y))(l:List α):(rV lt l).map f=rV lt' (l.map f):=by
 suffices hh:∀(l m:List α),(l.foldl (fun out x=>tL lt x out) m).map f=(l.map f).foldl (fun out x=>tL lt' x out) (m.map f) by exact hh l []
 intro l;induction l with
 |nil=>intro m;rfl
 |cons x l ih=>intro m;rw[sE,ih,Il,sE,yk h]
end
end
section
open Go Go.RowKit Go.Lib
def kM(fs:List Fr)(at':List (List UInt8))(ps:List Pt):Nat→Nat
 |0=>0
 |k+1=>if Db fs at' (ps.getD k default) (ps.getD (kM fs at' ps k) default)<0 then k else kM fs at' ps k
theorem vB(fs:List Fr)(at':List (List UInt8))(ps:List Pt):∀k,0<k→kM fs at' ps k<k
 |0,h=>absurd h (by decide)
 |k+1,_=>by
  unfold kM
  split
  ·omega
  ·rcases fF k with e|e
   ·subst e;simp[kM]
   ·have:=vB fs at' ps k e;omega
theorem results_agg3_un{P:Program}{fn:Func}{p:Tmp}{ty T:eC}(h:fn.results= #[.cell p ty])(tmps:Array aS)(w:aF)(g:Nat)(x y z:aS)
 (hp:tmps.getD p undef=bA (some ⟨g,0,none⟩))(hb:bT w g #[x,y,z] T)(ha:∀w,(isAgg ty).run P w=.ok true w)(hs:∀w,(sizeOf ty).run P w=.ok 3 w):
 (results fn tmps).run P w=.ok (cN #[x,y,z]) w:=by
 have RY:tmps[p]?.getD undef=bA (some ⟨g,0,none⟩):=by simpa using hp
 have c0:=hb.cell 0;have c1:=hb.cell 1;have c2:=hb.cell 2;simp only[aL,aI,bM]at c0 c1 c2;simp[results,h,go_sem,RY,c0,c1,c2,ha,hs]
theorem bT.set3{W:aF}{b:Nat}{x y z:aS}{T:eC}(h:bT W b #[x,y,z] T)(u v r:aS):bT (((W.setCell ⟨b,0,none⟩ u).setCell ⟨b,1,none⟩ v).setCell ⟨b,2,none⟩ r) b #[u,v,r] T:=((h.set 0 u).set 1 v).set 2 r
theorem bT.oth3{W:aF}{b c:Nat}{cs:Array aS}{T:eC}(h:bT W b cs T)(jC:b≠c)(u v r:aS):bT (((W.setCell ⟨c,0,none⟩ u).setCell ⟨c,1,none⟩ v).setCell ⟨c,2,none⟩ r) b cs T:=((h.other u jC).other v jC).other r jC
theorem Mx{B:Nat}{w W:aF}(h:Below B w W){c:Nat}(hc:B≤c)(u v r:aS):Below B w (((W.setCell ⟨c,0,none⟩ u).setCell ⟨c,1,none⟩ v).setCell ⟨c,2,none⟩ r):=
 ((h.setCell (p:=⟨c,0,none⟩) hc u).setCell (p:=⟨c,1,none⟩) hc v).setCell (p:=⟨c,2,none⟩) hc r
theorem bT.all3{W:aF}{b:Nat}{x y z:aS}{T:eC}(h:bT W b #[x,y,z] T):W.cell? ⟨b,0,none⟩=some x∧W.cell? ⟨b,1,none⟩=some y∧W.cell? ⟨b,2,none⟩=some z∧W.frozen? ⟨b,0,none⟩=false∧W.frozen? ⟨b,1,none⟩=false∧W.frozen? ⟨b,2,none⟩=false∧b<W.heap.size:=
 ⟨h.cell 0,h.cell 1,h.cell 2,h.fz 0,h.fz 1,h.fz 2,h.lt⟩
theorem gh (pa:Option cT) (tv:aS) (n cap:Nat) (fs:List Fr) (at' :List (List UInt8)) (ps:List Pt) (w:aF) (PQ:0 < n) (hn:n≤1000000) (hl:ps.length=n) (rp:CL w pa ps)
 (hb:∀ i j,i < n→j < n→∀ W,Below w.heap.size w W→aW aC 75 #[tv,(ps.getD i default).v,(ps.getD j default).v] W (Rt (aD aE (Db fs at' (ps.getD i default) (ps.getD j default))) W)) :
 aW aC 74 #[aB pa n cap, .func (.func 75) #[tv] #[]] w (Rt ((ps.getD (kM fs at' ps n) default).v) w):=by
 have HBf:=zq hb;have HR:=zq rp;have Hl:=zq hl;obtain⟨pb,po,rfl,c0,c1,c2⟩:=rp.at (i:=0) (by omega) rfl;have lb:pb < w.heap.size:=World.block_lt_of_cell? w ⟨pb,_,none⟩ c0;simp only [oC,oE] at c0 c1 c2;have HM0:bH (kM fs at' ps 1=0):=by show _=_;unfold kM;simp [kM]
 have HMs:bH (∀ k,Db fs at' (ps.getD k default) (ps.getD (kM fs at' ps k) default) < 0→kM fs at' ps (k + 1)=k):=fun k h=> by rw [kM,ip h]
 have HMn:bH (∀ k,¬ Db fs at' (ps.getD k default) (ps.getD (kM fs at' ps k) default) < 0→kM fs at' ps (k + 1)=kM fs at' ps k):=fun k h=> by rw [kM,iN h]
 have jx:bH (∀ k,0 < k→kM fs at' ps k < k):=fun k h=> vB fs at' ps k h;clear hb rp hl;obtain⟨RV,HRV⟩:∃ v,bH ((ps.getD (kM fs at' ps n) default).v=v):=⟨_,rfl⟩;rw [HRV.out];have nlt:((n:Int) < 1)=False:=eq_false (by omega);go_enter func74,ntmps74;obtain⟨W1,vQ⟩:∃ W,(w.alloc (aJ #[aD aE 0,aA ⟨#[]⟩,aA ⟨#[]⟩] 47)).alloc (aJ (ps.getD 0 default).cells 47)=W:=⟨_,rfl⟩;have q4:bT W1 w.heap.size #[aD aE 0,aA ⟨#[]⟩,aA ⟨#[]⟩] 47:=by rw [← vQ];exact(bT.new w _ _).alloc _
 have q5:bT W1 (w.heap.size + 1) (ps.getD 0 default).cells 47:=by
  rw [← vQ];have:=bT.new (w.alloc (aJ #[aD aE 0,aA ⟨#[]⟩,aA ⟨#[]⟩] 47)) (ps.getD 0 default).cells 47;rwa [World.size_alloc] at this
 have mM:Below w.heap.size w W1:=by rw [← vQ];exact((aH _ w).alloc (aG _) _).alloc (by simp) _
 have HS0:bH (bT W1 w.heap.size #[aD aE 0,aA ⟨#[]⟩,aA ⟨#[]⟩] 47∧bT W1 (w.heap.size + 1) (ps.getD (kM fs at' ps 1) default).cells 47∧Below w.heap.size w W1):=by rw [HM0.out];exact⟨q4,q5,mM⟩
 clear q4 q5 mM;generalize hP0:ps.getD 0 default=P0 at *;go_wp2;unfold Pt.cells at vQ;try rw [vQ]
 clear vQ c0 c1 c2 lb nlt hP0;go_loopw [6] (fun i wr=> ∃ k:Nat,i=aD aE (k:Int)∧1≤k∧k≤n∧bH (bT wr w.heap.size #[aD aE 0,aA ⟨#[]⟩,aA ⟨#[]⟩] 47∧bT wr (w.heap.size + 1) (ps.getD (kM fs at' ps k) default).cells 47∧Below w.heap.size w wr)) (fun i _=> n - (aK i).toNat);case atStart=> exact⟨1,rfl,by omega,by omega,HS0⟩
 case round=>
  clear HS0 HM0;obtain⟨k,rfl,Yh,hk,HS⟩:=hrel;obtain⟨q4,q5,hB⟩:=HS.out;have WE:=zq q4;have JG:=zq q5;have HB:=zq hB;clear HS q4 q5 hB;by_cases hlt:k < n
  ·have hltI:(k:Int) < n:=by omega
   have hk0:(0:Int)≤(k:Int):=by omega
   obtain⟨pb',po',Vk,d0,d1,d2⟩:=(HR.out.below HB.out).at (i:=k) (by rw [Hl.out];exact hlt) rfl;injection Vk with Vk;injection Vk with e1 e2;subst e1 e2;have HC:=zq (fun W hW=> HBf.out k (kM fs at' ps k) hlt (Nat.lt_trans (jx.out k (by omega)) hlt) W hW);have hms:=HMs.out k;have Vz:=HMn.out k;obtain⟨x0,x1,x2,z0,z1,z2,lq⟩:=JG.out.all3;generalize hPK:ps.getD k default=PK at d0 d1 d2 HC hms Vz;have HPK:=zq hPK;clear hPK;generalize hPM:ps.getD (kM fs at' ps k) default=PM at JG HC hms Vz x0 x1 x2;have HPM:=zq hPM;clear hPM;obtain⟨cv,hcv⟩:∃ c,Db fs at' PK PM=c:=⟨_,rfl⟩;rw [hcv] at HC hms Vz;clear hcv;obtain⟨ks,kf,ke⟩:=PK;obtain⟨ms,mf,me⟩:=PM;unfold Pt.v at HC;unfold Pt.cells at HC JG;simp only [] at *;obtain⟨KF,HKF⟩:∃ x,bH (bs kf=x):=⟨_,rfl⟩;simp only [HKF.out] at HC d1;obtain⟨KE,HKE⟩:∃ x,bH (bs ke=x):=⟨_,rfl⟩;simp only [HKE.out] at HC d2;obtain⟨MF,HMF⟩:∃ x,bH (bs mf=x):=⟨_,rfl⟩;simp only [HMF.out] at HC JG x1;obtain⟨ME,HME⟩:∃ x,bH (bs me=x):=⟨_,rfl⟩;simp only [HME.out] at HC JG x2;go_wp2_with fail
   go_region_held3 (fun w' => (w'.cell? ⟨w.heap.size + 1,0,none⟩=some (aD aE ms)∧w'.cell? ⟨w.heap.size + 1,1,none⟩=some (aA MF)∧w'.cell? ⟨w.heap.size + 1,2,none⟩=some (aA ME))∧w'.cell? ⟨pb,po + k * 3,none⟩=some (aD aE ks)∧w'.cell? ⟨pb,po + k * 3 + 1,none⟩=some (aA KF)∧w'.cell? ⟨pb,po + k * 3 + 2,none⟩=some (aA KE)) (go_keep)
    (first
     | (go_at_call 75;(with_reducible refine(HC.out _ HB.out.drew).mono ?_);rintro e w1 ⟨rfl,hb1⟩;have Mf:Below wr.heap.size wr w1:=(aH _ wr).drew.trans hb1;have eW:=zq (aU HB.out Mf);have HQ41:=zq (WE.out.below Mf WE.out.lt);have HQ51:=zq (JG.out.below Mf JG.out.lt);have f0:=cF Mf x0;have f1:=cF Mf x1;have f2:=cF Mf x2;have f3:=cF Mf d0;have f4:=cF Mf d1;have f5:=cF Mf d2;clear Mf)
     | fail)
   clear x0 x1 x2 z0 z1 z2 lq d0 d1 d2 f0 f1 f2 hb1 WE JG;have HB:=eW;obtain⟨x0,x1,x2,z0,z1,z2,lq⟩:=HQ51.out.all3;have HPz:bH (w.heap.size + 1≠w.heap.size):=by show _≠_;omega
   by_cases hc:cv < 0
   ·have HM:=zq (hms hc);clear hms Vz;have HQ6:=zq (HQ51.out.set3 (aD aE ks) (aA KF) (aA KE));have HQ7:=zq (HQ41.out.oth3 (Ne.symm HPz.out) (aD aE ks) (aA KF) (aA KE));have Ku:=zq (Mx eW.out (c:=w.heap.size + 1) (Nat.le_succ _) (aD aE ks) (aA KF) (aA KE));go_wp2;go_roundw;case rel=> exact⟨k + 1,by go_num,by omega,by omega,HQ7.out,by rw [HM.out,HPK.out];show bT _ _ #[aD aE ks,aA (bs kf),aA (bs ke)] _;rw [HKF.out,HKE.out];exact HQ6.out,Ku.out⟩
    case measure=> simp only [aK];omega
   ·have HM:=zq (Vz (by omega));clear hms Vz;go_wp2;go_roundw;case rel=> exact⟨k + 1,by go_num,by omega,by omega,HQ41.out,by rw [HM.out,HPM.out];show bT _ _ #[aD aE ms,aA (bs mf),aA (bs me)] _;rw [HMF.out,HME.out];exact HQ51.out,eW.out⟩
    case measure=> simp only [aK];omega
  ·obtain rfl:k=n:=by omega
   clear HMs HMn jx HBf HR Yh;obtain⟨PV,hPV⟩:∃ q,ps.getD (kM fs at' ps k) default=q:=⟨_,rfl⟩;have hRV:=HRV.out;rw [hPV] at JG hRV;have R:bH (RV=cN #[aD aE PV.side,aA (bs PV.fr),aA (bs PV.en)]):=hRV.symm;clear hPV hRV;unfold Pt.cells at JG;generalize bs PV.fr=MF at JG R;generalize bs PV.en=ME at JG R;generalize PV.side=ms at JG R;obtain⟨x0,x1,x2, -, -, -,lq⟩:=JG.out.all3;obtain⟨y0,y1,y2,z0,z1,z2,l4⟩:=WE.out.all3;have HQ6:=zq (WE.out.set3 (aD aE ms) (aA MF) (aA ME));have FC:=zq (Mx HB.out (c:=w.heap.size) (aG _) (aD aE ms) (aA MF) (aA ME));go_wp2;refine bodyPost_ret (results_agg3_un (T:=47) Tryz.results74 _ _ w.heap.size _ _ _ rfl HQ6.out isAgg47 sizeOf47) rfl ⟨by rw [R.out] <;> rfl,FC.out⟩
end
section
open Go Go.Lib Go.Sort
def My(x y:Rat)(s:Int)(e:Rat)(x' y':Rat)(s':Int)(e':Rat):Prop:=x<x'∨(x=x'∧(y<y'∨(y=y'∧(s<s'∨(s=s'∧e<e')))))
theorem QH(x y:Rat)(s:Int)(e:Rat):¬My x y s e x y s e:=by unfold My;grind
theorem OY{a b:Rat}{s:Int}{e a' b':Rat}{s':Int}{e' a'' b'':Rat}{s'':Int}{e'':Rat}(h:My a b s e a' b' s' e')(k:My a' b' s' e' a'' b'' s'' e''):My a b s e a'' b'' s'' e'':=by unfold My at *;grind
theorem Mz{a b:Rat}{s:Int}{e a' b':Rat}{s':Int}{e' a'' b'':Rat}{s'':Int}{e'':Rat}(h:¬My a b s e a' b' s' e')(k:¬My a' b' s' e' a'' b'' s'' e''):¬My a b s e a'' b'' s'' e'':=by unfold My at *;grind
theorem Uu(x y:Rat):(tG x y<0↔x<y)∧(0<tG x y↔y<x)∧(tG x y=0↔x=y):=by
 unfold tG;by_cases h:x<y
 ·rw[ip h];exact⟨by simp[h],by constructor <;>intro k<;>grind,by constructor <;>intro k<;>grind⟩
 ·rw[iN h];by_cases h2:y<x
  ·rw[ip h2];exact⟨by constructor <;>intro k<;>grind,by simp[h2],by constructor <;>intro k<;>grind⟩
  ·rw[iN h2];exact⟨by constructor <;>intro k<;>grind,by constructor <;>intro k<;>grind,by constructor <;>intro k<;>grind⟩
theorem orI_neg(a b c d:Int):QC [QC [a,b],c,d]<0↔a<0∨(a=0∧(b<0∨(b=0∧(c<0∨(c=0∧d<0))))):=by
 simp only[QC]
 repeat' split
 all_goals omega
structure Kd(fs:List Fr)(at':List (List UInt8))(p:Pt):Prop where
 side:∃s:Nat,p.side=s∧s<fs.length
 x:Nm (dV fs at' p).x
 y:Nm (dV fs at' p).y
 en:Nm p.en
def yl(fs:List Fr)(at':List (List UInt8))(p q:Pt):Prop:=My (dD (dV fs at' p).x) (dD (dV fs at' p).y) p.side (dD p.en) (dD (dV fs at' q).x) (dD (dV fs at' q).y) q.side (dD q.en)
section
variable{fs:List Fr}{at':List (List UInt8)}{p q r:Pt}
theorem GU(hp:Kd fs at' p)(hq:Kd fs at' q):Db fs at' p q<0↔yl fs at' p q:=by
 unfold Db;rw[orI_neg,hp.x.cmp hq.x,hp.y.cmp hq.y,hp.en.cmp hq.en];simp only[(Uu _ _).1,(Uu _ _).2.2];have e1:Ja p.side q.side<0↔p.side<q.side:=by unfold Ja;(repeat' split)<;>omega
 have e2:Ja p.side q.side=0↔p.side=q.side:=by unfold Ja;(repeat' split)<;>omega
 rw[e1,e2];rfl
theorem MB{ps:List Pt}(h:∀i,i<ps.length→Kd fs at' (ps.getD i default)):∀k,k≤ps.length→∀j,j<kM fs at' ps k→Db fs at' (ps.getD (kM fs at' ps k) default) (ps.getD j default)<0
 |0,_,j,hj=>by simp[kM]at hj
 |k+1,hk,j,hj=>by
  unfold kM at hj⊢
  by_cases hc:Db fs at' (ps.getD k default) (ps.getD (kM fs at' ps k) default)<0
  ·rw[ip hc]at hj⊢
   have hmin:∀m,m≤k→∀i,i<m→¬yl fs at' (ps.getD i default) (ps.getD (kM fs at' ps m) default):=by
    intro m;induction m with
    |zero=>intro _ i hi;omega
    |succ m ih=>
     intro hm i hi;have Ib:kM fs at' ps m≤m:=by
      rcases fF m with e|e
      ·subst e;simp[kM]
      ·exact fZ (vB fs at' ps m e)
     unfold kM;by_cases hc2:Db fs at' (ps.getD m default) (ps.getD (kM fs at' ps m) default)<0
     ·rw[ip hc2];rw[GU (h m (by omega)) (h _ (by omega))]at hc2;rcases fK i m with h1|h1
      ·intro h3;exact ih (by omega) i h1 (OY h3 hc2)
      ·obtain rfl:i=m:=by omega
       exact QH _ _ _ _
     ·rw[iN hc2];rw[GU (h m (by omega)) (h _ (by omega))]at hc2;rcases fK i m with h1|h1
      ·exact ih (by omega) i h1
      ·obtain rfl:i=m:=by omega
       exact hc2
   have hkm:kM fs at' ps k≤k:=by
    rcases fF k with e|e
    ·subst e;simp[kM]
    ·exact fZ (vB fs at' ps k e)
   rw[GU (h k (by omega)) (h _ (by omega))]at hc⊢;have h2:=hmin k (aG _) j hj;unfold yl at *;revert hc h2;generalize dD (dV fs at' (ps.getD k default)).x=x1;generalize dD (dV fs at' (ps.getD k default)).y=y1;generalize(ps.getD k default).side=s1;generalize dD (ps.getD k default).en=e1;generalize dD (dV fs at' (ps.getD j default)).x=x2;generalize dD (dV fs at' (ps.getD j default)).y=y2;generalize(ps.getD j default).side=s2;generalize dD (ps.getD j default).en=e2;intro hc h2;exact vD fun h3=>Mz h3 h2 hc
  ·rw[iN hc]at hj⊢;exact MB h k (by omega) j hj
theorem minP_ne{ps:List Pt}(h:∀i,i<ps.length→Kd fs at' (ps.getD i default)){j:Nat}(hj:j<kM fs at' ps ps.length)(hn:0<ps.length):ps.getD (kM fs at' ps ps.length) default≠ps.getD j default:=by
 intro e;have h1:=MB h ps.length (aG _) j hj;have hl:=vB fs at' ps ps.length hn;rw[GU (h _ hl) (h _ (by omega)),e]at h1;exact QH _ _ _ _ h1
end
end
section
def Tryz.insS_ren:iK:=⟨fun |20=>231|n=>n,fun |24=>45|22=>26|3=>3|25=>127|4=>4|0=>0|n=>n,fun |n=>n⟩
theorem Tryz.insS:Go.Proofs.SlLaysF.n20 aC Tryz.insS_ren:={
 mixed:=by kernel_rfl
 f20:=⟨Tryz.f231.name,by decide,func231.trans (congrArg some (by kernel_rfl))⟩
 t0:=vY
 a0:=Fs
 z0:=Df
 v0:=xV
 t3:=eR
 a3:=kG
 z3:=mU
 v3:=jD
 t4:=gE
 a4:=nG
 z4:=lK
 v4:=iJ
 t22:=mj
 a22:=isAgg26
 z22:=sizeOf26
 v22:=zeroValue26
 a24:=XL
 z24:=U9
 t25:=underlying127
 a25:=isAgg127
 z25:=sizeOf127
 v25:=zeroValue127}
open Go Go.RowKit Go.Shelf Go.Lib
theorem gj(TB n m cx cy:Nat)(xa ya:Option cT)(t0 t1:aS)(p q:Pt)(res:Int)(w:aF)(ht:bT w TB #[t0,t1] 70)(ps qs:List Pt)(hn:0<n)(hm:0<m)(wG:ps.length=n)(Yy:qs.length=m)(hp:ps.getD 0 default=p)(hq:qs.getD 0 default=q)(rx:CL w xa ps)(ry:CL w ya qs)
 (hb:∀W,Below w.heap.size w W→aW aC 75 #[cN #[t0,t1],p.v,q.v] W (Rt (aD aE res) W)):
 aW aC 78 #[aB xa n cx,aB ya m cy,bA (some ⟨TB,0,none⟩)] w (Rt (aD aE res) w):=by
 have HC:=zq hb;obtain⟨xb,xo,rfl,c0,c1,c2⟩:=rx.at (i:=0) (by omega) hp;obtain⟨yb,yo,rfl,d0,d1,d2⟩:=ry.at (i:=0) (by omega) hq;simp only[oC,oE]at c0 c1 c2 d0 d1 d2;obtain⟨t2,t3,-,-,lT⟩:=ht.two;have n0:(0:Int)<(n:Int):=by omega
 have m0:(0:Int)<(m:Int):=by omega
 clear hb ht rx ry wG Yy hp hq;obtain⟨p1,p2,p3⟩:=p;obtain⟨q1,q2,q3⟩:=q;unfold Pt.v Pt.cells at HC;simp only[]at *;generalize bs p2=P2 at *;generalize bs p3=P3 at *;generalize bs q2=Q2 at *;generalize bs q3=Q3 at *;go_enter func78,ntmps78;go_wp2;go_region_held3 (fun w'=>(w'.cell? ⟨TB,0,none⟩=some (t0)∧w'.cell? ⟨TB,1,none⟩=some (t1))∧(w'.cell? ⟨xb,xo,none⟩=some (aD aE p1)∧w'.cell? ⟨xb,xo+1,none⟩=some (aA P2)∧w'.cell? ⟨xb,xo+2,none⟩=some (aA P3))∧(w'.cell? ⟨yb,yo,none⟩=some (aD aE q1)∧w'.cell? ⟨yb,yo+1,none⟩=some (aA Q2)∧w'.cell? ⟨yb,yo+2,none⟩=some (aA Q3))) (go_keep)
  (first
   |(go_at_call 75;(with_reducible refine(HC.out _ (aH _ w).drew).mono ?_);rintro e w1 ⟨rfl,hb1⟩;have Mf:Below w.heap.size w w1:=(aH _ w).drew.trans hb1;have f0:=cF Mf c0;have f1:=cF Mf c1;have f2:=cF Mf c2;have f3:=cF Mf d0;have f4:=cF Mf d1;have f5:=cF Mf d2;have f6:=cF Mf t2;have f7:=cF Mf t3)
   |fail)
 go_wp2;go_ret;exact⟨rfl,Mf⟩
theorem ym(a:Option cT)(n cap:Nat)(fv:aS)(hn:n≤19)(w:aF)(Xu:aF→Prop)
 (h:aW aC 231 #[aB a n cap,aD aE 0,aD aE n,fv] w fun e w'=>(∃v,e=aQ v)∧Xu w'):
 aW aC 154 #[aB a n cap,aD aE n,fv] w fun e w'=>(∃v,e=aQ v)∧Xu w':=by
 have H:=zq h;clear h;have h20:((20:Int)≤(n:Int))=False:=eq_false (by omega);have h21:((20:Int)<(n:Int))=False:=eq_false (by omega);go_enter func154,ntmps154;go_wp2;go_loopw[7,8] (fun a b wr=>a=aD aE 0∧b=aD aE 20∧wr=w) (fun _ _ _=>0);case atStart=>exact⟨rfl,rfl,rfl⟩
 case round=>
  obtain⟨rfl,rfl,rfl⟩:=hrel;go_wp2_with fail
  refine H.out.mono ?_;rintro e W1⟨⟨v,rfl⟩,hP⟩;have HP:=zq hP;clear hP H;go_wp2;go_loopw[6] (fun a wr=>a=aD aE 20∧bH (Xu wr)) (fun _ _=>0);case atStart=>exact⟨rfl,HP.out⟩
  case round=>
   obtain⟨rfl,HB⟩:=hrel;go_wp2;go_end0;exact⟨⟨_,rfl⟩,HB.out⟩
theorem Uv(a:Option cT)(n cap:Nat)(fv:aS)(hn:n≤19)(w:aF)(Xu:aF→Prop)
 (h:aW aC 231 #[aB a n cap,aD aE 0,aD aE n,fv] w fun e w'=>(∃v,e=aQ v)∧Xu w'):
 aW aC 77 #[aB a n cap,fv] w fun e w'=>(∃v,e=aQ v)∧Xu w':=by
 have HI:=zq (ym a n cap fv hn w Xu h);clear h;go_enter func77,ntmps77;go_wp2_with fail
 refine HI.out.mono ?_;rintro e W1⟨⟨v,rfl⟩,hP⟩;have HP:=zq hP;clear hP HI;go_wp2;go_end0;exact⟨⟨_,rfl⟩,HP.out⟩
end
section
open Go Go.Lib
section
variable{κ β:Type}[DecidableEq κ]
variable(enc:κ→aS)(val:β→aS)
variable{P:Program}{kt:eC}{enc val}
variable{T E:eC}{zero:β}
end
end
section
structure Sg where
 side:Int
 up:Bool
 line:Int
 a:Int
 b:Int
deriving Inhabited
def onW(s:Sg)(x y:Int)(d:Nat):Prop:=
 match d with
 |0=>s.up=false∧s.line=y∧s.a≤x∧x<s.b
 |1=>s.up=true∧s.line=x∧s.a≤y∧y<s.b
 |2=>s.up=false∧s.line=y∧s.b≤x-1∧x-1<s.a
 |_=>s.up=true∧s.line=x∧s.b≤y-1∧y-1<s.a
structure Wy where
 x:Int
 y:Int
 d:Nat
deriving Inhabited,DecidableEq
end
section
open Go Go.RowKit Go.Lib
section
attribute[local go_sem] dW
abbrev WL:=List (Wy×Int)
abbrev SL:=List ((Int×Int)×Bool)
end
section
attribute[local go_sem] dW
end
end
section
section
variable{α:Type}{lt:α→α→Prop}
end
section
variable{α:Type}{f:α→α}{S:List α}
end
section
variable{κ τ:Type}[DecidableEq κ](TU:Nat→κ)(lo hi:Nat→τ)(z:τ)
end
end
section
open Go Go.RowKit Go.Lib
section
variable(S:WL)(xs ys:List (List UInt8))
end
end
section
open Go Go.RowKit Go.Shelf Go.Lib
end
section
instance(s:Sg)(x y:Int)(d:Nat):Decidable (onW s x y d):=by
 unfold onW;split <;>infer_instance
end
section
open Go Go.RowKit Go.Lib
section
variable{W:aF}{G:Nat}{xv yv:aS}{m2 m3 m4:Nat}{S N:WL}{I:SL}
end
end
section
open Go Go.RowKit Go.Shelf Go.Lib
end
section
open Classical in
end
section
open Go Go.RowKit Go.Shelf Go.Lib
section
attribute[local go_sem] dW
end
open Classical in
section
variable{W1 W W':aF}{M O:Nat}{us:List Wy}{pss:List (List Pt)}
end
theorem gk{w:aF}{cR:Array gL}{o:gL}{a:Act}{K:Act→aF→Prop}{Q:Exit→Act→aF→Prop}{E:Prop}(Is:o.guard=none)(s x:Operand)
 (ho:o.op=.call {callee:=.builtin .append,args:= #[s,x],argTypes:= #[26,26]})(B:Nat)(v:aS)(n:Nat)(xs:List aS)(hs:a.eval s=v)(hown:w.ownsRow B 45 1 v n xs)
 (nb:Nat)(ad:Option cT)(m c:Nat)(hx:a.eval x=aB (some ⟨nb,0,none⟩) 1 1)(IH:bT w nb #[aB ad m c] 45)(M8:n+1≤100000)(kJ:B≤w.heap.size)
 (h:∀g cap w',w'.ownsRow B 45 1 (aB (some ⟨g,0,none⟩) (n+1) cap) (n+1) (xs++[aB ad m c])→w.grownBy w' v.ownBlock→(v.ownBlock=some g∨g=w.heap.size)→K (a.put o.dst (aB (some ⟨g,0,none⟩) (n+1) cap)) w'):
 if Region.wanted o (yielded cR a.tmps)=true then Oper.wp aC o a w K Q else E:=by
 obtain⟨i0,hi,zL,vX,oL⟩:=vJ TF;exact step_append_lies w Is s x 26 ho B 45 i0 (aB none 0 0) 1 24 mj hi zL vX oL rfl (by decide) v n xs hs hown ⟨nb,0,none⟩ 1 1 [aB ad m c] hx rfl (World.news_of_block IH) (by simp[Value.oneCell']) (by decide) (by unfold dL;omega) (by omega) kJ _ rfl
  fun g cap w' h1 h2 h3 _=>h g cap w' h1 h2 h3
section
attribute[local go_sem] dW
end
end
section
open Go Go.Lib
section
variable{xs:List (List UInt8)}{s t:List UInt8}
end
end
section
open Go Go.RowKit Go.Lib
section
variable{W W':aF}{G:Nat}{xv yv:aS}{m2 m3 m4:Nat}{S N:WL}{I:SL}
end
section
variable{w0:aF}{TB:Nat}{tc:Array aS}{B G C m2 m3 m4:Nat}{TX TY:ByteArray}{W W':aF}{vx vy ux uy:aS}{kx ky:Nat}{xs ys:List aS}
end
section
variable{ls:List Lp}{q k:Nat}
end
theorem gl(l:List (List UInt8))(t:List UInt8):jS (l++[t])=jS l++[aA (bs t)]:=by simp[jS]
section
variable{w0:aF}{TB:Nat}{tc:Array aS}{B G A m2 m3 m4:Nat}{W W':aF}{vx vy:aS}
end
section
variable{w W W':aF}{TB:Nat}{tc:Array aS}{G gx gy cx cy m2 m3 m4:Nat}{xs ys:List (List UInt8)}{E E':List Sg}
end
end
section
open Go Go.RowKit Go.Shelf Go.Lib Go.Sort
def ltL(fs:List Fr)(at':List (List UInt8))(a b:List Pt):Bool:=decide (Db fs at' (a.getD 0 default) (b.getD 0 default)<0)
theorem Xv(base g n cap TB:Nat)(t0 t1:aS)(fs:List Fr)(at':List (List UInt8))(fD:List Lp)(w0 w:aF)(hB:Bc w0.heap.size w0 w)(hb:w0.heap.size≤base)(PQ:0<n)(hn:n≤19)(hl:fD.length=n)
 (hown:jP base w (aB (some ⟨g,0,none⟩) n cap) fD)(hpos:∀l∈fD,0<l.ps.length)(hok:∀l∈fD,Kd fs at' (l.ps.getD 0 default))(ht:bT w TB #[t0,t1] 70)
 (yn:∀p q,Kd fs at' p→Kd fs at' q→∀W,Bc w0.heap.size w0 W→aW aC 75 #[cN #[t0,t1],p.v,q.v] W fun e w'=>e=aQ (aD aE (Db fs at' p q))∧Bc W.heap.size W w'):
 aW aC 77 #[aB (some ⟨g,0,none⟩) n cap,.func (.func 78) #[] #[bA (some ⟨TB,0,none⟩)]] w fun e w'=>(∃v,e=aQ v)∧(∃AS,jP base w' (aB (some ⟨g,0,none⟩) n cap) AS∧AS.map Lp.ps=rV (ltL fs at') (fD.map Lp.ps))∧w.grownBy w' (some g):=by
 have h1:=hown.1;rw[hl]at h1;obtain⟨hbg,hglt,hnc,-⟩:=gG h1;haveI:Inhabited {l:Lp//l∈fD}:=⟨⟨fD[0],List.getElem_mem _⟩⟩;let enc:{l:Lp//l∈fD}→aS:=fun x=>x.1.v;let cf:{l:Lp//l∈fD}→{l:Lp//l∈fD}→Int:=fun x y=>Db fs at' (x.1.ps.getD 0 default) (y.1.ps.getD 0 default);have Cw:w.ownsRow base 45 1 (aB (some ⟨g,0,none⟩) n cap) n (fD.attach.map enc):=by
  have e:fD.attach.map enc=fD.map Lp.v:=by
   show fD.attach.map (fun x=>Lp.v x.1)=_;exact Zk (f:=Lp.v)
  rw[e];have:=hown.1;rwa[hl]at this
 have kK:fD.attach.length=n:=by rw[je];exact hl
 have hH:Holds enc w g 0 fD.attach.toArray:=by
  intro j hj;have hj:j<fD.attach.length:=by simpa using hj
  rw[Nat.zero_add];refine⟨?_,fN Cw j⟩;rw[eX Cw j (by omega)];have hj2:j<fD.length:=by rwa[je]at hj
  simp[hj2]
 have hS:SWO (ltOf cf):=by
  have e:∀x y,ltOf cf x y=true↔yl fs at' (x.1.ps.getD 0 default) (y.1.ps.getD 0 default):=fun x y=>by
   unfold ltOf;rw[decide_eq_true_eq];exact GU (hok _ x.2) (hok _ y.2)
  have e':∀x y,ltOf cf x y=false↔¬yl fs at' (x.1.ps.getD 0 default) (y.1.ps.getD 0 default):=fun x y=>by
   rw[←e];simp
  refine⟨fun x=>?_,fun x y z h1 h2=>?_,fun x y z h1 h2=>?_⟩
  ·rw[e'];exact QH _ _ _ _
  ·rw[e]at *;exact OY h1 h2
  ·rw[e']at *;exact Mz h1 h2
 have hcmp:CmpLays1 aC 78 #[bA (some ⟨TB,0,none⟩)] enc cf g 0 fD.attach.toArray.size w:=by
  intro m os dk hk x y;have hg:=JH enc w g 0 m dk os;have hBW:Bc w0.heap.size w0 (Pj enc w g 0 m dk os):=eP (v:=aB (some ⟨g,0,none⟩) n cap) hB hg Cw hb hB.size;have rd:∀l∈fD,CL (Pj enc w g 0 m dk os) l.a l.ps:=fun l hl=>CL.own ((hown.2 l hl).kept (w':=Pj enc w g 0 m dk os) hg (wT (hown.2 l hl) hown.1 (by decide)));have htW:bT (Pj enc w g 0 m dk os) TB #[t0,t1] 70:=nE ht hg (kC ht hown.1 (by decide));have:=gj TB x.1.ps.length y.1.ps.length x.1.cap y.1.cap x.1.a y.1.a t0 t1 _ _ (cf x y) (Pj enc w g 0 m dk os) htW x.1.ps y.1.ps (hpos _ x.2) (hpos _ y.2) rfl rfl rfl rfl (rd _ x.2) (rd _ y.2)
   (fun W hW=>yn _ _ (hok _ x.2) (hok _ y.2) W (aU hBW hW))
  exact Calls.grown this
 have DM:fD.attach.toArray.size=n:=by simp[hl]
 have H:=Any.insertionSortCmpFunc_s Tryz.insS enc cf 78 #[bA (some ⟨TB,0,none⟩)] g 0 cap 0 n fD.attach.toArray fD.attach.toArray w w (enters_of func78 (by kernel_rfl) rfl) hcmp ⟨fun _=>rfl,hH,hglt⟩ rfl (SW.start hH) (bN _) (by rw[DM];exact aG _) (by rw[DM];omega);rw[DM]at H;have hins:Zj (ltOf cf) fD.attach.toArray 0 n=(rV (ltOf cf) fD.attach).toArray:=by rw[←kK];exact Mw hS fD.attach
 rw[hins]at H;refine Uv _ n cap _ hn w (fun w'=>(∃AS,jP base w' (aB (some ⟨g,0,none⟩) n cap) AS∧AS.map Lp.ps=rV (ltL fs at') (fD.map Lp.ps))∧w.grownBy w' (some g)) (H.mono ?_);rintro e w'⟨rfl,m,os,rfl⟩;have hg:=JH enc w g 0 m (rV (ltOf cf) fD.attach).toArray os;refine⟨⟨_,rfl⟩,⟨(rV (ltOf cf) fD.attach).map Subtype.val,⟨?_,fun l hl=>?_⟩,?_⟩,hg⟩
 ·have:=fk enc w base g n cap m 45 fD.attach (rV (ltOf cf) fD.attach) os Cw (by rw[DA];exact kK);rw[cO,DA,kK,List.map_map];exact this
 ·obtain⟨x,-,rfl⟩:=List.mem_map.1 hl;exact(hown.2 _ x.2).kept hg (wT (hown.2 _ x.2) hown.1 (by decide))
 ·have e1:=fy (lt:=ltOf cf) (f:=fun x:{l:Lp//l∈fD}=>x.1.ps) (lt':=ltL fs at') (fun x y=>rfl) fD.attach;have e2:fD.attach.map (fun x:{l:Lp//l∈fD}=>x.1.ps)=fD.map Lp.ps:=Zk (f:=Lp.ps);rw[e2]at e1;rw[List.map_map];exact e1
end
section
open Go Go.RowKit Go.Lib
theorem Uw (pa:Option cT) (n cap m:Nat) (ps:List Pt) (w:aF) (hn:n≤1000000) (hl:ps.length=n) (rp:CL w pa ps) (hm:m < n) (zO:∀ j,j < m→ps.getD m default≠ps.getD j default) :
 aW aC 76 #[aB pa n cap,(ps.getD m default).v] w (Rt (aD aE (m:Int)) w):=by
 have HR:=zq rp;have Hl:=zq hl;have HF:=zq zO;obtain⟨pb,po,rfl, -⟩:=rp.at (i:=0) (by omega) rfl;clear rp hl zO;obtain⟨v,hv⟩:∃ v,ps.getD m default=v:=⟨_,rfl⟩;have HV:=zq hv;rw [hv] at HF ⊢;clear hv;have HVc:bH (v.v=cN #[aD aE v.side,aA (bs v.fr),aA (bs v.en)]):=rfl;unfold Pt.v Pt.cells;have hq:=bT.new w #[aD aE v.side,aA (bs v.fr),aA (bs v.en)] 47;have fA:=(aH w.heap.size w).alloc (aG _) (aJ #[aD aE v.side,aA (bs v.fr),aA (bs v.en)] 47);obtain⟨W1,vQ⟩:∃ W,w.alloc (aJ #[aD aE v.side,aA (bs v.fr),aA (bs v.en)] 47)=W:=⟨_,rfl⟩;rw [vQ] at hq fA;have HQ:=zq hq;have gY:=zq fA;clear hq fA;go_enter func76,ntmps76;go_upto_if 9 with (fail);try rw [vQ]
 clear vQ;go_loopw [8] (fun i wr=> ∃ k:Nat,i=aD aE (k:Int)∧k≤m∧bH (bT wr w.heap.size #[aD aE v.side,aA (bs v.fr),aA (bs v.en)] 47∧Below w.heap.size w wr)) (fun i _=> n - (aK i).toNat);case atStart=> exact⟨0,rfl,by omega,HQ.out,gY.out⟩
 case round=>
  clear HQ gY;obtain⟨k,rfl,hk,HS⟩:=hrel;have hQ:=HS.out.1;have HB:=zq HS.out.2;have hltI:(k:Int) < n:=by omega
  have hk0:(0:Int)≤(k:Int):=by omega
  obtain⟨pb',po',Vk,d0,d1,d2⟩:=(HR.out.below HB.out).at (i:=k) (by rw [Hl.out];omega) rfl;injection Vk with Vk;injection Vk with e1 e2;subst e1 e2;obtain⟨x0,x1,x2, -, -, -,lq⟩:=hQ.all3;by_cases he:k=m
  ·subst he;rw [HV.out] at d0 d1 d2;have Q:∀ W,(MQ 10000 47 (cN #[aD aE v.side,aA (bs v.fr),aA (bs v.en)]) (cN #[aD aE v.side,aA (bs v.fr),aA (bs v.en)])).run aC W= .ok true W:=fun W=> by rw [eqPt,decide_eq_true rfl]
   go_wp2_with fail
   go_region;all_goals
    go_wp2;go_ret;exact⟨rfl,by first | exact HB.out.drew | exact HB.out | exact cK HB.out _⟩
  ·have jC:v≠ps.getD k default:=HF.out k (by omega);generalize ps.getD k default=q at *;have Q:∀ W,(MQ 10000 47 (cN #[aD aE v.side,aA (bs v.fr),aA (bs v.en)]) (cN #[aD aE q.side,aA (bs q.fr),aA (bs q.en)])).run aC W= .ok false W:=fun W=> by rw [eqPt,decide_eq_false jC]
   go_wp2_with fail
   go_region;all_goals
    go_wp2;go_roundw;case rel=> exact⟨k + 1,by go_num,by omega,hQ,by first | exact HB.out.drew | exact HB.out | exact cK HB.out _⟩
    case measure=> simp only [aK];omega
end
section
open Go.Shelf
def Tryz.grP_ren:iK:=⟨fun |4=>141|n=>n,fun |22=>45|25=>47|3=>3|4=>4|9=>9|20=>20|0=>0|n=>n,fun |n=>n⟩
theorem Tryz.grP:JK aC Tryz.grP_ren:={
 mixed:=by kernel_rfl
 f4:=⟨Tryz.f141.name,by decide,func141.trans (congrArg some (by kernel_rfl))⟩
 t0:=vY
 a0:=Fs
 z0:=Df
 v0:=xV
 t3:=eR
 a3:=kG
 z3:=mU
 v3:=jD
 t4:=gE
 a4:=nG
 z4:=lK
 v4:=iJ
 t9:=underlying9
 a9:=isAgg9
 z9:=sizeOf9
 v9:=zeroValue9
 t20:=underlying20
 a20:=isAgg20
 z20:=sizeOf20
 v20:=zeroValue20
 t22:=uU
 a22:=XL
 z22:=U9
 v22:=zeroValue45}
open Go Go.RowKit Go.Lib Go.Shelf
theorem growP(n:Nat)(w:aF)(h0:0<n)(hn:n≤100000000):
 aW aC 141 #[aB none 0 0,aD aE n] w fun e w'=>(∃g cap,e=aQ (aB (some ⟨g,0,none⟩) 0 cap)∧w'.ownsRow w.heap.size 47 3 (aB (some ⟨g,0,none⟩) 0 cap) 0 [])∧Below w.heap.size w w':=by
 obtain⟨i0,hi,zL,vX,oL⟩:=vJ wV;have H:=Any8.slices_Grow_grow Tryz.grP i0 (cN #[aD aE 0,aA ⟨#[]⟩,aA ⟨#[]⟩]) hi zL (by rw[vX];decide) none 0 0 n [] w (aG _) (by omega) (by rw[oL];omega) (by omega) (by simp) (fun _=>rfl) (fun a e=>(by cases e));refine Calls.mono H ?_;rintro e w'⟨rfl,rfl⟩;refine⟨⟨w.heap.size,_,rfl,rfl,.inr ⟨w.heap.size,_,_,rfl,aG _,World.alloc_heap_new w.drew _,bN _,?_,?_,rfl⟩⟩,((aH _ w).drew.alloc (by simp) _)⟩
 ·exact grownCap_le_maxLen w _ _ _ (by unfold dL;omega)
 ·have:=grownCap_ge w (0+n) 0 (Tryz.grP_ren.t 25);rw[tX,tX,Zh,Zh];simp only[Value.cells,bW,bF,bY];generalize grownCap w (0+n) 0 (Tryz.grP_ren.t 25)=c at *;omega
theorem appP{w:aF}{cR:Array gL}{rest:List gL}{o:gL}{a:Act}{Q:Exit→Act→aF→Prop}(Is:o.guard=none)(s x:Operand)
 (ho:o.op=.call {callee:=.builtin .append,args:= #[s,x],argTypes:= #[45,45]})(base:Nat)
 (gv cv n:Nat)(xs:List aS)(hs:a.eval s=aB (some ⟨gv,0,none⟩) n cv)(hown:w.ownsRow base 47 3 (aB (some ⟨gv,0,none⟩) n cv) n xs)
 (l:Sl)(hx:a.eval x=l.v)(hl:l.ok)(hr:l.Rd w)(M8:n+l.len≤100000000)(kJ:base≤w.heap.size)
 (h:∀g cap w',w'.ownsRow base 47 3 (aB (some ⟨g,0,none⟩) (n+l.len) cap) (n+l.len) (xs++l.cs)→base≤g→w.grownBy w' (some gv)→
  wpList aC cR Q rest (a.put o.dst (aB (some ⟨g,0,none⟩) (n+l.len) cap)) w'):
 wpList aC cR Q (o::rest) a w:=by
 obtain⟨i0,hi,zL,vX,oL⟩:=vJ wV;refine wpList_append_own _ Is s x 45 ho base 47 i0 (cN #[aD aE 0,aA ⟨#[]⟩,aA ⟨#[]⟩]) 3 40 uU hi zL vX oL rfl (by decide) _ n xs hs hown ⟨l.b,l.off,none⟩ l.len l.cap l.cs hx hl.1 (fun j u hj=>by rw[Addr.add_lit];exact hr j u hj) hl.2
  (by unfold dL;omega) (by omega) kJ ?_
 intro v' w' oR hg It;rcases oR.2 with⟨h1,h2⟩|⟨g',M9,yU,hv,h3,-⟩
 ·have:=(It.1 h1).1;cases this
 ·subst hv;exact h g' M9 w' oR h3 hg
theorem concatP(a:Option cT)(n ca:Nat)(ls:List Sl)(w:aF)(hl:ls.length=n)(hn:n≤1000)(wG:∀l∈ls,l.len≤10000∧l.ok)(hpos:0<mF ls n)(rl:RdS w a ls):
 aW aC 64 #[aB a n ca] w fun e w'=>(∃g cap,e=aQ (aB (some ⟨g,0,none⟩) (mF ls n) cap)∧w'.ownsRow w.heap.size 47 3 (aB (some ⟨g,0,none⟩) (mF ls n) cap) (mF ls n) (AO ls))∧Below w.heap.size w w':=by
 have hok:∀i,i<n→(ls.getD i default).len≤10000∧(ls.getD i default).ok:=fun i hi=>wG _ (eB (by omega) default);have Zx:∀k,k≤n→mF ls k≤k*10000:=fun k hk=>Qz (fun i hi=>(hok i (by omega)).1) k hk;have GJ:∀k,k≤n→mF ls k≤10000000:=fun k hk=>by have:=Zx k hk;have:k*10000≤1000*10000:=Nat.mul_le_mul_right _ (by omega);omega
 have HA:bH (∀k,k<n→AO (ls.take (k+1))=AO (ls.take k)++(ls.getD k default).cs):=fun k hk=>OT (by omega);have HAn:bH (AO (ls.take n)=AO ls):=by show _=_;rw[fM (by omega)]
 have Hm:bH (∀k,k<n→mF ls (k+1)=mF ls k+(ls.getD k default).len):=fun k _=>rfl;have Hb:=zq GJ;have ZR:=zq hok;have Hl:=zq hl;have Rl:=zq rl;have HG:=zq (fun W=>growP (mF ls n) W hpos (by have:=GJ n (aG _);omega));have hbn:=GJ n (aG _);clear hl wG rl Zx GJ hok;go_enter func64,ntmps64;go_wp2;go_loop [3,11] (fun s i=>∃k:Nat,i=aD aE k∧k≤n∧s=aD aE (mF ls k:Nat)) (fun _ i=>n-(aK i).toNat);case atStart=>exact⟨0,rfl,bN _,rfl⟩
 case round=>
  obtain⟨k,rfl,hk,rfl⟩:=hrel;by_cases hlt:k<n
  ·obtain⟨lb,lo,rfl,c0,-⟩:=Rl.out k (by rw[Hl.out];exact hlt);have b1:=Hb.out k hk;have b2:=Hb.out (k+1) hlt;have e2:=Hm.out k hlt;have HE:=zq e2;rw[e2]at b2;clear e2;generalize ls.getD k default=l at *;unfold Sl.v at c0;generalize l.len=m at *;generalize l.b=la at *;generalize l.off=lof at *;generalize l.cap=lc at *;obtain⟨s1,Ei⟩:∃s,mF ls (k+1)=s:=⟨_,rfl⟩;rw[Ei]at HE;have TJ:=zq Ei;clear Ei;generalize mF ls k=s0 at *;go_wp2;go_round;case rel=>exact⟨k+1,by go_num,by omega,by rw[TJ.out,HE.out];go_num⟩
   case measure=>simp only[aK];omega
  ·obtain rfl:n=k:=by omega
   obtain⟨N,hN⟩:∃N,mF ls n=N:=⟨_,rfl⟩;rw[hN]at HG hbn⊢;have HN:=zq hN;clear hN hpos;go_wp2_with fail
   refine(HG.out _).mono ?_;rintro e W1⟨⟨g0,vi,rfl,JE⟩,hb1⟩;have eW:=zq hb1;have Nq:=zq JE;clear hb1 JE HG;go_wp2;go_loopw[6,27] (fun o i wr=>∃(k g cap:Nat),i=aD aE k∧k≤n∧o=aB (some ⟨g,0,none⟩) (mF ls k) cap∧bH (wr.ownsRow w.heap.size 47 3 (aB (some ⟨g,0,none⟩) (mF ls k) cap) (mF ls k) (AO (ls.take k)))∧bH (Below w.heap.size w wr)) (fun _ i _=>n-(aK i).toNat);case atStart=>exact⟨0,g0,vi,rfl,bN _,rfl,Nq.out,eW.out⟩
   case round=>
    clear eW Nq;obtain⟨k,g,cap,rfl,hk,rfl,qO,HB⟩:=hrel;by_cases hlt2:k<n
    ·obtain⟨lb,lo,rfl,c0,rp⟩:=(Rl.out.below HB.out) k (by rw[Hl.out];exact hlt2);have HE:=zq (Hm.out k hlt2);have b2:=Hb.out (k+1) hlt2;rw[HE.out]at b2;have HAk:=zq (HA.out k hlt2);have Rp:=zq rp;have Ok:=zq (ZR.out k hlt2).2;clear rp;generalize ls.getD k default=l at *;obtain⟨lbb,lof,m,lc,cs⟩:=l;unfold Sl.v at c0;simp only[]at *;obtain⟨s1,Ei⟩:∃s,mF ls (k+1)=s:=⟨_,rfl⟩;rw[Ei]at HE;have TJ:=zq Ei;clear Ei;generalize mF ls k=s0 at *;have hown:=qO.out;have Ru:=HB.out.size;have hb3:s0+m≤100000000:=by omega
     go_wp2_with (at_builtin;refine appP rfl _ _ rfl w.heap.size g cap s0 _ rfl hown ⟨lbb,lof,m,lc,cs⟩ rfl Ok.out Rp.out hb3 Ru ?_;intro g5 WO w5 rS uw CV;simp only[]at rS)
     have yI:=zq (eP (v:=aB (some ⟨g,0,none⟩) s0 cap) HB.out CV hown (aG _) Ru);rw[←HAk.out,←HE.out]at rS;have HO5:=zq rS;clear hown rS CV;go_wp2;go_roundw;case rel=>exact⟨k+1,g5,WO,by go_num,by omega,by rw[TJ.out,HE.out],by rw[TJ.out];exact HO5.out,yI.out⟩
     case measure=>simp only[aK];omega
    ·obtain rfl:n=k:=by omega
     rw[HAn.out,HN.out]at qO;rw[HN.out];go_wp2;go_ret;exact⟨⟨g,cap,by first |rfl|(rw[HN.out];rfl),by rw[HN.out];exact qO.out⟩,HB.out⟩
end
section
open Go Go.RowKit Go.Shelf Go.Lib
def Fm(fs:List Fr)(at':List (List UInt8))(ps:List Pt):List Pt:=ps.drop (kM fs at' ps ps.length)++ps.take (kM fs at' ps ps.length)
def NH(fs:List Fr)(at':List (List UInt8))(pss:List (List Pt)):List (List Pt):=rV (ltL fs at') (pss.map (Fm fs at'))
theorem GV(fs:List Fr)(at':List (List UInt8))(ps:List Pt):(Fm fs at' ps).length=ps.length:=by
 unfold Fm;rw[cP,jU,fG];have:kM fs at' ps ps.length≤ps.length:=by
  rcases fF ps.length with e|e
  ·rw[e];simp[kM]
  ·exact fZ (vB _ _ _ _ e)
 omega
theorem yp{fs:List Fr}{at':List (List UInt8)}{ps:List Pt}{p:Pt}(h:p∈Fm fs at' ps):p∈ps:=by
 unfold Fm at h;rcases List.mem_append.1 h with h|h
 ·exact List.mem_of_mem_drop h
 ·exact List.mem_of_mem_take h
theorem Xw(pb po n i cap c bb:Nat)(ps:List Pt)(W:aF)(hl:ps.length=n)(hn:n≤10000)(PQ:0<n)(hi:i≤n)(rp:CL W (some ⟨pb,po,none⟩) ps)(hb:bT W bb #[aB (some ⟨pb,po+i*3,none⟩) (n-i) c,aB (some ⟨pb,po,none⟩) i cap] 45):
 aW aC 64 #[aB (some ⟨bb,0,none⟩) 2 2] W fun e w'=>(∃g cap,e=aQ (aB (some ⟨g,0,none⟩) n cap)∧w'.ownsRow W.heap.size 47 3 (aB (some ⟨g,0,none⟩) n cap) n (dH (ps.drop i++ps.take i)))∧Below W.heap.size W w':=by
 have c0:=hb.cell 0;have c1:=hb.cell 1;simp only[aL,aI,bM]at c0 c1;have hall:=CW rp;have e:dH ps=dH (ps.take i)++dH (ps.drop i):=by rw[←zH,Vo]
 have hti:(dH (ps.take i)).length=i*3:=by rw[rT,fG];omega
 have:=concatP (some ⟨bb,0,none⟩) 2 2 [⟨pb,po+i*3,n-i,c,dH (ps.drop i)⟩,⟨pb,po,i,cap,dH (ps.take i)⟩] W rfl (by decide) (by
  intro x hx;simp only[sZ,List.not_mem_nil,or_false]at hx;rcases hx with rfl|rfl
  ·exact⟨by show n-i≤10000;omega,by show _=(n-i)*3;rw[rT,jU];omega,zI _⟩
  ·exact⟨by show i≤10000;omega,by show _=i*3;exact hti,zI _⟩)
  (by show 0<0+(n-i)+i;omega) (by
   intro j hj;have hj:j<2:=hj;match j,hj with
   |0,_=>exact⟨bb,0,rfl,c0,fun k u hu=>by
    have:=hall (i*3+k) u (by rw[e,lU (by omega),hti,Nat.add_sub_cancel_left];exact hu);rwa[←Nat.add_assoc]at this⟩
   |1,_=>exact⟨bb,0,rfl,c1,fun k u hu=>hall k u (by
    rw[e,Bb ?_]
    ·exact hu
    ·rcases fK k (dH (ps.take i)).length with h|h
     ·exact h
     ·have hu:(dH (ps.take i))[k]? =some u:=hu;rw[mI h]at hu;cases hu)⟩)
 have e1:mF [⟨pb,po+i*3,n-i,c,dH (ps.drop i)⟩,⟨pb,po,i,cap,dH (ps.take i)⟩] 2=n:=by show 0+(n-i)+i=n;omega
 have e2:AO [⟨pb,po+i*3,n-i,c,dH (ps.drop i)⟩,⟨pb,po,i,cap,dH (ps.take i)⟩]=dH (ps.drop i++ps.take i):=by
  rw[zH];simp[AO]
 rw[e1,e2]at this;exact this
theorem yq(a:Option cT)(c:Nat)(f:aS)(w:aF):aW aC 231 #[aB a 0 c,aD aE 0,aD aE ((0:Nat):Int),f] w fun e w'=>(∃v,e=aQ v)∧Below w.heap.size w w':=by
 go_enter func231,ntmps231;go_wp2;go_loop [8] (fun i=>i=aD aE 1) (fun _=>0);case atStart=>rfl
 case round=>
  obtain rfl:=hrel;go_wp2;go_end0;exact⟨⟨_,rfl⟩,aH _ _⟩
theorem Ux (a b2 la:Option cT) (nf ca c2 n cl:Nat) (fs:List Fr) (at' :List (List UInt8)) (fD:List Lp) (w:aF) (hn:n≤19) (hl:fD.length=n) (kK:∀ l∈fD,0 < l.ps.length∧l.ps.length≤10000∧l.ps.length≤l.cap)
 (hok:∀ l∈fD,∀ p∈l.ps,Kd fs at' p) (rl:E5 w la fD)
 (yn:∀ p q,Kd fs at' p→Kd fs at' q→∀ W,Below w.heap.size w W→aW aC 75 #[cN #[aB a nf ca,aB b2 nf c2],p.v,q.v] W (Rt (aD aE (Db fs at' p q)) W)) :
 aW aC 32 #[cN #[aB a nf ca,aB b2 nf c2],aB la n cl] w fun e w' => (∃ v AS,e=aQ v∧jP w.heap.size w' v AS∧AS.map Lp.ps=NH fs at' (fD.map Lp.ps))∧Below w.heap.size w w' :=by
 have Uy:∀ k,k < n→fD.getD k default∈fD:=fun k hk=> eB (by omega) default;have YZ:∀ k,k < n→∀ i,i < (fD.getD k default).ps.length→Kd fs at' ((fD.getD k default).ps.getD i default):=fun k hk i hi=> hok _ (Uy k hk) _ (eB hi default);have HMin:bH (∀ k,k < n→∀ W,Below w.heap.size w W→aW aC 74 #[aB (fD.getD k default).a (fD.getD k default).ps.length (fD.getD k default).cap, .func (.func 75) #[cN #[aB a nf ca,aB b2 nf c2]] #[]] W (Rt (((fD.getD k default).ps.getD (kM fs at' (fD.getD k default).ps (fD.getD k default).ps.length) default).v) W)):=fun k hk W hW=> by
  obtain⟨h1,h2,h3⟩:=kK _ (Uy k hk);obtain⟨lb,lo, -, -,rp⟩:=(rl.below hW).at (i:=k) (by omega) rfl;exact gh _ _ _ _ fs at' _ W h1 (by omega) rfl rp (fun i j hi hj V hV=> yn _ _ (YZ k hk i hi) (YZ k hk j hj) V (aU hW hV))
 have HIdx:bH (∀ k,k < n→∀ W,Below w.heap.size w W→aW aC 76 #[aB (fD.getD k default).a (fD.getD k default).ps.length (fD.getD k default).cap,((fD.getD k default).ps.getD (kM fs at' (fD.getD k default).ps (fD.getD k default).ps.length) default).v] W (Rt (aD aE (kM fs at' (fD.getD k default).ps (fD.getD k default).ps.length:Nat)) W)):=fun k hk W hW=> by
  obtain⟨h1,h2,h3⟩:=kK _ (Uy k hk);obtain⟨lb,lo, -, -,rp⟩:=(rl.below hW).at (i:=k) (by omega) rfl;exact Uw _ _ _ _ _ W (by omega) rfl rp (vB _ _ _ _ h1) (fun j hj=> minP_ne (YZ k hk) hj h1)
 have HSort:bH (∀ g c W t,Below w.heap.size w W→0 < n→∀ Xx,jP w.heap.size W (aB (some ⟨g,0,none⟩) n c) Xx→Xx.map Lp.ps=(fD.map Lp.ps).map (Fm fs at')→bT W t #[aB a nf ca,aB b2 nf c2] 70→
  aW aC 77 #[aB (some ⟨g,0,none⟩) n c, .func (.func 78) #[] #[bA (some ⟨t,0,none⟩)]] W fun e w' => (∃ v,e=aQ v)∧(∃ AS,jP w.heap.size w' (aB (some ⟨g,0,none⟩) n c) AS∧AS.map Lp.ps=NH fs at' (fD.map Lp.ps))∧Below w.heap.size w w'):=fun g c W t hW PQ Xx ho hm ht=> by
  have hl2:Xx.length=n:=by rw [← cO (f:=Lp.ps),hm,cO,cO];exact hl
  have Fc:∀ l∈Xx,∃ l' ∈fD,l.ps=Fm fs at' l'.ps:=fun l hl=> by
   have:l.ps∈Xx.map Lp.ps:=List.mem_map.2 ⟨l,hl,rfl⟩;rw [hm] at this;obtain⟨ps,wG,e⟩:=List.mem_map.1 this;obtain⟨l',ji,rfl⟩:=List.mem_map.1 wG;exact⟨l',ji,e.symm⟩
  refine(Xv w.heap.size g n c t (aB a nf ca) (aB b2 nf c2) fs at' Xx w W hW (aG _) PQ hn hl2 ho (fun l hl=> ?_) (fun l hl=> ?_) ht yn).mono ?_
  ·obtain⟨l',h1,h2⟩:=Fc l hl;rw [h2,GV];exact(kK l' h1).1
  ·obtain⟨l',h1,h2⟩:=Fc l hl;have hp:0 < l.ps.length:=by rw [h2,GV];exact(kK l' h1).1
   have h3:l.ps.getD 0 default∈l.ps:=eB hp default;rw [h2] at h3 ⊢;exact hok l' h1 _ (yp h3)
  ·rintro e w' ⟨hv,⟨AS,h1,h2⟩,hg⟩;refine⟨hv,⟨AS,h1,by rw [h2,hm];rfl⟩,eP (v:=aB (some ⟨g,0,none⟩) n c) hW hg ho.1 (aG _) hW.size⟩
 have GF:=zq (fun k (hk:k < n)=> kK _ (Uy k hk));have HR:=zq rl;have Hl:=zq hl;clear yn hok kK hl rl Uy YZ;have hq:=bT.new w #[aB a nf ca,aB b2 nf c2] 70;have fA:=(aH w.heap.size w).alloc (aG _) (aJ #[aB a nf ca,aB b2 nf c2] 70);obtain⟨W0,eQ⟩:∃ W,w.alloc (aJ #[aB a nf ca,aB b2 nf c2] 70)=W:=⟨_,rfl⟩;rw [eQ] at hq fA;have HT0:=zq hq;have gY:=zq fA;clear hq fA;go_enter func32,ntmps32;go_upto_if 13 with (fail);try rw [eQ]
 clear eQ;go_loopw [5,12] (fun o i wr=> ∃ k:Nat,i=aD aE (k:Int)∧k≤n∧bH (bT wr w.heap.size #[aB a nf ca,aB b2 nf c2] 70)∧bH (Below w.heap.size w wr)∧bH (∃ Ke,jP w.heap.size wr o Ke∧Ke.map Lp.ps=((fD.map Lp.ps).map (Fm fs at')).take k)) (fun _ i _=> n - (aK i).toNat);case atStart=> exact⟨0,rfl,by omega,HT0,gY, [],⟨World.ownsRow_nil _ _ _ _,fun l h=> by cases h⟩,by simp⟩
 case round=>
  clear HT0 gY;obtain⟨k,rfl,hk,HT,HB,HO⟩:=hrel;by_cases hlt:k < n
  ·have hltI:(k:Int) < n:=by omega
   have hk0:(0:Int)≤(k:Int):=by omega
   obtain⟨lb,lo,rfl,l0,rp⟩:=(HR.out.below HB.out).at (i:=k) (by rw [Hl.out];exact hlt) rfl;obtain⟨q1,q2,q3⟩:=GF.out k hlt;have HMk:=zq (HMin.out k hlt);have HIk:=zq (HIdx.out k hlt);have jt:bH (((fD.map Lp.ps).map (Fm fs at')).take (k + 1)=((fD.map Lp.ps).map (Fm fs at')).take k ++ [Fm fs at' (fD.getD k default).ps]):=by
    show _=_;have hkl:k < fD.length:=by rw [Hl.out];exact hlt
    rw [dU (by rw [cO,cO];exact hkl)];simp [aO,hkl]
   obtain⟨pb,po,Vk, -⟩:=rp.at (i:=0) q1 rfl;have hmi:=vB fs at' (fD.getD k default).ps _ q1;have hrot:Fm fs at' (fD.getD k default).ps=(fD.getD k default).ps.drop (kM fs at' (fD.getD k default).ps (fD.getD k default).ps.length) ++ (fD.getD k default).ps.take (kM fs at' (fD.getD k default).ps (fD.getD k default).ps.length):=rfl;rw [Vk] at l0 rp HMk HIk;generalize (fD.getD k default).cap=lcap at *;clear Vk;generalize (fD.getD k default).ps=ps at *;generalize kM fs at' ps ps.length=mi at *;rw [hrot] at jt;clear hrot;obtain⟨np,hnp⟩:∃ np,ps.length=np:=⟨_,rfl⟩;rw [hnp] at l0 q1 q2 q3 HMk HIk hmi;have Hnp:=zq hnp;clear hnp;have jp:=zq rp;clear rp;obtain⟨PV,hPV⟩:∃ q,ps.getD mi default=q:=⟨_,rfl⟩;rw [hPV] at HMk HIk;clear hPV;unfold Pt.v Pt.cells at HMk HIk;generalize bs PV.fr=VF at *;generalize bs PV.en=VE at *;generalize PV.side=VS at *;obtain⟨t0,t1, -, -,lT⟩:=HT.out.two;go_wp2_with fail
   refine(HMk.out _ HB.out).mono ?_;rintro e W1 ⟨rfl,hb1⟩;obtain⟨W2,Ii⟩:∃ W,W1.alloc (aJ #[aD aE VS,aA VF,aA VE] 47)=W:=⟨_,rfl⟩;have hb2:Below wr.heap.size wr W2:=by rw [← Ii];exact hb1.alloc hb1.size _
   have Xp:=zq hb2;have fR:=zq (aU HB.out hb2);obtain⟨x0,x1,x2,lx⟩:W2.cell? ⟨W1.heap.size,0,none⟩=some (aD aE VS)∧W2.cell? ⟨W1.heap.size,1,none⟩=some (aA VF)∧W2.cell? ⟨W1.heap.size,2,none⟩=some (aA VE)∧W1.heap.size < W2.heap.size:=by
    rw [← Ii];have q:=bT.new W1 #[aD aE VS,aA VF,aA VE] 47;exact⟨q.cell 0,q.cell 1,q.cell 2,q.lt⟩
   clear hb1 hb2 t0 t1 lT l0;go_wp2_with fail
   try rw [Ii]
   refine(HIk.out _ fR.out).mono ?_;rintro e W3 ⟨rfl,hb3⟩;have vR:=zq (aU Xp.out hb3);have HB3:=zq (aU fR.out hb3);clear hb3 x0 x1 x2 lx Ii Xp fR;have f0:(0:Int)≤(mi:Int):=by omega
   have f1:(mi:Int)≤np:=by omega
   have f2:(np:Int)≤lcap:=by omega
   have f3:(mi:Int)≤lcap:=by omega
   have hcf:¬ lcap=mi:=by omega
   go_wp2;obtain⟨Ke,Rs,hom⟩:=HO.out;obtain⟨oa,oc,hov⟩:=Dw Rs.1;have hlk:Ke.length=k:=by rw [← cO (f:=Lp.ps),hom,fG,cO,cO,Hl.out];omega
   rw [hlk] at hov;subst hov;have Hlk:=zq hlk;clear hlk;have HOl3:=zq (Rs.below vR.out);have Hom:=zq hom;have Ty:=zq (HT.out.below vR.out HT.out.lt);have HRp3:=zq (jp.out.below vR.out);clear Rs hom HO HT HB vR jp HMk HIk;refine wp_region_held_drew (S:=(fun _=> True)) (by kernel_rfl) trivial (fun rR=> ?_);obtain⟨Wd,hWd⟩:∃ V,W3.drew=V:=⟨_,rfl⟩;have hbd:Below W3.heap.size W3 Wd:=by rw [← hWd];exact(aH _ _).drew
   rw [hWd];have HOd:=zq (HOl3.out.below hbd);have HTd:=zq (Ty.out.below hbd Ty.out.lt);have HRd:=zq (HRp3.out.below hbd);have HBd:=zq (aU HB3.out hbd);clear hbd hWd HOl3 Ty HRp3 HB3 rR;refine tH 0 rfl ?_ (hS:=trivial);try simp only [dK,bD,aY,aZ,aM,aV,bC]
   refine tH 1 rfl ?_ (hS:=trivial);try simp only [dK,bD,aY,aZ,aM,aV,bC]
   refine tH 2 rfl ?_ (hS:=trivial);try simp only [dK,bD,aY,aZ,aM,aV,bC]
   refine tH 3 rfl ?_ (hS:=trivial);try simp only [dK,bD,aY,aZ,aM,aV,bC]
   refine tH 4 rfl ?_ (hS:=trivial);try simp only [dK,bD,aY,aZ,aM,aV,bC]
   refine tH 5 rfl ?_ (hS:=trivial);try simp only [dK,bD,aY,aZ,aM,aV,bC]
   refine tH 6 rfl ?_ (hS:=trivial);try simp only [dK,bD,aY,aZ,aM,aV,bC]
   refine pU (rs:= [7]) (by kernel_rfl) (by simp) ?_;refine iX rfl (fun K hK=> ?_) jR;go_simp;show K _ _;obtain⟨V1,hV1⟩:∃ V,Wd.alloc (aJ #[aB (some ⟨pb,po + mi * 3,none⟩) (np - mi) (lcap - mi),aB (some ⟨pb,po,none⟩) mi lcap] 45)=V:=⟨_,rfl⟩;rw [hV1];have hb1:Below Wd.heap.size Wd V1:=by rw [← hV1];exact(aH _ _).alloc (aG _) _
   have hbk:bT V1 Wd.heap.size #[aB (some ⟨pb,po + mi * 3,none⟩) (np - mi) (lcap - mi),aB (some ⟨pb,po,none⟩) mi lcap] 45:=by rw [← hV1];exact bT.new _ _ _
   have J5:=zq (Xw pb po np mi lcap (lcap - mi) Wd.heap.size ps V1 Hnp.out q2 q1 (by omega) (HRd.out.below hb1) hbk);have Nq:=zq (HOd.out.below hb1);have HT1:=zq (HTd.out.below hb1 HTd.out.lt);have eW:=zq (aU HBd.out hb1);clear hb1 hbk hV1 HOd HTd HBd HRd;refine hK.out _ _ trivial (fun rR=> ?_);clear hK K;try simp only [dK,bD,aY,aZ,aM,aV,bC]
   refine pU (rs:= [8]) (by kernel_rfl) (by simp) ?_;refine iX rfl (fun K hK=> ?_) jR;go_simp;go_at_call 64;refine J5.out.mono ?_;rintro e V2 ⟨⟨rg,rc,rfl,hown⟩,hb2⟩;have HOw:=zq (mZ hown eW.out.size);have IF:=zq (Nq.out.below hb2);have Vh:=zq (HT1.out.below hb2 HT1.out.lt);have fR:=zq (aU eW.out hb2);clear hown hb2 Nq HT1 eW J5;show K _ _;refine hK.out _ _ trivial (fun rR=> ?_);clear hK K;try simp only [dK,bD,aY,aZ,aM,aV,bC]
   refine pU (rs:= [9]) (by kernel_rfl) (by simp) ?_;refine iX rfl (fun K hK=> ?_) jR;go_simp;show K _ _;obtain⟨V3,hV3⟩:∃ V,V2.alloc (aJ #[aB (some ⟨rg,0,none⟩) np rc] 45)=V:=⟨_,rfl⟩;rw [hV3];have hb3:Below V2.heap.size V2 V3:=by rw [← hV3];exact(aH _ _).alloc (aG _) _
   have HNb:bH (bT V3 V2.heap.size #[aB (some ⟨rg,0,none⟩) np rc] 45):=by rw [← hV3];exact bT.new _ _ _
   have HOw3:=zq (dI HOw.out hb3);have Vm:=zq (IF.out.below hb3);have Ty:=zq (Vh.out.below hb3 Vh.out.lt);have HB3:=zq (aU fR.out hb3);clear hb3 hV3 HOw IF Vh fR;refine hK.out _ _ trivial (fun rR=> ?_);clear hK K;try simp only [dK,bD,aY,aZ,aM,aV,bC]
   refine pU (rs:= [10]) (by kernel_rfl) (by simp) ?_;refine iX rfl (fun K hK=> ?_) jR;refine gk (by rfl) _ _ (by rfl) w.heap.size (aB oa k oc) k (Ke.map Lp.v) (by rfl) (by have:=Vm.out.1;rwa [Hlk.out] at this) V2.heap.size (some ⟨rg,0,none⟩) np rc (by rfl) HNb.out (by omega) HB3.out.size ?_;intro gx WH V4 hown Kt FD;have hlrow:V3.ownsRow w.heap.size 47 3 (Lp.v ⟨some ⟨rg,0,none⟩,rc,ps.drop mi ++ ps.take mi⟩) (ps.drop mi ++ ps.take mi).length (dH (ps.drop mi ++ ps.take mi)):=by
    have e:(ps.drop mi ++ ps.take mi).length=np:=by rw [cP,jU,fG,Hnp.out];omega
    unfold Lp.v;rw [e];exact HOw3.out
   have oR:V4.ownsRow w.heap.size 45 1 (aB (some ⟨gx,0,none⟩) (k + 1) WH) (k + 1) (Ke.map Lp.v ++ [Lp.v ⟨some ⟨rg,0,none⟩,rc,ps.drop mi ++ ps.take mi⟩]):=by
    have e:(ps.drop mi ++ ps.take mi).length=np:=by rw [cP,jU,fG,Hnp.out];omega
    unfold Lp.v at hown ⊢;rw [e];exact hown
   have ho4:=Vm.out.grow (g:=gx) (cap:=WH) hlrow Kt (by rw [Hlk.out];exact oR);rw [Hlk.out] at ho4;have HO4:=zq ho4;clear ho4;have HT4:=zq (nE Ty.out Kt (kC Ty.out Vm.out.1 (by decide)));have zG:=zq (eP HB3.out Kt Vm.out.1 (aG _) HB3.out.size);clear hown oR hlrow Kt FD Vm Ty HB3 HNb HOw3;show K _ _;refine hK.out _ _ trivial (fun rR=> ?_);clear hK K;try simp only [dK,bD,aY,aZ,aM,aV,bC]
   refine tH 11 rfl ?_ (hS:=trivial);try simp only [dK,bD,aY,aZ,aM,aV,bC]
   refine wpAnyH_done (by kernel_rfl) ?_ _;go_wp2;go_roundw;case rel=>
    refine⟨k + 1,by go_num,by omega,HT4.out,zG.out,_,HO4.out, ?_⟩;rw [jt.out,tW,Hom.out];rfl
   case measure=> simp only [aK];omega
  ·obtain rfl:k=n:=by omega
   clear HMin HIdx HR GF;obtain⟨Ke,Rs,hom⟩:=HO.out;obtain⟨oa,oc,hov⟩:=Dw Rs.1;have hlk:Ke.length=k:=by rw [← cO (f:=Lp.ps),hom,fG,cO,cO,Hl.out];omega
   rw [hlk] at hov;subst hov;have hom2:Ke.map Lp.ps=(fD.map Lp.ps).map (Fm fs at'):=by rw [hom,fM (by rw [cO,cO,Hl.out];exact aG _)]
   have HOl:=zq Rs;have Hom:=zq hom2;have Hlk:=zq hlk;clear Rs hom hom2 hlk HO;have HPost:bH (aW aC 77 #[aB oa k oc, .func (.func 78) #[] #[bA (some ⟨w.heap.size,0,none⟩)]] wr fun e w' => (∃ v,e=aQ v)∧(∃ AS,jP w.heap.size w' (aB oa k oc) AS∧AS.map Lp.ps=NH fs at' (fD.map Lp.ps))∧Below w.heap.size w w'):=by
    rcases fF k with h0 | h0
    ·subst h0;have hn:Ke= []:=List.length_eq_zero_iff.1 Hlk.out;have SK:fD= []:=List.length_eq_zero_iff.1 Hl.out;refine(Uv oa 0 oc _ (by decide) wr (fun w' => Below wr.heap.size wr w') (yq _ _ _ wr)).mono ?_;rintro e w' ⟨hv,hb⟩;refine⟨hv,⟨Ke,HOl.out.below hb, ?_⟩,aU HB.out hb⟩;subst hn;subst SK;rfl
    ·have h1:=HOl.out.1;rw [Hlk.out] at h1;obtain⟨gg,cc,e1⟩:=xE h0 h1;injection e1 with e1 e2 e3;subst e1;exact HSort.out gg oc wr w.heap.size HB.out h0 Ke HOl.out Hom.out HT.out
   clear HSort HOl Hom Hlk;go_wp2_with fail
   refine HPost.out.mono ?_;rintro e W1 ⟨⟨v,rfl⟩,⟨AS,h1,h2⟩,hb1⟩;have H1:=zq h1;have H2:=zq h2;have eW:=zq hb1;clear h1 h2 hb1 HPost;go_wp2;go_ret;exact⟨⟨_,AS,rfl,H1.out,H2.out⟩,eW.out⟩
end
section
open Go Go.RowKit Go.Lib
theorem MC(f:Nat→List Sd):∀(N i:Nat),i<dA f N→∃r k,r<N∧k<(f r).length∧i=dA f r+k
 |0,i,h=>by simp[dA]at h
 |N+1,i,h=>by
  rw[dA]at h
  by_cases h1:i<dA f N
  ·obtain⟨r,k,h2,h3,h4⟩:=MC f N i h1
   exact⟨r,k,by omega,h3,h4⟩
  ·exact⟨N,i-dA f N,by omega,by omega,by omega⟩
theorem QI{f:Nat→List Sd}{r k:Nat}:∀{N:Nat},r<N→k<(f r).length→dA f r+k<dA f N:=fun{N}hr hk=>by
 have:dA f (r+1)≤dA f N:=qU hr
 rw[dA]at this
 omega
theorem Fo{α:Type}{l m:List α}{i:Nat}(h:i<l.length)(d:α):(l++m).getD i d=l.getD i d:=by
 simp[aO,Bb h]
theorem Fp{α:Type}{l m:List α}{i n:Nat}(h:l.length=n)(d:α):(l++m).getD (n+i) d=m.getD i d:=by
 subst h;simp[aO,lU]
theorem DB(f:Nat→List Sd):∀(N:Nat) {r k:Nat},r<N→k<(f r).length→(oM f N).getD (dA f r+k) default=YX ((f r).getD k default) (jG (f r) k)
 |N+1,r,k,hr,hk=>by
  rw[oM]
  by_cases h:r<N
  ·rw[Fo (by rw[zJ];exact QI h hk)]
   exact DB f N h hk
  ·obtain rfl:r=N:=by omega
   rw[Fp (zJ f r)]
   unfold YY
   simp[aO,hk]
theorem OZ{rs:List Rg}{r k:Nat}(hr:r<rs.length)(hk:k<(bQ rs r).length):(eK rs).getD (dA (bQ rs) r+k) default=(bQ rs r).getD k default:=by
 have h1:rs=rs.take r++rs[r]::rs.drop (r+1):=by rw[List.getElem_cons_drop,Vo]
 have h2:dA (bQ rs) r=(eK (rs.take r)).length:=by
  have:∀k,k≤r→dA (bQ rs) k=dA (bQ (rs.take r)) k:=by
   intro k;induction k with
   |zero=>intro _;rfl
   |succ k ih=>
    intro hk;rw[dA,dA,ih (by omega)];congr 2;unfold bQ;simp[aO,iz,show k<r by omega]
  rw[this r (aG _)];have h3:(rs.take r).length=r:=by rw[fG];omega
  have:=AP (rs:=rs.take r);rw[h3]at this;exact this
 have e:bQ rs r=rs[r].ss:=by unfold bQ;simp[aO,hr]
 have h4:eK rs=eK (rs.take r)++(rs[r].ss++eK (rs.drop (r+1))):=by
  conv=>lhs;rw[h1]
  unfold eK;rw[List.flatMap_append,List.flatMap_cons]
 rw[h4,Fp h2.symm,e,Fo (by rw[←e];exact hk)]
def yr(ss:List Sd)(fs:List Fr)(C n k:Nat):Pt:=⟨(C+k:Nat),bJ ((DV ss fs (C+k) (C+k):Int):Rat),bJ ((DV ss fs (C+k) (C+(k+1)%n):Int):Rat)⟩
def xT(ss:List Sd)(fs:List Fr)(C n m:Nat):List Pt:=(vN m).map (yr ss fs C n)
def wA(f:Nat→List Sd)(ss:List Sd)(fs:List Fr):Nat→List (List Pt)
 |0=>[]
 |r+1=>wA f ss fs r++[xT ss fs (dA f r) (f r).length (f r).length]
def tU(fs:List Fr):List (List UInt8):=fs.map fun g=>bJ ((g.co:Int):Rat)
theorem gn(ss:List Sd)(fs:List Fr)(C n m:Nat):xT ss fs C n (m+1)=xT ss fs C n m++[yr ss fs C n m]:=by unfold xT;rw[List.range_succ,tW];rfl
theorem AU(ss:List Sd)(fs:List Fr)(C n m:Nat):(xT ss fs C n m).length=m:=by simp[xT]
theorem O4(f:Nat→List Sd)(ss:List Sd)(fs:List Fr):∀r,(wA f ss fs r).length=r
 |0=>rfl
 |r+1=>by rw[wA,cP,O4 f ss fs r];rfl
theorem DC{f:Nat→List Sd}{ss:List Sd}{fs:List Fr}{l:List Pt}:∀{N:Nat},l∈wA f ss fs N→∃r,r<N∧l=xT ss fs (dA f r) (f r).length (f r).length
 |N+1,h=>by
  rcases List.mem_append.1 h with h|h
  ·obtain⟨r,hr,e⟩:=DC h;exact⟨r,by omega,e⟩
  ·exact⟨N,Nat.lt_succ_self _,List.mem_singleton.1 h⟩
theorem yt{z:Int}(h:z.natAbs<10^18):Nm (bJ (z:Rat)):=⟨_,(HQ.int h (by decide)).mono (by decide),rfl⟩
theorem yu{ss:List Sd}{fs:List Fr}(hC:FE ss)(i j:Nat):0≤DV ss fs i j∧DV ss fs i j≤65536:=by
 have:=hC j;unfold DV;split <;>omega
theorem yw{s t:Sd}(h:0≤s.x∧s.x≤65536∧0≤s.y∧s.y≤65536):0≤(YX s t).co∧(YX s t).co≤65536:=by
 unfold YX;simp only;split <;>omega
theorem beg_ok{f:Nat→List Sd}{N:Nat}{ss:List Sd}(hC:FE ss)(hf:∀r,FE (f r)){r k:Nat}(hr:r<N)(hk:k<(f r).length):Kd (oM f N) (tU (oM f N)) (yr ss (oM f N) (dA f r) (f r).length k):=by
 have hlt:=QI hr hk;have hn:∀i,Nm (bJ ((DV ss (oM f N) (dA f r+k) i:Int):Rat)):=fun i=>yt (by have:=yu (fs:=oM f N) hC (dA f r+k) i;omega);have ha:Nm ((tU (oM f N)).getD (dA f r+k) []):=by
  have e:(tU (oM f N)).getD (dA f r+k) []=bJ ((((oM f N).getD (dA f r+k) default).co:Int):Rat):=by
   unfold tU;simp[aO,eO (show dA f r+k<(oM f N).length by rw[zJ];exact hlt)]
  rw[e,DB f N hr hk];exact yt (by have:=yw (t:=jG (f r) k) (hf r k);omega)
 have ht:(yr ss (oM f N) (dA f r) (f r).length k).side.toNat=dA f r+k:=rfl;refine⟨⟨dA f r+k,rfl,by rw[zJ];exact hlt⟩,?_,?_,hn _⟩
 ·unfold dV;rw[ht];split
  ·exact ha
  ·exact hn _
 ·unfold dV;rw[ht];split
  ·exact hn _
  ·exact ha
theorem Uz(s t:Sd):oY (YX s t)=(OR s t:Nat):=by
 have h:=(xf s t).2;unfold oY YX;simp only;generalize OR s t=h4 at *;obtain rfl|rfl|rfl|rfl:h4=0∨h4=1∨h4=2∨h4=3:=by omega
 all_goals rfl
theorem Y5(a b:Int)(h:uZ a*uZ b=0):a*b=0:=by
 rcases vA a with⟨e,h1⟩|⟨e,h1⟩|⟨e,h1⟩<;>rcases vA b with⟨e2,h2⟩|⟨e2,h2⟩|⟨e2,h2⟩<;>rw[e,e2]at h<;>first |(exfalso;revert h;decide)|(rw[h1,D6])|(rw[h2,Int.mul_zero])
theorem gp{l:List Sd}{k:Nat}(hk:k<l.length)(hs:uO l=true):
 ((OR (l.getD k default) (jG l k):Int)-(OR (l.getD (pre l.length k) default) (l.getD k default):Nat)+4).tmod 4=if DS (l.getD (pre l.length k) default) (l.getD k default) (jG l k)=true then 1 else 3:=by
 unfold uO at hs
 simp only[bK,iH]at hs
 have b:=dC.1 hs.1 _ (zV hk)
 have c:=dC.1 hs.1 _ hk
 unfold xS at b c
 simp only[dO,jb,decide_eq_true_eq,decide_eq_false_iff_not]at b c
 have b1:=b.1
 have c1:=c.1
 have h:=c.2
 unfold Vn at h
 unfold FG dY at b1 c1 h
 rw[AK hk]at b1 h
 unfold DS OR
 simp only[decide_eq_true_iff]
 generalize hp:(l.getD k default).x-(l.getD (pre l.length k) default).x=p at *
 generalize hq:(l.getD k default).y-(l.getD (pre l.length k) default).y=q at *
 generalize hc:(jG l k).x-(l.getD k default).x=c at *
 generalize hd:(jG l k).y-(l.getD k default).y=d at *
 generalize(l.getD k default).x=x1 at *
 generalize(l.getD k default).y=y1 at *
 generalize(l.getD (pre l.length k) default).x=x0 at *
 generalize(l.getD (pre l.length k) default).y=y0 at *
 generalize(jG l k).x=x2 at *
 generalize(jG l k).y=y2 at *
 have m1:=QB p d
 have m2:=QB q c
 have z1:=Y5 p d
 have z2:=Y5 q c
 rcases vA p with⟨e,h1⟩|⟨e,h1⟩|⟨e,h1⟩<;>rcases vA q with⟨e2,h2⟩|⟨e2,h2⟩|⟨e2,h2⟩<;>rw[e,e2]at b1 h<;>first |(exfalso;revert b1;decide)|skip
 all_goals
  rcases vA c with⟨e3,h3⟩|⟨e3,h3⟩|⟨e3,h3⟩<;>rcases vA d with⟨e4,h4⟩|⟨e4,h4⟩|⟨e4,h4⟩<;>rw[e3,e4]at c1 h<;>first |(exfalso;revert c1;decide)|(exfalso;revert h;decide)|skip
 all_goals
  rw[e,e4]at m1 z1
  rw[e2,e3]at m2 z2
  clear b1 c1 h e e2 e3 e4 hs b
  generalize p*d=P at *
  generalize q*c=Q at *
  repeat' split
  all_goals first |(exfalso;omega)|rfl|decide
theorem Xy{B B':Nat}{W:aF}{v:aS}{fD:List Lp}(h:jP B W v fD)(hb:B'≤B):jP B' W v fD:=⟨mZ h.1 hb,fun l hl=>mZ (h.2 l hl) hb⟩
theorem yx (a:Option cT) (N cap:Nat) (rs:List Rg) (w:aF) (hl:rs.length=N) (hN:N≤1000) (hn:∀ r,(bQ rs r).length≤1000) (rr:GL w a rs) (h0:qQ (bQ rs) N=0) (hE:iM w) (hD:Qy w) :
 aW aC 9 #[cN #[aB a N cap]] w fun e w' => (∃ v fD,e=aQ (cC #[v,aD aE 0])∧jP w.heap.size w' v fD∧fD.map Lp.ps=NH (oM (bQ rs) N) (tU (oM (bQ rs) N)) (wA (bQ rs) (eK rs) (oM (bQ rs) N) N))∧Below w.heap.size w w' :=by
 obtain⟨c0,c1,c2,c3,c4, -⟩:=wW h0;have hC:∀ r,FE (bQ rs r):=GO (fun r hr=> Dx (by omega)) c3;have hp:∀ r,r < N→4≤(bQ rs r).length:=fun r hr=> by
  have:=dC.1 c4 r hr;unfold Fj at this;simp only [jb] at this;unfold uO at this;simp only [bK,decide_eq_true_eq] at this;exact this.2
 have hNk:∀ k,k≤N→4 * k≤dA (bQ rs) k:=by
  intro k;induction k with
  | zero=> intro _;simp [dA]
  | succ k ih=> intro hk;rw [dA];have:=ih (by omega);have:=hp k (by omega);omega
 have hN6:=hNk N (aG _);have Fc:∀ r∈rs,r.ss.length≤1000∧0 < r.ss.length:=fun r hr=> by
  obtain⟨i,hi,rfl⟩:=eU hr;have e:bQ rs i=rs[i].ss:=by unfold bQ;simp [aO,hi]
  rw [← e];exact⟨hn i,by have:=hp i (by omega);omega⟩
 have hck:∀ W,Below w.heap.size w W→aW aC 48 #[cN #[aB a N cap]] W (Rt (aD aE 0) W):=fun W hW=> I9 a N cap rs W hl hN hn (rr.below hW) h0;have HFA:=zq (fun W (hW:Below w.heap.size w W)=> xp a N cap rs W hl hN hn (rr.below hW) h0 (hE.below hW) (hD.below hW) fun V hV=> hck V (aU hW hV));have Wg:=zq (fun W (hW:Below w.heap.size w W)=> xq a N cap rs W hl hN (by omega) Fc (rr.below hW) fun V hV=> hck V (aU hW hV));have Fy:dA (bQ rs) N=(eK rs).length:=by rw [← hl];exact AP
 rw [← Fy] at Wg;have hIC:FE (eK rs):=fun i=> by
  rcases fK i (eK rs).length with h | h
  ·obtain⟨r,k,h1,h2,rfl⟩:=MC (bQ rs) N i (by omega);rw [OZ (by omega) h2];exact hC r k
  ·rw [aO,mI h];exact⟨by decide,by decide,by decide,by decide⟩
 have hco:∀ i,i < dA (bQ rs) N→0≤((oM (bQ rs) N).getD i default).co∧((oM (bQ rs) N).getD i default).co≤65536:=fun i hi=> by
  obtain⟨r,k,h1,h2,rfl⟩:=MC (bQ rs) N i hi;rw [DB _ _ h1 h2];exact yw (hC r k)
 have NC:=zJ (bQ rs) N;have HOf:=zq (fun i (hi:i < dA (bQ rs) N) W (hW:Below w.heap.size w W)=> Gu ((oM (bQ rs) N).getD i default).co W (hE.below hW) (by have:=hco i hi;omega));have eW:=zq (fun i j (hi:i < dA (bQ rs) N) (hj:j < dA (bQ rs) N) (SB FB:Nat) (sa fa:Option cT) (ca cb:Nat) W (hW:Below w.heap.size w W) cs cf r1 r2=> ez SB FB sa fa (dA (bQ rs) N) (dA (bQ rs) N) ca cb i j (eK rs) (oM (bQ rs) N) W (hE.below hW) Fy.symm NC hi hj (by omega) (by omega) cs cf r1 r2 hIC);have HAr:=zq (fun (a2 b2 la:Option cT) (ca c2 cl:Nat) (fD:List Lp) W (hW:Below w.heap.size w W) (hll:fD.length=N) (wG:fD.map Lp.ps=wA (bQ rs) (eK rs) (oM (bQ rs) N) N) (Ql:∀ l∈fD,l.ps.length≤l.cap) (rl:E5 W la fD) (rf:zR W a2 (oM (bQ rs) N)) (ra:Ek W b2 (tU (oM (bQ rs) N)))=>
  Ux a2 b2 la (dA (bQ rs) N) ca c2 N cl (oM (bQ rs) N) (tU (oM (bQ rs) N)) fD W (by omega) hll (fun l hl=> by
   have hm:l.ps∈wA (bQ rs) (eK rs) (oM (bQ rs) N) N:=by rw [← wG];exact Fx hl
   obtain⟨r,hr,e⟩:=DC hm;have:=hp r hr;have:=hn r;have hc:=Ql l hl;rw [e,AU] at hc ⊢;exact⟨by omega,by omega,hc⟩) (fun l hl p hpm=> by
   have hm:l.ps∈wA (bQ rs) (eK rs) (oM (bQ rs) N) N:=by rw [← wG];exact Fx hl
   obtain⟨r,hr,e⟩:=DC hm;rw [e] at hpm;obtain⟨k,hk,rfl⟩:=List.mem_map.1 hpm;exact beg_ok hIC hC hr (List.mem_range.1 hk)) rl (fun p q hpo hqo V hV=> by
   obtain⟨⟨s,hs,Zx⟩,px,py,pe⟩:=hpo;obtain⟨⟨t,ht,htl⟩,qx,qy,qe⟩:=hqo;rw [NC] at Zx htl;exact fg a2 b2 (dA (bQ rs) N) ca c2 (oM (bQ rs) N) (tU (oM (bQ rs) N)) p q s t V (hE.below (aU hW hV)) hs Zx ht htl NC (by unfold tU;rw [cO,NC]) (rf.below hV) (ra.below hV) (Dz px) (Dz py) (Dz qx) (Dz qy) (Dz pe) (Dz qe)))
 have HR:=zq rr;have HL:=zq hl;have HN:=zq hn;have HP:=zq hp;have HAt:bH (∀ i,i < dA (bQ rs) N→(tU (oM (bQ rs) N)).take (i + 1)=(tU (oM (bQ rs) N)).take i ++ [bJ ((((oM (bQ rs) N).getD i default).co:Int):Rat)]):=fun i hi=> by
  unfold tU;rw [dU (by rw [cO,NC];exact hi)];simp [aO,NC,hi]
 have HAl:bH ((tU (oM (bQ rs) N)).length=dA (bQ rs) N):=by show _=_;unfold tU;rw [cO,NC]
 have HEC:bH (∀ r,dA (bQ rs) (r + 1)=dA (bQ rs) r + (bQ rs r).length):=fun r=> rfl;have HEL:bH (∀ r,wA (bQ rs) (eK rs) (oM (bQ rs) N) (r + 1)=wA (bQ rs) (eK rs) (oM (bQ rs) N) r ++ [xT (eK rs) (oM (bQ rs) N) (dA (bQ rs) r) (bQ rs r).length (bQ rs r).length]):=fun r=> rfl;have HE0:bH (wA (bQ rs) (eK rs) (oM (bQ rs) N) 0= []):=rfl;have J5:bH (∀ k,k≤N→dA (bQ rs) k≤dA (bQ rs) N):=fun k hk=> qU hk;have HFl:=zq NC;clear hl rr h0 hE hD c0 c1 c3 c4 hC hp hNk Fc hck Fy hIC hco hn NC;generalize wA (bQ rs) (eK rs) (oM (bQ rs) N)=LS at *;generalize tU (oM (bQ rs) N)=AT at *;have HNL:=zq hN6;clear hN6;generalize oM (bQ rs) N=FS at *;generalize eK rs=SS at *;obtain⟨M,hM⟩:=nm (dA (bQ rs) N);rw [hM] at HFA Wg HOf eW HAr HAt HAl J5 HFl HNL c2;have HM:=zq hM;clear hM;have fA:=(aH _ w).alloc (aG _) (aJ #[aB a N cap] 24);have rG:=bT.new w #[aB a N cap] 24;obtain⟨W0,eQ⟩:=nm (w.alloc (aJ #[aB a N cap] 24));rw [eQ] at fA rG;have gY:=zq fA;have tD:=zq rG;have b0:=rG.cell 0;simp only [aL,aI] at b0;have HW:=zq eQ;have H1:=zq (HFA.out _ fA);clear fA rG eQ HFA;refine dE func9 rfl ?_;simp only [ntmps9,bW,bF,bY,cW,cX,bR,bS,cD,bU,cL,bZ];go_upto_region 1 with (fail)
 rw [HW.out];clear HW;go_wp2_with fail
 refine H1.out.mono ?_;rintro e W1 ⟨⟨v1,rfl,yF⟩,hb⟩;obtain⟨fa,fc,rfl⟩:=Fk yF;have HB1' :=zq (aU gY.out hb);have BC:=zq (tD.out.below hb tD.out.lt);have HF1:=zq (zR.own yF);have b0:=cF hb b0;clear hb yF H1 tD gY;obtain⟨W2,Ii⟩:=nm (W1.alloc (aJ #[aB fa M fc] 25));have hb2:=(aH _ W1).alloc (aG _) (aJ #[aB fa M fc] 25);have Ic:=bT.new W1 #[aB fa M fc] 25;rw [Ii] at hb2 Ic;have fR:=zq (aU HB1'.out hb2);have Oy:=zq (HF1.out.below hb2);have DO:=zq Ic;have HQp:=zq (BC.out.below hb2 BC.out.lt);have Wi:=zq Ii;have H1:=zq (Wg.out _ fR.out);clear hb2 Ic Ii Wg b0;go_upto_region 2 with (fail)
 rw [Wi.out];clear Wi;have b0:=HQp.out.cell 0;simp only [aL,aI] at b0;go_wp2_with fail
 refine H1.out.mono ?_;rintro e W3 ⟨⟨sg,sc,rfl,pv⟩,hb⟩;have HB3:=zq (aU fR.out hb);have Tt:=zq (Oy.out.below hb);have HQ23:=zq (DO.out.below hb DO.out.lt);have HQp3:=zq (HQp.out.below hb HQp.out.lt);have HS3:=zq pv;clear hb pv fR Oy DO HQp H1 b0;obtain⟨W4,hW4⟩:=nm (W3.alloc (aJ #[aB (some ⟨sg,0,none⟩) M sc] 52));have hb4:=(aH _ W3).alloc (aG _) (aJ #[aB (some ⟨sg,0,none⟩) M sc] 52);have hq4:=bT.new W3 #[aB (some ⟨sg,0,none⟩) M sc] 52;rw [hW4] at hb4 hq4;have zG:=zq (aU HB3.out hb4);have WD:=zq (Tt.out.below hb4);have HS4:=zq (HS3.out.below hb4);have Xz:=zq (HQ23.out.below hb4 HQ23.out.lt);have HQp4:=zq (HQp3.out.below hb4 HQp3.out.lt);have HQ44:=zq hq4;have HW4:=zq hW4;clear hb4 hq4 hW4 HB3 Tt HQ23 HQp3 HS3;go_upto_region 5 with (fail)
 rw [HW4.out];clear HW4;obtain⟨P4,hP4⟩:=nm W1.heap.size;obtain⟨P6,hP6⟩:=nm W3.heap.size;obtain⟨P1,hP1⟩:=nm w.heap.size;rw [hP4] at Xz;rw [hP6] at HQ44;rw [hP1] at HQp4;first | rw [hP4,hP6,hP1] | skip
 clear hP4 hP6 hP1;obtain⟨W5,SU⟩:=nm (W4.alloc (aJ #[aB fa M fc,aB none 0 0] 70));have hb5:=(aH _ W4).alloc (aG _) (aJ #[aB fa M fc,aB none 0 0] 70);have hq5:=bT.new W4 #[aB fa M fc,aB none 0 0] 70;rw [SU] at hb5 hq5;have yI:=zq hb5;have JG:=zq hq5;have HW5:=zq SU;clear hb5 hq5 SU;have c4:=Xz.out.cell 0;simp only [aL,aI] at c4;go_upto_region 8 with (fail)
 rw [HW5.out];clear HW5;obtain⟨G,hG⟩:=nm W4.heap.size;have HG:bH (W4.heap.size=G):=hG;rw [hG] at JG;first | rw [hG] | skip
 clear hG;have c5:=(Xz.out.below yI.out Xz.out.lt).cell 0;simp only [aL,aI] at c5;have O0:bH (W5.ownsRow (G + 1) 27 1 (aB none 0 0) 0 (jS (AT.take 0))):=⟨by simp [jS], .inl ⟨rfl,rfl⟩⟩;go_wp2;go_loopw [38] (fun i wr=> ∃ (j:Nat) (v:aS),i=aD aE j∧j≤M∧bH (Below W4.heap.size W4 wr)∧bH (bT wr G #[aB fa M fc,v] 70)∧bH (wr.ownsRow (G + 1) 27 1 v j (jS (AT.take j)))) (fun i _=> M - (aK i).toNat);case atStart=> exact⟨0,_,rfl,bN _,yI.out,JG.out,O0.out⟩
 case round=>
  clear O0 JG yI c5 c4;obtain⟨j,v,rfl,hj,HB,QT,qO⟩:=hrel;rename aF=> wr;by_cases hlt:j < M
  ·obtain⟨b1,off,rfl,f0,f1,f2,f3,f4⟩:=(WD.out.below HB.out).at (i:=j) (by rw [HFl.out];exact hlt) rfl;have HOj:=zq (HOf.out j hlt);have HTj:=zq (HAt.out j hlt);have hjI:(j:Int) < M:=by omega
   generalize FS.getD j default=f at *;obtain⟨Aw,CM,pA,LK,Rx⟩:=f;simp only [] at f0 f1 f2 f3 f4 HOj HTj;generalize bJ ((CM:Int):Rat)=Y at *;generalize bs LK=FSP at *;generalize bs Rx=FST at *;obtain⟨wf,hwf⟩:=nm (wr.alloc (aJ #[aN Aw,aD aE CM,aD aE pA,aA FSP,aA FST] 44));have yn:=(aH _ wr).alloc (aG _) (aJ #[aN Aw,aD aE CM,aD aE pA,aA FSP,aA FST] 44);have hqf:=bT.new wr #[aN Aw,aD aE CM,aD aE pA,aA FSP,aA FST] 44;rw [hwf] at yn hqf;have HBf:=zq (aU HB.out yn);have HQf:=zq (QT.out.below yn QT.out.lt);have HOw:=zq (dI qO.out yn);have q1:=hqf.cell 1;simp only [aL,bM,aI] at q1;have HWf:=zq hwf;clear yn hqf hwf HB QT qO;go_upto_region 11 with (fail)
   rw [HWf.out];clear HWf f0 f1 f2 f3 f4;have H1:=zq (HOj.out _ (aU zG.out HBf.out));clear HOj;go_wp2_with fail
   refine H1.out.mono ?_;rintro e w2 ⟨rfl,hb⟩;have vR:=zq (aU HBf.out hb);have QT:=zq (HQf.out.below hb HQf.out.lt);have nC:=dI HOw.out hb;have Ru:G + 1≤w2.heap.size:=QT.out.lt;obtain⟨t0,t1,tf0,tf1,tl⟩:=QT.out.two;have hGl:W4.heap.size≤G:=Aa HG.out;clear HBf HOw H1 hb q1 HQf;go_wp2_with (at_builtin;refine Ys rfl _ _ rfl (G + 1) v j _ rfl nC _ rfl (by omega) Ru ?_;intro g1 Ni w1 Gn hg1 tJ;have hqg:=zq (QT.out.grown tJ (wF nC (by omega)));obtain⟨t0,t1,tf0,tf1,tl⟩:=hqg.out.two)
   have fR:=zq ((eP vR.out tJ nC (by omega) vR.out.size).setCell (p:=⟨G,1,none⟩) hGl (aB (some ⟨g1,0,none⟩) (j + 1) Ni));have QT2:=zq (hqg.out.set 1 (aB (some ⟨g1,0,none⟩) (j + 1) Ni));rw [← gl,← HTj.out] at Gn;have sj:=zq (lB Gn (a:=⟨G,1,none⟩) (by show G < G + 1;omega) (aB (some ⟨g1,0,none⟩) (j + 1) Ni));clear nC Gn tJ t0 t1 tf0 tf1 tl hqg vR QT;go_wp2;go_roundw;case rel=> exact⟨j + 1,_,by go_num,by omega,fR.out,QT2.out,sj.out⟩
   case measure=> simp only [aK];omega
  ·obtain rfl:M=j:=by omega
   obtain⟨vb,vc,rfl⟩:=Fk qO.out;have HNr:bH (Ek wr vb AT):=by
    have h:=qO.out;rw [fM (Aa HAl.out)] at h;exact rt (LC.own h)
   have FC:=zq (aU zG.out HB.out);have HF6:=zq (WD.out.below HB.out);have HS6:=zq (HS4.out.below HB.out);have HQ26:=zq (Xz.out.below HB.out Xz.out.lt);have HQ46:=zq (HQ44.out.below HB.out HQ44.out.lt);have HQp6:=zq (HQp4.out.below HB.out HQp4.out.lt);have b0:=HQp6.out.cell 0;simp only [aL,aI] at b0;have L0:bH (jP wr.heap.size wr (aB none 0 0) []):=⟨⟨by simp, .inl ⟨rfl,rfl⟩⟩,fun l hl=> absurd hl (by simp)⟩;clear HB WD HS4 Xz HQ44 HQp4 zG qO HOf HAt;go_wp2;go_loopw [13,14,59] (fun ov fv i wk=> ∃ (ad:Option cT) (co:Nat) (fD:List Lp),i=aD aE (fD.length:Nat)∧fD.length≤N∧fv=aD aE (dA (bQ rs) fD.length:Nat)∧ov=aB ad fD.length co∧bH (fD.map Lp.ps=LS fD.length)∧bH (jP wr.heap.size wk (aB ad fD.length co) fD)∧bH (Below wr.heap.size wr wk)) (fun _ _ i _=> N - (aK i).toNat);case atStart=> exact⟨_,0, [],rfl,bN _,rfl,rfl,HE0.out.symm,L0.out,aH _ _⟩
   case round=>
    clear L0 b0;obtain⟨ad,co,fD,rfl,hk,rfl,rfl,Hq,HO,HB⟩:=hrel;rename aF=> wk;obtain⟨r,hr⟩:=nm fD.length;rw [hr] at hk Hq HO ⊢;by_cases hrN:r < N
    ·obtain⟨b,o,rfl,k0, -⟩:=(HR.out.below (aU FC.out HB.out)).at (i:=r) (by rw [HL.out];exact hrN) rfl;rw [show(rs.getD r default).ss.length=(bQ rs r).length from rfl] at k0;have yB:=HN.out r;have hp1:=HP.out r hrN;have Fg:=J5.out (r + 1) hrN;have EC:=zq (HEC.out r);rw [EC.out] at Fg;have EL:=zq (HEL.out r);have Hr:=zq hr;clear hr;obtain⟨C1,YL⟩:=nm (dA (bQ rs) (r + 1));rw [YL] at EC;have dd:=zq YL;clear YL;obtain⟨C0,hC0⟩:=nm (dA (bQ rs) r);rw [hC0] at EC EL Fg ⊢;have Tz:=zq hC0;clear hC0;obtain⟨n,kd⟩:=nm (bQ rs r).length;rw [kd] at EC EL Fg yB hp1 k0;have Xb:=zq kd;clear kd;generalize (rs.getD r default).a=ar at *;generalize (rs.getD r default).cap=cr at *;have wh:(r:Int) < N:=by omega
     have X0:bH (wk.ownsRow wk.heap.size 47 3 (aB none 0 0) 0 (dH (xT SS FS C0 n 0))):=⟨rfl, .inl ⟨rfl,rfl⟩⟩;go_wp2;go_loopw [17,65] (fun v i wi=> ∃ k:Nat,i=aD aE k∧k≤n∧bH (wi.ownsRow wk.heap.size 47 3 v k (dH (xT SS FS C0 n k)))∧bH (Below wk.heap.size wk wi)) (fun _ i _=> n - (aK i).toNat);case atStart=> exact⟨0,rfl,bN _,X0.out,aH _ _⟩
     case round=>
      clear X0 k0;obtain⟨k,rfl,hk2,HX,jy⟩:=hrel;rename aF=> wi;obtain⟨qb,qc,rfl⟩:=Fk HX.out;by_cases hkn:k < n
      ·have Rv:=Kw k n;have Vz:(k + 1) % n < n:=fU _ (by omega);have EB:bH (xT SS FS C0 n (k + 1)=xT SS FS C0 n k ++ [⟨((C0 + k:Nat):Int),bJ ((DV SS FS (C0 + k) (C0 + k):Int):Rat),bJ ((DV SS FS (C0 + k) (C0 + (k + 1) % n):Int):Rat)⟩]):=gn SS FS C0 n k;have Bh:=zq (aU HB.out jy.out);have K1:=zq (fun W (hW:Below wi.heap.size wi W)=> eW.out (C0 + k) (C0 + k) (by omega) (by omega) P6 P4 (some ⟨sg,0,none⟩) fa sc fc W (aU FC.out (aU Bh.out hW)) ((HQ46.out.below (aU Bh.out hW) HQ46.out.lt).cell 0) ((HQ26.out.below (aU Bh.out hW) HQ26.out.lt).cell 0) (HS6.out.below (aU Bh.out hW)) (HF6.out.below (aU Bh.out hW)));have K2:=zq (fun W (hW:Below wi.heap.size wi W)=> eW.out (C0 + k) (C0 + (k + 1) % n) (by omega) (by omega) P6 P4 (some ⟨sg,0,none⟩) fa sc fc W (aU FC.out (aU Bh.out hW)) ((HQ46.out.below (aU Bh.out hW) HQ46.out.lt).cell 0) ((HQ26.out.below (aU Bh.out hW) HQ26.out.lt).cell 0) (HS6.out.below (aU Bh.out hW)) (HF6.out.below (aU Bh.out hW)));generalize bJ ((DV SS FS (C0 + k) (C0 + k):Int):Rat)=Y at *;generalize bJ ((DV SS FS (C0 + k) (C0 + (k + 1) % n):Int):Rat)=Z at *;generalize (k + 1) % n=m2 at *;have w1:IntKind.i64.wrap ((k:Int) + 1)=(k:Int) + 1:=aX _ (by omega);have w2:IntKind.i64.wrap ((C0:Int) + m2)=(C0:Int) + m2:=aX _ (by omega);have w3:IntKind.i64.wrap ((C0:Int) + k)=(C0:Int) + k:=aX _ (by omega);simp only [Et] at K1 K2 EB;have v5:¬ n=0:=by omega
       have v6:(k:Int) < n:=by omega
       have H1:=zq (K1.out _ (aH _ wi));clear K1;go_wp2_with fail
       refine H1.out.mono ?_;rintro e w2 ⟨rfl,hb2⟩;have H2:=zq (K2.out _ hb2);clear H1 K2;go_wp2_with fail
       refine H2.out.mono ?_;rintro e w3 ⟨rfl,hb3⟩;have bp:=zq (aU jy.out (hb2.trans (hb3.mono hb2.size)));have hown:=dI (dI HX.out hb2) hb3;clear H2 hb2 hb3 jy HX Bh;go_wp2_with (at_builtin;refine vg rfl _ _ rfl wk.heap.size (aB qb k qc) k _ rfl hown _ _ _ rfl (by omega) bp.out.size ?_;intro g6 cap6 w6 BW hg6 EW)
       have wl:=zq (eP bp.out EW hown (aG _) bp.out.size);have e6:dH (xT SS FS C0 n k) ++ [aD aE ((C0:Int) + k),aA (bs Y),aA (bs Z)]=dH (xT SS FS C0 n (k + 1)):=by rw [EB.out,zH];rfl
       rw [e6] at BW;have HX6:=zq BW;clear hown BW EW e6 bp EB;go_wp2;go_roundw;case rel=> exact⟨k + 1,by go_num,by omega,HX6.out,wl.out⟩
       case measure=> simp only [aK];omega
      ·obtain rfl:n=k:=by omega
       have HBo:=zq (aU HB.out jy.out);have hO1:=HO.out.below jy.out;have hX1:bH (wi.ownsRow wr.heap.size 47 3 (Lp.mk qb qc (xT SS FS C0 n n)).v (Lp.mk qb qc (xT SS FS C0 n n)).ps.length (dH (Lp.mk qb qc (xT SS FS C0 n n)).ps)):=by
        have h:=mZ HX.out HB.out.size;unfold Lp.v;simp only [AU];exact h
       have zF:=hO1.1;rw [Hr.out] at zF;have Nq:=zq hO1;clear hO1 HO HX jy HB;go_wp2_with (at_builtin;refine TG rfl _ _ rfl wr.heap.size (aB ad r co) r _ rfl zF qb n qc rfl (by omega) HBo.out.size ?_;intro g8 Tm w8 GD hg8 LU)
       have wl:=zq (eP HBo.out LU zF (aG _) HBo.out.size);have kK:(fD ++ [Lp.mk qb qc (xT SS FS C0 n n)]).length=r + 1:=by rw [cP,Hr.out];rfl
       have e8:fD.map Lp.v ++ [aB qb n qc]=fD.map Lp.v ++ [(Lp.mk qb qc (xT SS FS C0 n n)).v]:=by unfold Lp.v;simp only [AU]
       rw [e8] at GD;have hO8:=Nq.out.grow hX1.out LU (by rw [Hr.out];exact GD);rw [Hr.out] at hO8;have HO8:=zq hO8;have HQ8:bH ((fD ++ [Lp.mk qb qc (xT SS FS C0 n n)]).map Lp.ps=LS (r + 1)):=by
        show _=_;rw [tW,Hq.out,EL.out];rfl
       have GF:=zq kK;have w4:IntKind.i64.wrap ((C0:Int) + n)=(C1:Int):=by rw [aX _ (by omega),EC.out];omega
       clear zF GD LU e8 hO8 kK HBo Nq hX1 Hq EL;go_wp2;go_roundw;case rel=> exact⟨_,_,fD ++ [Lp.mk qb qc (xT SS FS C0 n n)],by rw [GF.out];go_num,by rw [GF.out];exact hrN,by rw [GF.out,dd.out,EC.out,Et],by rw [GF.out],by rw [GF.out];exact HQ8.out,by rw [GF.out];exact HO8.out,wl.out⟩
       case measure=> simp only [aK];omega
    ·obtain rfl:N=r:=by omega
     have QT2:=QT.out.below HB.out QT.out.lt;obtain⟨t0,t1,tf0,tf1,tl⟩:=QT2.two;have Ku:=zq (aU FC.out HB.out);have Ql:∀ l∈fD,l.ps.length≤l.cap:=fun l hl=> by
      rcases(HO.out.2 l hl).2 with ⟨h1,h2⟩ | ⟨g,c,yU,h1,h2,h3,h4,h5⟩
      ·omega
      ·unfold Lp.v at h1;injection h1 with e1 e2 e3;omega
     have H1:=zq (HAr.out fa vb ad fc vc co fD wk Ku.out hr Hq.out Ql (jP.reads HO.out) (HF6.out.below HB.out) (HNr.out.below HB.out));clear QT2 Ql HAr HO HB hr;go_wp2_with fail
     refine H1.out.mono ?_;rintro e w2 ⟨⟨v,AS,rfl,h1,h2⟩,hb⟩;have X1:=zq (Xy h1 Ku.out.size);have X2:=zq h2;have X3:=zq (aU Ku.out hb);rw [Hq.out] at X2;clear h1 h2 hb H1;go_wp2;exact nV (jW rfl _ _) rfl ⟨⟨_,AS,rfl,X1.out,X2.out⟩,X3.out⟩
theorem yy{s t:Sd}(h:yJ s=true)(hc:0≤s.x∧s.x≤65536∧0≤s.y∧s.y≤65536):∃q:FQ,q.Good∧YX s t=q.fr∧HQ 6 q.v∧HQ 6 q.t:=by
 obtain⟨p1,p2,p3⟩:=xg (x:=s.x) (y:=s.y) (rise:=s.rise) (run:=s.run) (gable:=s.gable) (plate:=s.plate) (over:=s.over) h;have hco:=yw (t:=t) hc;have hv:HQ 6 (if s.gable=true then 0 else mkRat s.run s.rise.toNat)∧0≤(if s.gable=true then(0:Rat)else mkRat s.run s.rise.toNat):=by
  cases hg:s.gable
  ·obtain⟨a1,a2,a3,a4⟩:=p3 hg;rw[iN (by decide)];refine⟨HQ.mk (by omega) (by omega) (by omega),?_⟩;rw[←Rat.num_nonneg,Rat.num_mkRat];split
   ·exact Int.le_refl _
   ·exact Int.ediv_nonneg (by omega) (by omega)
  ·rw[ip rfl];exact⟨Yr.mono (by decide),by decide⟩
 have ht:HQ 6 (mkRat s.plate 1):=HQ.mk (by decide) (by omega) (by decide);refine⟨⟨upN (OR s t),if upN (OR s t)=true then s.x else s.y,drN (OR s t),if s.gable=true then 0 else mkRat s.run s.rise.toNat,mkRat s.plate 1⟩,⟨hco.1,hco.2,?_,hv.2,hv.1.mono (by decide),ht.mono (by decide)⟩,?_,hv.1,ht⟩
 ·show drN (OR s t)=1∨drN (OR s t)= -1;unfold drN;split
  ·exact .inl rfl
  ·exact .inr rfl
 ·unfold YX FQ.fr;congr 1;cases s.gable
  ·rfl
  ·exact uM.symm
theorem MD{q:Rat}(h:HQ 6 q):(bJ q).length≤30:=by
 have c:=pM h (by decide);have e1:=(cS q.num.natAbs 6 (by decide)).2 h.1;have e2:=(cS q.den 6 (by decide)).2 h.2;have e4:=(cS q.num.toNat 6 (by decide)).2 (Nat.lt_of_le_of_lt (by omega) h.1);have e3:(itoa q.num).length≤7:=by
  unfold itoa;split
  ·simp only[bF];omega
  ·omega
 unfold bJ;split
 ·omega
 ·rw[cP,bF];omega
theorem rot_get{fs:List Fr}{at':List (List UInt8)}{ps:List Pt}{n:Nat}(hn:ps.length=n)(h0:0<n):∃m,m<n∧∀i,i<n→(Fm fs at' ps).getD i default=ps.getD ((i+m)%n) default:=by
 refine⟨kM fs at' ps ps.length,by rw[←hn];exact vB _ _ _ _ (by omega),fun i hi=>?_⟩;have hm:kM fs at' ps ps.length<n:=by rw[←hn];exact vB _ _ _ _ (by omega)
 unfold Fm;generalize kM fs at' ps ps.length=m at *;by_cases h:i+m<n
 ·rw[fE h,Fo (by rw[jU];omega)];simp[aO,Nat.add_comm]
 ·have e:(i+m)%n=i+m-n:=by rw[Nat.mod_eq_sub_mod (by omega),fE (by omega)]
  rw[e,show i=(n-m)+(i+m-n) by omega,Fp (by rw[jU];omega),show n-m+(i+m-n)+m-n=i+m-n by omega];simp[aO,iz,show i+m-n<m by omega]
theorem pre_mod{n i m:Nat}(hn:0<n)(hi:i<n)(hm:m<n):((i+n-1)%n+m)%n=pre n ((i+m)%n):=by
 unfold pre;rw[Nat.mod_add_mod,show i+n-1+m=(i+m)+(n-1) by omega,show(i+m)%n+n-1=(i+m)%n+(n-1) by omega,Nat.mod_add_mod]
theorem yz{f:Nat→List Sd}{N:Nat}{ss:List Sd}{fs:List Fr}{at':List (List UInt8)}{l:List Pt}(hp:∀r,r<N→0<(f r).length)(hC:FE ss)(h:l∈NH fs at' (wA f ss fs N)):
 ∃r,r<N∧l.length=(f r).length∧∀i,i<l.length→∃j,j<(f r).length∧(l.getD i default).side=((dA f r+j:Nat):Int)∧(l.getD ((i+l.length-1)%l.length) default).side=((dA f r+pre (f r).length j:Nat):Int)∧∃z:Int,0≤z∧z≤65536∧(l.getD i default).fr=bJ (z:Rat):=by
 unfold NH at h;obtain⟨ps,wG,rfl⟩:=List.mem_map.1 ((fx (lt:=ltL fs at') _ _).1 h);obtain⟨r,hr,rfl⟩:=DC wG;have h0:=hp r hr;obtain⟨m,hm,hg⟩:=rot_get (fs:=fs) (at':=at') (AU ss fs (dA f r) (f r).length (f r).length) h0;refine⟨r,hr,by rw[GV,AU],fun i hi=>?_⟩;rw[GV,AU]at hi⊢;have hget:∀j,j<(f r).length→(xT ss fs (dA f r) (f r).length (f r).length).getD j default=yr ss fs (dA f r) (f r).length j:=fun j hj=>by
  unfold xT;simp[aO,hj]
 have hj:(i+m)%(f r).length<(f r).length:=fU _ h0;refine⟨(i+m)%(f r).length,hj,?_,?_,?_⟩
 ·rw[hg i hi,hget _ hj];rfl
 ·rw[hg _ (fU _ h0),pre_mod h0 hi hm,hget _ (zV hj)];rfl
 ·rw[hg i hi,hget _ hj];have:=yu (fs:=fs) hC (dA f r+(i+m)%(f r).length) (dA f r+(i+m)%(f r).length);exact⟨_,this.1,this.2,rfl⟩
theorem XA{f:Nat→List Sd}{N:Nat}{a:Option cT}{c:Nat}{l:List Pt}(Nz:xM (oM f N)=false)(hl:l.length≤96){i r j:Nat}(hi:i<l.length)(hr:r<N)(hj:j<(f r).length)(Ym:uO (f r)=true)
 (h1:(l.getD i default).side=((dA f r+j:Nat):Int))(h2:(l.getD ((i+l.length-1)%l.length) default).side=((dA f r+pre (f r).length j:Nat):Int)):
 BD (oM f N) ⟨a,c,l⟩ i=(!DS ((f r).getD (pre (f r).length j) default) ((f r).getD j default) (jG (f r) j),0):=by
 have hc:iL (oM f N) [] [⟨a,c,l⟩]=0:=by
  have e:sU [(⟨a,c,l⟩:Lp)]=false:=by
   unfold sU;rw[dO];refine⟨by rfl,dC.2 fun k hk=>?_⟩;have hk:k<1:=hk;obtain rfl:k=0:=by omega
   show decide (96<l.length)=false;rw[decide_eq_false_iff_not];omega
  unfold iL;rw[iN (by rw[Nz];decide),iN (fun h=>h rfl),iN (by rw[e];decide)]
 have k1:=QI hr hj;have k2:=QI hr (zV hj);have NC:=zJ f N;have t:=gp hj Ym;unfold BD;simp only;rw[hc,iN (fun h=>h rfl),iN (by omega),iF];have s1:sideBad (oM f N).length (l.getD i default)=false:=by
  unfold sideBad;rw[h1,NC,dO,decide_eq_false_iff_not,decide_eq_false_iff_not];omega
 have s2:sideBad (oM f N).length (l.getD ((i+l.length-1)%l.length) default)=false:=by
  unfold sideBad;rw[h2,NC,dO,decide_eq_false_iff_not,decide_eq_false_iff_not];omega
 rw[s1,s2,iN (by decide)];have tu:JD (oM f N) (l.getD ((i+l.length-1)%l.length) default) (l.getD i default)=if DS ((f r).getD (pre (f r).length j) default) ((f r).getD j default) (jG (f r) j)=true then 1 else 3:=by
  unfold JD;rw[h1,h2,iF,iF,DB f N hr hj,DB f N hr (zV hj),Uz,Uz,AK hj,t]
 rw[tu];cases DS ((f r).getD (pre (f r).length j) default) ((f r).getD j default) (jG (f r) j)<;>rfl
theorem KA{x:Rat}(h:HQ 6 x):eH (bJ x)=0∧(mag (nS (bJ x))).length≤9∧(dS (bJ x)).length≤9∧shR x=true:=by
 have hc:eH (bJ x)=0:=pM h (by decide);have e1:=(cS x.num.natAbs 6 (by decide)).2 h.1;have e2:=(cS x.den 6 (by decide)).2 h.2;have n:(mag (nS (bJ x))).length≤9:=by rw[EO hc,jZ,nP];omega
 have d:(dS (bJ x)).length≤9:=by
  cases hs:sL (bJ x)
  ·rw[(oV _ hs).2];exact bN _
  ·have:=EQ hc;unfold dT at this;rw[ip hs,jZ,mE]at this;rw[this];omega
 refine⟨hc,n,d,?_⟩;have h1:x.num.natAbs<10^6:=h.1;have h2:x.den<10^6:=h.2;unfold shR;rw[decide_eq_true (bL h1 (by decide)),decide_eq_true (bL h2 (by decide))];rfl
theorem XC(a:ByteArray)(w:aF)(hE:iM w)(has:a.size≤dL)(h0:eH a.data.toList=0)(hn9:(mag (nS a.data.toList)).length≤9)(hd9:(dS a.data.toList).length≤9):
 aW aC 21 #[aA a] w (Rt (aD aE 0) w):=by
 rw[X8]at h0;have Hsp:=fun W=>IB a W has;unfold Ge at Hsp;have hdn:sL a.data.toList=false→dS a.data.toList=[]:=fun h=>(oV _ h).2;generalize fT a=m at *;generalize sL a.data.toList=s at *;generalize mag (nS a.data.toList)=N at *;generalize dS a.data.toList=D at *;have e1:(bs N).size=N.length:=cZ N;have e2:(bs D).size=D.length:=cZ D;have Hx:=fun W=>Ld (bs N) W (by rw[e1];unfold dL;omega);have Hy:=fun W=>Ld (bs D) W (by rw[e2];unfold dL;omega);simp only[bP]at Hx Hy;have z1:∀c,((bs N).toList==c)=(N==c):=fun c=>CG N c;have z2:∀c,((bs D).toList==c)=(D==c):=fun c=>CG D c;have lx':¬300<((bs N).size:Int):=by rw[e1];omega
 have ly':¬300<((bs D).size:Int):=by rw[e2];omega
 have CQ:(pG N&&(!m||N !=[48])&&(!s||(pG D&&D !=[48]&&D !=[49])))=true:=by
  cases h:(pG N&&(!m||N !=[48])&&(!s||(pG D&&D !=[48]&&D !=[49])))with
  |true=>rfl
  |false=>rw[og h]at h0;cases h0
 rw[ZE CQ,iN (by omega)]at h0;simp only[bK]at CQ;obtain⟨⟨oN,gm⟩,gs⟩:=CQ;rw[oN]at Hx;have x0:m=true→((bs N).toList==[48])=false:=fun h=>by
  rw[z1];subst h;revert gm;rw[bne];cases(N==[48])<;>intro k<;>first |rfl|cases k
 cases s with
 |false=>exact EM a _ (bs D) m w hE Hsp Hx x0 lx' ly'
 |true=>
  simp only[Bool.not_true,Bool.false_or,bK]at gs;obtain⟨⟨oD,d0⟩,d1⟩:=gs;rw[oD]at Hy;have y0:((bs D).toList==[48])=false:=by rw[z2];revert d0;rw[bne];cases(D==[48])<;>intro k<;>first |rfl|cases k
  have y1:((bs D).toList==[49])=false:=by rw[z2];revert d1;rw[bne];cases(D==[49])<;>intro k<;>first |rfl|cases k
  rw[show(if true=true then num D else 1)=num D from rfl]at h0;have hg1:dR (num N) (num D)=1:=by
   by_cases h:dR (num N) (num D)=1
   ·exact h
   ·rw[iN h]at h0;cases h0
  have Hs1:=fun W=>Dn (bs N) W (by rw[e1];omega) (by rw[bP];exact jY oN);have Hs2:=fun W=>Dn (bs D) W (by rw[e2];omega) (by rw[bP];exact jY oD);simp only[bP]at Hs1 Hs2;have hPb:num N≤9223372036854775807:=by
   have:=nZ N (jY oN);have h9:10^N.length≤10^9:=bO (by decide) hn9;omega
  have hQb:num D≤9223372036854775807:=by
   have:=nZ D (jY oD);have h9:10^D.length≤10^9:=bO (by decide) hd9;omega
  have Hg:=fun W=>r02_gcd (num N) (num D) W hPb hQb;rw[hg1]at Hg;exact Gf a _ _ m w hE Hsp Hx Hy x0 y0 y1 lx' ly' (by rw[e1];omega) (by rw[e2];omega) _ _ 1 Hs1 Hs2 Hg rfl
theorem uP{x:Rat}(h:HQ 6 x)(w:aF)(hE:iM w):aW aC 21 #[aA (bs (bJ x))] w (Rt (aD aE 0) w):=by
 obtain⟨h0,h1,h2,-⟩:=KA h;exact XC (bs (bJ x)) w hE (rj (tT h (by decide))) (by rw[bP];exact h0) (by rw[bP];exact h1) (by rw[bP];exact h2)
theorem UA{x y:Rat}(h:HQ 6 x)(k:HQ 6 y)(w:aF)(hE:iM w):aW aC 199 #[aA (bs (bJ x)),aA (bs (bJ y))] w (Rt (aD aE 0) w):=by
 have Ha:=zq (uP h w hE);have Hb:=zq (fun(W:aF)(h:Below w.heap.size w W)=>uP k W (hE.below h));clear hE h k;go_enter func199,ntmps199;go_wp2_with fail
 refine Ha.out.mono ?_;rintro e w1⟨rfl,hb1⟩;go_wp2_with fail
 refine(Hb.out _ hb1).mono ?_;rintro e w2⟨rfl,hb2⟩;have hB:=aR hb1 hb2 hb1.size;go_wp2;go_ret;exact⟨rfl,hB⟩
theorem XD{x:Rat}(h:HQ 6 x)(w:aF)(hE:iM w):
 aW aC 126 #[aA (bs (bJ x))] w (Rt (cC #[aA (bs (nS (bJ x))),aA (bs (dT (bJ x))),aD aE 0]) w):=by
 have Hc:=zq (uP h w hE);have hp:=fun W=>ZF (bs (bJ x)) W (tT h (by decide));rw[bP]at hp;have Hp:=zq hp;clear hp hE;generalize bs (nS (bJ x))=N at *;generalize bs (dT (bJ x))=D at *;generalize bs (bJ x)=A at *;go_enter func126,ntmps126;go_wp2_with fail
 refine ka Hc.out fun w1 hb1=>?_;go_wp2_with fail
 refine(Hp.out _).mono ?_;rintro e w2⟨rfl,nd,rfl⟩;go_wp2;go_ret3;exact⟨rfl,cK hb1 nd⟩
theorem O6{x:Rat}(h:HQ 6 x)(w:aF)(hE:iM w):
 aW aC 50 #[aA (bs (bJ x))] w (Rt (aN false) w):=by
 have H:=zq (XD h w hE);obtain⟨h0,hn,hd,-⟩:=KA h;obtain⟨g1,g2,g3⟩:=rk h0;rw[FY _ g1]at g2 g3;have m1:¬(36:Int)<((bs (mag (nS (bJ x)))).size:Int):=by rw[cZ];omega
 have m2:¬(36:Int)<((bs (dT (bJ x))).size:Int):=by
  rw[cZ];unfold dT;split
  ·omega
  ·decide
 clear h0 hn hd hE;generalize bs (nS (bJ x))=N at *;generalize bs (mag (nS (bJ x)))=M at *;generalize bs (dT (bJ x))=D at *;have h1:(1:Int)≤(N.size:Int):=by omega
 by_cases hn:((N[0].toNat:Int)==45)=true;case' pos=>have c:=g2 hn;clear g2 g3
 case' neg=>obtain rfl:M=N:=(g3 (by simpa using hn)).symm;clear g2 g3
 all_goals
  go_enter func50,ntmps50;go_wp2_with fail
  refine H.out.mono ?_;rintro e W1⟨rfl,hb1⟩;go_wp2;go_ret;exact⟨by first |rfl|(congr 2;simp;omega),hb1⟩
theorem QJ{x:Rat}(h:HQ 6 x)(h0:0≤x.num)(w:aF)(hE:iM w):
 aW aC 127 #[aA (bs (bJ x)),aA {data:= #[48]}] w fun e w'=>(∃r:Int,e=aQ (cC #[aD aE r,aD aE 0])∧0≤r)∧Below w.heap.size w w':=by
 have hz:HQ 6 (0:Rat):=Yr.mono (by decide);have z0:bs (bJ 0)={data:= #[48]}:=by rw[uM];rfl
 have HC:=zq (UA h hz w hE);have H1:=zq (fun W=>Lj x W (h.mono (by decide)) (KA h).2.2.2);have H2:=zq (fun W=>Lj 0 W (hz.mono (by decide)) (KA hz).2.2.2);rw[z0]at HC H2;rw[show((0:Rat).num:Int)=0 from rfl,show(0:Rat).den=1 from rfl]at H2;unfold iv at H1 H2;have hd:x.den<10^6:=h.2;have hn:x.num.natAbs<10^6:=h.1;have w1:IntKind.i64.wrap x.num=x.num:=aX _ (by omega);have w2:IntKind.i64.wrap (0*(x.den:Int))=0:=by rw[D6];rfl
 clear hE h hz z0 hd hn;generalize x.num=n at *;generalize x.den=d at *;generalize bs (bJ x)=A at *;have hlt:¬n<0:=by omega
 rcases Int.lt_or_eq_of_le h0 with h1|rfl;all_goals
  go_enter func127,ntmps127;go_wp2_with fail
  refine ka HC.out fun W0 hb0=>?_;go_wp2_with fail
  refine(H1.out _).mono ?_;rintro e W1⟨rfl,k1,rfl⟩;go_wp2_with fail
  refine(H2.out _).mono ?_;rintro e W2⟨rfl,k2,rfl⟩;go_wp2;go_ret2;exact⟨⟨_,rfl,by decide⟩,cK hb0 _⟩
theorem NI{x:Rat}(h:HQ 6 x)(h0:0≤x.num)(w:aF)(hE:iM w):
 aW aC 51 #[aA (bs (bJ x)),aA {data:= #[48]}] w fun e w'=>(∃r:Int,e=aQ (aD aE r)∧0≤r)∧Below w.heap.size w w':=by
 have H:=zq (QJ h h0 w hE);clear hE h h0;generalize bs (bJ x)=A at *;go_enter func51,ntmps51;go_wp2_with fail
 refine H.out.mono ?_;rintro e W1⟨⟨r,rfl,hr⟩,hb1⟩;go_wp2;go_ret;exact⟨⟨r,rfl,hr⟩,hb1⟩
theorem XE(q:FQ)(hq:q.Good)(h1:HQ 6 q.v)(h2:HQ 6 q.t)(w:aF)(hE:iM w):
 aW aC 18 #[q.fr.v] w (Rt (aD aE 0) w):=by
 obtain⟨up,co,dir,v,t⟩:=q;obtain⟨k1,k2,k3,k4,-,-⟩:=hq;simp only[]at k1 k2 k3 k4 h1 h2;have H1:=zq (fun(W:aF)(h:Below w.heap.size w W)=>uP h1 W (hE.below h));have H2:=zq (fun(W:aF)(h:Below w.heap.size w W)=>uP h2 W (hE.below h));have L1:=zq (fun(W:aF)(h:Below w.heap.size w W)=>O6 h1 W (hE.below h));have L2:=zq (fun(W:aF)(h:Below w.heap.size w W)=>O6 h2 W (hE.below h));have HC:=zq (fun(W:aF)(h:Below w.heap.size w W)=>NI h1 (Rat.num_nonneg.2 k4) W (hE.below h));have fA:Below w.heap.size w (w.alloc (aJ #[aN up,aD aE co,aD aE dir,aA (bs (bJ v)),aA (bs (bJ t))] 44)):=(aH _ w).alloc (aG _) _;have rG:=bT.new w #[aN up,aD aE co,aD aE dir,aA (bs (bJ v)),aA (bs (bJ t))] 44;obtain⟨W0,eQ⟩:=nm (w.alloc (aJ #[aN up,aD aE co,aD aE dir,aA (bs (bJ v)),aA (bs (bJ t))] 44));unfold FQ.fr Fr.v Fr.cells;simp only[];rw[eQ]at fA rG;have gY:=zq fA;have tD:=zq rG;have HW:=zq eQ;have c1:¬co<0:=by omega
 have c2:¬65536<co:=by omega
 clear hE eQ h1 h2 k1 k2 k4;generalize bs (bJ v)=SP at *;generalize bs (bJ t)=ST at *;obtain⟨a0,a1,a2,a3,a4,-⟩:=I8 rG;clear fA rG;rcases k3 with rfl|rfl;all_goals
  go_enter func18,ntmps18;go_upto_region 1 with(fail)
  rw[HW.out];clear HW;go_wp2_with fail
  refine ka (H1.out _ gY.out) fun W1 hb1=>?_;have eW:=zq (aU gY.out hb1);have BC:=zq (tD.out.below hb1 tD.out.lt);obtain⟨a0,a1,a2,a3,a4,-⟩:=I8 BC.out;clear hb1 gY tD H1;go_wp2_with fail
  refine ka (H2.out _ eW.out) fun W2 hb2=>?_;have fR:=zq (aU eW.out hb2);have DO:=zq (BC.out.below hb2 BC.out.lt);obtain⟨a0,a1,a2,a3,a4,-⟩:=I8 DO.out;clear hb2 eW BC H2;go_wp2_with fail
  refine ka (L1.out _ fR.out) fun W3 hb3=>?_;have HB3:=zq (aU fR.out hb3);have MY:=zq (DO.out.below hb3 DO.out.lt);obtain⟨a0,a1,a2,a3,a4,-⟩:=I8 MY.out;clear hb3 fR DO L1;go_wp2_with fail
  refine ka (L2.out _ HB3.out) fun W4 hb4=>?_;have zG:=zq (aU HB3.out hb4);have WE:=zq (MY.out.below hb4 MY.out.lt);obtain⟨a0,a1,a2,a3,a4,-⟩:=I8 WE.out;clear hb4 HB3 MY L2;go_wp2_with fail
  refine(HC.out _ zG.out).mono ?_;rintro e W5⟨⟨r,rfl,hr⟩,hb5⟩;have yI:=zq (aU zG.out hb5);have Zm:¬r<0:=by omega
  clear hb5 zG WE HC;go_wp2;go_ret;exact⟨rfl,yI.out⟩
end
section
open Go Go.RowKit Go.Shelf Go.Lib
def UB(f:Nat→List Sd)(N:Nat):Bool:= !zY f N&&decide (qQ f N=0)
theorem Y6{rs:List Rg}{N r:Nat}(hl:rs.length=N)(h:dA (bQ rs) N≤40):(bQ rs r).length≤1000:=by
 by_cases hr:r<N
 ·have:=Mn (f:=bQ rs) hr;omega
 ·rw[Dx (by omega)];exact bN _
theorem UC (a:Option cT) (N cap:Nat) (rs:List Rg) (w:aF) (hl:rs.length=N) (h40:40 < N) (hN:N≤9223372036854775807) (rr:GL w a rs) :
 aW aC 5 #[cN #[aB a N cap],aD aE 12] w (Rt (aN true) w):=by
 have HR:=zq rr;have HL:=zq hl;clear hl rr;have gY:=zq ((aH _ w).alloc (aG _) (aJ #[aB a N cap] 24));have tD:=zq (bT.new w #[aB a N cap] 24);have b0:=tD.out.cell 0;simp only [aL,aI] at b0;go_enter func5,ntmps5;go_upto_region 1 with (fail)
 generalize w.alloc (aJ #[aB a N cap] 24)=W0 at *;go_wp2;go_loopw [5,6] (fun t i wr=> ∃ (r:Nat) (z:Int),i=aD aE r∧t=aD aE z∧r≤N∧wr=W0) (fun _ i _=> N - (aK i).toNat);case atStart=> exact⟨0,0,rfl,rfl,bN _,rfl⟩
 case round=>
  obtain⟨r,z,rfl,rfl,hr,rfl⟩:=hrel;by_cases hrN:r < N
  ·obtain⟨b,o,rfl,c0, -⟩:=(HR.out.below gY.out).at (i:=r) (by rw [HL.out];exact hrN) rfl;generalize (rs.getD r default).ss.length=n at *;have wh:(r:Int) < N:=by omega
   obtain⟨y,hy⟩:=nm (IntKind.i64.wrap (z + n));go_wp2;go_roundw;case rel=> exact⟨r + 1,y,by go_num,by rw [← hy] <;> rfl,by omega,by first | rfl | trivial⟩
   case measure=> simp only [aK];omega
  ·obtain rfl:N=r:=by omega
   have h4:((N:Int) > 40)=True:=eq_true (by omega);by_cases g1:z > 12 <;> by_cases g2:z≤24 <;> by_cases g3:z > 40;all_goals
    try (exfalso;omega)
   all_goals
    go_wp2;go_ret;exact⟨by first | rfl | (congr 2;simp;omega),gY.out⟩
theorem XF(a:Option cT)(N cap:Nat)(rs:List Rg)(w:aF)(hl:rs.length=N)(sT:N≤40→dA (bQ rs) N≤9223372036854775807)(hN:N≤9223372036854775807)(rr:GL w a rs):
 aW aC 5 #[cN #[aB a N cap],aD aE 12] w (Rt (aN (zY (bQ rs) N)) w):=by
 by_cases h:N≤40
 ·exact ej a N cap rs w hl (sT h) hN rr
 ·rw[show zY (bQ rs) N=true from decide_eq_true (.inr (.inr (by omega)))];exact UC a N cap rs w hl (by omega) hN rr
theorem za(a:Option cT)(N cap:Nat)(rs:List Rg)(w:aF)(hl:rs.length=N)(sT:N≤40→dA (bQ rs) N≤9223372036854775807)(hN:N≤9223372036854775807)(rr:GL w a rs):
 aW aC 16 #[cN #[aB a N cap]] w (Rt (aN (UB (bQ rs) N)) w):=by
 have HG:=zq (fun W(hW:Below w.heap.size w W)=>XF a N cap rs W hl sT hN (rr.below hW));have HC:bH (zY (bQ rs) N=false→∀W,Below w.heap.size w W→aW aC 33 #[cN #[aB a N cap]] W (Rt (aD aE (qQ (bQ rs) N)) W)):=fun h W hW=>by
  obtain⟨h1,h2⟩:=OO h;exact ei a N cap rs W hl (by omega) (fun r=>Y6 hl (by omega)) (rr.below hW)
 have E:bH (UB (bQ rs) N=(!zY (bQ rs) N&&decide (qQ (bQ rs) N=0))):=rfl;generalize UB (bQ rs) N=R at *;generalize zY (bQ rs) N=G at *;generalize qQ (bQ rs) N=C at *;clear hl sT hN rr;have fA:=(aH _ w).alloc (aG _) (aJ #[aB a N cap] 24);have rG:=bT.new w #[aB a N cap] 24;obtain⟨W0,eQ⟩:=nm (w.alloc (aJ #[aB a N cap] 24));rw[eQ]at fA rG;have gY:=zq fA;have b0:=rG.cell 0;simp only[aL,aI]at b0;have HW:=zq eQ;have H1:=zq (HG.out _ fA);clear fA rG eQ HG;refine dE func16 rfl ?_;simp only[ntmps16,bW,bF,bY,cW,cX,bR,bS,cD,bU,cL,bZ];go_upto_region 1 with(fail)
 rw[HW.out];clear HW;go_wp2_with fail
 refine H1.out.mono ?_;rintro e W1⟨rfl,hb⟩;have eW:=zq (aU gY.out hb);have b0:=cF hb b0;clear hb H1 gY;cases G with
 |true=>
  obtain rfl:R=false:=E.out;clear HC E;go_wp2;exact nV (iB Tryz.results16 _ _ _) rfl ⟨rfl,eW.out⟩
 |false=>
  have E2:bH (R=decide (C=0)):=E.out;have H2:=zq (HC.out rfl _ eW.out);clear HC E;go_wp2_with fail
  refine H2.out.mono ?_;rintro e W2⟨rfl,hb⟩;have fR:=zq (aU eW.out hb);clear hb H2 eW b0;have E3:bH (R=(C==0)):=by show _=_;rw[E2.out];rfl
  obtain rfl:=E3.out;go_wp2;exact nV (iB Tryz.results16 _ _ _) rfl ⟨rfl,fR.out⟩
theorem Kf (a:Option cT) (N cap:Nat) (rs:List Rg) (w:aF) (hE:iM w) (hD:Qy w) (hl:rs.length=N) (sT:N≤40→dA (bQ rs) N≤9223372036854775807) (hN:N≤9223372036854775807) (rr:GL w a rs) :
 aW aC 4 #[cN #[aB a N cap]] w (Rt (aN true) w):=by
 have HFi:=zq (fun W (hW:Below w.heap.size w W)=> za a N cap rs W hl sT hN (rr.below hW));have HAw:bH (∀ W,Below w.heap.size w W→aW aC 8 #[] W (Rt (aN true) W)):=fun W hW=> dj W (hE.below hW);have fA:=(aH _ w).alloc (aG _) (aJ #[aB a N cap] 24);have rG:=bT.new w #[aB a N cap] 24;obtain⟨W0,eQ⟩:=nm (w.alloc (aJ #[aB a N cap] 24));rw [eQ] at fA rG;have gY:=zq fA;have tD:=zq rG;have b0:=rG.cell 0;simp only [aL,aI] at b0;have HW:=zq eQ;have H1:=zq (HFi.out _ fA);clear fA rG eQ HFi;cases hfp:UB (bQ rs) N with
 | false=>
  rw [hfp] at H1;clear hfp hE hD rr sT hN hl;refine dE func4 rfl ?_;simp only [ntmps4,bW,bF,bY,cW,cX,bR,bS,cD,bU,cL,bZ];go_upto_region 1 with (fail)
  rw [HW.out];clear HW;go_wp2_with fail
  refine H1.out.mono ?_;rintro e W1 ⟨rfl,hb⟩;have eW:=zq (aU gY.out hb);have H2:=zq (HAw.out _ eW.out);clear hb H1 gY b0;go_wp2_with fail
  refine H2.out.mono ?_;rintro e W2 ⟨rfl,hb⟩;have fR:=zq (aU eW.out hb);clear hb H2;go_wp2;exact nV (iB Tryz.results4 _ _ _) rfl ⟨rfl,fR.out⟩
 | true=>
  rw [hfp] at H1;unfold UB at hfp;simp only [bK,iH,decide_eq_true_eq] at hfp;obtain⟨hg,h0⟩:=hfp;obtain⟨g1,g2⟩:=OO hg;have hn:∀ r,(bQ rs r).length≤1000:=fun r=> Y6 hl (by omega);obtain⟨c0,c1,c2,c3,c4, -⟩:=wW h0;have hC:∀ r,FE (bQ rs r):=GO (fun r hr=> Dx (by omega)) c3;have Ym:∀ r,r < N→uO (bQ rs r)=true:=fun r hr=> by
   have:=dC.1 c4 r hr;unfold Fj at this;simpa using this
  have hp:∀ r,r < N→0 < (bQ rs r).length:=fun r hr=> by
   have:=Ym r hr;unfold uO at this;simp only [bK,decide_eq_true_eq] at this;omega
  have hM0:0 < dA (bQ rs) N:=by
   have h1:=hp 0 (by omega);have:=Mn (f:=bQ rs) (N:=N) (r:=0) (by omega);omega
  have Fy:dA (bQ rs) N=(eK rs).length:=by rw [← hl];exact AP
  have hIC:FE (eK rs):=fun i=> by
   rcases fK i (eK rs).length with h | h
   ·obtain⟨r,k,h1,h2,rfl⟩:=MC (bQ rs) N i (by omega);rw [OZ (by omega) h2];exact hC r k
   ·rw [aO,mI h];exact⟨by decide,by decide,by decide,by decide⟩
  have CQ:∀ i,i < dA (bQ rs) N→∃ q:FQ,q.Good∧(oM (bQ rs) N).getD i default=q.fr∧HQ 6 q.v∧HQ 6 q.t:=fun i hi=> by
   obtain⟨r,k,h1,h2,rfl⟩:=MC (bQ rs) N i hi;rw [DB _ _ h1 h2];refine yy ?_ (hC r k);have h3:=dC.1 (dC.1 c3 r h1) k h2;unfold J9 at h3;simpa using h3
  have NC:=zJ (bQ rs) N;have Nz:xM (oM (bQ rs) N)=false:=On (by omega) (dC.2 fun i hi=> by
   obtain⟨q,h1,h2, -⟩:=CQ i (by omega);unfold JZ;rw [h2,h1.chk];rfl)
  have Ig:∀ f∈oM (bQ rs) N,f.sp.length≤30∧f.st.length≤30:=fun f hf=> by
   obtain⟨i,hi,rfl⟩:=eU hf;obtain⟨q,h1,h2,h3,h4⟩:=CQ i (by omega);rw [show(oM (bQ rs) N)[i]=(oM (bQ rs) N).getD i default by simp [aO,hi],h2];exact⟨MD h3,MD h4⟩
  have HFA:=zq (fun W (hW:Below w.heap.size w W)=> xp a N cap rs W hl (by omega) hn (rr.below hW) h0 (hE.below hW) (hD.below hW) fun V hV=> I9 a N cap rs V hl (by omega) hn (rr.below (aU hW hV)) h0);have HBg:=zq (fun W (hW:Below w.heap.size w W)=> yx a N cap rs W hl (by omega) hn (rr.below hW) h0 (hE.below hW) (hD.below hW));have HCf:bH (∀ W,Below w.heap.size w W→aW aC 18 #[((oM (bQ rs) N).getD 0 default).v] W (Rt (aD aE 0) W)):=fun W hW=> by
   obtain⟨q,h1,h2,h3,h4⟩:=CQ 0 hM0;rw [h2];exact XE q h1 h3 h4 W (hE.below hW)
  have HLp:bH (∀ l:Lp,l.ps∈NH (oM (bQ rs) N) (tU (oM (bQ rs) N)) (wA (bQ rs) (eK rs) (oM (bQ rs) N) N)→l.ps.length≤40∧∀ i,i < l.ps.length→∃ (q:Nat) (B:Bool),(l.ps.getD i default).side=(q:Int)∧(∃ z:Rat,HQ 6 z∧(l.ps.getD i default).fr=bJ z)∧
   (∀ W,Below w.heap.size w W→∀ (fa:Option cT) (fc:Nat),zR W fa (oM (bQ rs) N)→CL W l.a l.ps→aW aC 19 #[aB fa (dA (bQ rs) N) fc,aB l.a l.ps.length l.cap,aD aE i] W (Rt (cC #[aN (!B),aD aE 0]) W))∧
   ∀ W,Below w.heap.size w W→aW aC 20 #[cN #[aB a N cap],aD aE q] W (Rt (cC #[aN B,aD aE 0]) W)):=fun l Ib=> by
   obtain⟨r,hr,e1,hall⟩:=yz hp hIC Ib;have hle:=Mn (f:=bQ rs) hr;refine⟨by omega,fun i hi=> ?_⟩;obtain⟨j,hj,s1,s2,z,z1,z2,hnm⟩:=hall i hi;refine⟨dA (bQ rs) r + j,DS ((bQ rs r).getD (pre (bQ rs r).length j) default) ((bQ rs r).getD j default) (jG (bQ rs r) j),s1,⟨(z:Rat),HQ.int (by omega) (by decide),hnm⟩,fun W hW fa fc rf rp=> ?_,fun W hW=> ff a N cap rs (dA (bQ rs) r + j) W hl (by omega) hn (rr.below hW) h0 r j hr hj rfl⟩
   ·have h:=bt fa l.a (dA (bQ rs) N) l.ps.length fc l.cap (oM (bQ rs) N) l.ps i W (hE.below hW) NC rfl (by omega) (by omega) Ig (by omega) (by omega) rf rp;rw [XA Nz (by omega) hi hr hj (Ym r hr) s1 s2] at h;exact h
  have HFl:=zq NC;have Ad:=zq (fun (z:Rat) (h:HQ 6 z) W (hW:Below w.heap.size w W)=> uP h W (hE.below hW));have hMb:dA (bQ rs) N≤24:=c2;have HLl:bH ((NH (oM (bQ rs) N) (tU (oM (bQ rs) N)) (wA (bQ rs) (eK rs) (oM (bQ rs) N) N)).length≤40):=by
   show _≤_;unfold NH;rw [DA,cO,O4];exact g1
  clear hE hD rr sT hN hl hg h0 g1 g2 hn c0 c1 c2 c3 c4 hC Ym hp Fy hIC CQ Nz Ig NC;generalize NH (oM (bQ rs) N) (tU (oM (bQ rs) N)) (wA (bQ rs) (eK rs) (oM (bQ rs) N) N)=LP at *;generalize oM (bQ rs) N=FS at *;generalize dA (bQ rs) N=M at *;refine dE func4 rfl ?_;simp only [ntmps4,bW,bF,bY,cW,cX,bR,bS,cD,bU,cL,bZ];go_upto_region 1 with (fail)
  rw [HW.out];clear HW;go_wp2_with fail
  refine H1.out.mono ?_;rintro e W1 ⟨rfl,hb⟩;have eW:=zq (aU gY.out hb);have BC:=zq (tD.out.below hb tD.out.lt);have b0:=cF hb b0;have H2:=zq (HFA.out _ eW.out);clear hb H1 gY tD HFA;go_wp2_with fail
  refine H2.out.mono ?_;rintro e W2 ⟨⟨v1,rfl,yF⟩,hb⟩;obtain⟨fa,fc,rfl⟩:=Fk yF;have Oy:=zq (zR.own yF);have fR:=zq (aU eW.out hb);have DO:=zq (BC.out.below hb BC.out.lt);have b0:=cF hb b0;have H3:=zq (HBg.out _ fR.out);clear hb yF H2 eW BC HBg;go_wp2_with fail
  refine H3.out.mono ?_;rintro e W3 ⟨⟨v2,fD,rfl,zQ,jj⟩,hb⟩;obtain⟨la,lc,rfl⟩:=Fk zQ.1;have Tt:=zq (Oy.out.below hb);have HB3:=zq (aU fR.out hb);have MY:=zq (DO.out.below hb DO.out.lt);have b0:=cF hb b0;have HL3:=zq (jP.reads zQ);have HM3:=zq jj;have H4:=zq (HCf.out _ HB3.out);clear hb zQ jj H3 Oy fR DO HCf;obtain⟨fb,fo,rfl,f0,f1,f2,f3,f4⟩:=Tt.out.at (i:=0) (by rw [HFl.out];exact hM0) rfl;have hM0' :((M:Int)==0)=false:=by rw [beq_eq_false_iff_ne];omega
  have hM0I:(0:Int) < M:=by omega
  generalize FS.getD 0 default=F0 at *;obtain⟨Aw,CM,pA,LK,Rx⟩:=F0;unfold Fr.v Fr.cells at H4;simp only [oC,oE] at f0 f1 f2 f3 f4 H4;generalize bs LK=FSP at *;generalize bs Rx=FST at *;go_wp2_with fail
  refine H4.out.mono ?_;rintro e W4 ⟨rfl,hb⟩;have zG:=zq (aU HB3.out hb);have WD:=zq (Tt.out.below hb);have WE:=zq (MY.out.below hb MY.out.lt);have HL4:=zq (HL3.out.below hb);clear hb H4 HB3 Tt MY HL3 b0 f0 f1 f2 f3 f4;obtain⟨K,hK⟩:=nm fD.length;rw [hK];have HKl:bH (fD.length=K):=hK;have hK40:K≤40:=by
   have h:=HLl.out;rw [← HM3.out,cO,hK] at h;exact h
  clear hK;obtain⟨P1,hP1⟩:=nm w.heap.size;rw [hP1] at WE;first | rw [hP1] | skip
  clear hP1;go_wp2;go_loopw [49] (fun i wr=> ∃ k:Nat,i=aD aE k∧k≤K∧bH (Below W4.heap.size W4 wr)) (fun i _=> K - (aK i).toNat);case atStart=> exact⟨0,rfl,bN _,aH _ _⟩
  case round=>
   obtain⟨k,rfl,hk,HB⟩:=hrel;rename aF=> wr;by_cases hkK:k < K
   ·obtain⟨lb,lo,rfl,l0,rp⟩:=(HL4.out.below HB.out).at (i:=k) (by rw [HKl.out];exact hkK) rfl;have Fc:(fD.getD k default).ps∈LP:=by rw [← HM3.out];exact Fx (eB (by rw [HKl.out];exact hkK) default)
    obtain⟨q1,q2⟩:=HLp.out _ Fc;have SN:=zq q2;have jp:bH (∀ W,Below wr.heap.size wr W→CL W (fD.getD k default).a (fD.getD k default).ps):=fun W hW=> rp.below hW;clear Fc q2 rp;generalize fD.getD k default=l at *;obtain⟨ra,rc,ps⟩:=l;simp only [] at l0 q1 SN jp;obtain⟨n,hn⟩:=nm ps.length;rw [hn] at l0 q1 SN;have HPn:bH (ps.length=n):=hn;clear hn;have hkI:(k:Int) < K:=by omega
    have HkK:bH (k + 1≤K):=hkK;go_wp2;go_loopw [55] (fun i wi=> ∃ q:Nat,i=aD aE q∧q≤n∧bH (Below wr.heap.size wr wi)) (fun i _=> n - (aK i).toNat);case atStart=> exact⟨0,rfl,bN _,aH _ _⟩
    case round=>
     clear l0;obtain⟨i,rfl,hi,Bh⟩:=hrel;rename aF=> wi;by_cases hin:i < n
     ·obtain⟨pb,po,rfl,p0,p1,p2⟩:=(jp.out wi Bh.out).at (i:=i) (by rw [HPn.out];exact hin) rfl;obtain⟨q,B,e1,⟨z,e2,e3⟩,hRf,hCv⟩:=SN.out i hin;rw [e1] at p0;have yI:=zq (aU zG.out (aU HB.out Bh.out));obtain⟨V,hV⟩:=nm (wi.alloc (aJ #[aD aE q,aA (bs (ps.getD i default).fr),aA (bs (ps.getD i default).en)] 47));have Ae:=(aH _ wi).alloc (aG _) (aJ #[aD aE q,aA (bs (ps.getD i default).fr),aA (bs (ps.getD i default).en)] 47);have hqV:=bT.new wi #[aD aE q,aA (bs (ps.getD i default).fr),aA (bs (ps.getD i default).en)] 47;rw [hV] at Ae hqV;have HBV:=zq (aU yI.out Ae);have vR:=zq (aU Bh.out Ae);have HQV:=zq hqV;have Bv:=zq (aU HB.out (aU Bh.out Ae));have H1:=zq (hRf V HBV.out (some ⟨fb,fo,none⟩) fc (WD.out.below Bv.out) (jp.out V vR.out));have HCv:=zq hCv;have B8:=zq (Ad.out _ e2);rw [← e3] at B8;have HWV:=zq hV;clear hV Ae hqV e1 e2 e3 hRf hCv yI Bh;generalize bs (ps.getD i default).fr=SF at *;generalize bs (ps.getD i default).en=SE at *;have hiI:(i:Int) < n:=by omega
      go_upto_region 13 with (fail)
      rw [HWV.out];clear HWV p0 p1 p2;go_wp2_with fail
      refine H1.out.mono ?_;rintro e V1 ⟨rfl,hb1⟩;have H2:=zq (HCv.out _ (aU HBV.out hb1));have HBV1:=zq (aU HBV.out hb1);have HBw1:=zq (aU vR.out hb1);have zb:=zq (HQV.out.below hb1 HQV.out.lt);have JG:=zq (WE.out.below (aU Bv.out hb1) WE.out.lt);have b0:=JG.out.cell 0;have s0:=zb.out.cell 0;have s1:=zb.out.cell 1;simp only [aL,aI,bM] at b0 s0 s1;clear hb1 H1 HBV vR Bv HQV;go_wp2_with fail
      refine H2.out.mono ?_;rintro e V2 ⟨rfl,hb2⟩;have H3:=zq (B8.out _ (aU HBV1.out hb2));have HBV2:=zq (aU HBV1.out hb2);have Xp:=zq (aU HBw1.out hb2);have HQV2:=zq (zb.out.below hb2 zb.out.lt);have s1:=HQV2.out.cell 1;simp only [aL,aI,bM] at s1;clear hb2 H2 HBV1 HBw1 zb B8 HCv b0 s0;have hBB:(!B==B)=false:=by cases B <;> rfl
      go_wp2_with fail
      refine H3.out.mono ?_;rintro e V3 ⟨rfl,hb3⟩;have HBw3:=zq (aU Xp.out hb3);clear hb3 H3;go_wp2;go_roundw;case rel=> exact⟨i + 1,by go_num,by omega,HBw3.out⟩
      case measure=> simp only [aK];omega
     ·obtain rfl:n=i:=by omega
      have wl:=zq (aU HB.out Bh.out);have Yh:k + 1≤K:=HkK.out;go_wp2;go_roundw;case rel=> exact⟨k + 1,by go_num,HkK.out,wl.out⟩
      case measure=> simp only [aK];have:=HkK.out;omega
   ·obtain rfl:K=k:=by omega
    have H1:=zq (HAw.out _ (aU zG.out HB.out));have wl:=zq (aU zG.out HB.out);go_wp2_with fail
    refine H1.out.mono ?_;rintro e W5 ⟨rfl,hb⟩;have dp:=zq (aU wl.out hb);clear hb H1;go_wp2;exact nV (iB Tryz.results4 _ _ _) rfl ⟨rfl,dp.out⟩
end
section
open Go Go.RowKit Go.Lib Go.Deep
section
variable{H:Type}{enc:eC×aS→H}{w:aF}{base:Nat}{GW:Nat→Bool}{uA:Bool}
theorem addp(b off n:Nat):(⟨b,off,none⟩:cT).add n=⟨b,off+n,none⟩:=by unfold Addr.add;split <;>simp_all
theorem O7{a:cT}{v:aS}(h:w.cell? (a.add 0)=some v):∃b off,a=⟨b,off,none⟩:=by
 obtain⟨b,off,sp⟩:=a;have h:w.cell? ⟨b,off,sp⟩=some v:=h;unfold World.cell? at h;split at h
 ·split at h
  ·cases h
  ·rename_i h2;cases sp with
   |none=>exact⟨b,off,rfl⟩
   |some x=>exact absurd rfl h2
 ·cases h
theorem zc:Tryz.prog.cellsOf 4=1:=by kernel_rfl
theorem MG:Tryz.prog.cellsOf 3=1:=by kernel_rfl
theorem Y7{α:Type}[Inhabited α]{n:Nat}(F:Nat→α):∃l:List α,l.length=n∧∀i,i<n→l.getD i default=F i:=
 ⟨(vN n).map F,by simp,fun i hi=>by simp[aO,hi]⟩
theorem rows_at{a:cT}{len m c:Nat}(hm:len≤m)(hc0:0<c){G:Nat→Array aS}(hG:∀i,(G i).size=c)(h:∀i,i<m→w.cells? base (a.add (i*c)) c=some (G i).toList):
 ∀i,i<len→∃b off,some a=some ⟨b,off,none⟩∧∀j,j<c→w.cell? ⟨b,off+i*c+j,none⟩=some ((G i).getD j undef):=by
 intro i hi;obtain⟨-,-,k0⟩:=jg (h 0 (by omega));have k0:=k0 0 hc0;rw[oC]at k0;have ha0:(a.add 0).add 0=a.add 0:=rfl;rw[ha0]at k0;have hs:∃v,(G 0).toList[0]? =some v:=⟨_,eO (by simp[hG];omega)⟩;obtain⟨v,hv⟩:=hs;obtain⟨b,off,rfl⟩:=O7 (k0.trans hv);refine⟨b,off,rfl,fun j hj=>?_⟩;obtain⟨-,-,ki⟩:=jg (h i (by omega));have:=ki j hj;rw[addp,addp]at this;rw[this];have DM:j<(G i).size:=by rw[hG];exact hj
 simp[DM]
end
end
end Go.Proofs.YtckgmoobicmbnaaGreatDoor
