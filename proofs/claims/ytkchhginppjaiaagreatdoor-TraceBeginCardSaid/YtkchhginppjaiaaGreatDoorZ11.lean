import Derived.Deep.AppendLies
import Derived.Shelf.Spec.SlicesInsert
import Derived.Lib.Overlaps
import Derived.Lib.AppendZerosOnto
import Derived.Test.YtkchhginppjaiaaGreatDoorZ0
import Derived.Test.YtkchhginppjaiaaGreatDoorZ1
import Derived.Test.YtkchhginppjaiaaGreatDoorZ3
import Derived.Test.YtkchhginppjaiaaGreatDoorZ4
import Derived.Test.YtkchhginppjaiaaGreatDoorZ5
import Derived.Test.YtkchhginppjaiaaGreatDoorZ6
import Derived.Test.YtkchhginppjaiaaGreatDoorZ8
import Derived.Test.YtkchhginppjaiaaGreatDoorZ9
import Derived.Test.YtkchhginppjaiaaGreatDoorZ10
namespace Go.Proofs.YtkchhginppjaiaaGreatDoor
set_option maxRecDepth 100000
set_option maxHeartbeats 8000000
set_option linter.all false
open Go.Proofs.Tryz
open _root_.Array renaming getElem?_eq_getElem->mJ,size_append->mS,getElem?_toList->Cp
open _root_.Bool renaming and_eq_true->bQ,false_eq_true->bS,not_eq_true'->dP,or_eq_false_iff->kC,false_and->zT
open _root_.Classical renaming byContradiction->cZ
open _root_.Go renaming World->aF,Value->aP,Calls->bE,TypeId->dT,heap_setCell_other->eE,info_parts->lI,wpAnyIn_done->pM,size_zeroCells->zS,maxLen->Cm,cell_of_row->FG,run_copy_cells->Im,frozen_of_row->KA
open Go.Act renaming put->cS,eval->VN
open Go.Addr renaming add_lit->oK
open Go.AllReadyIn renaming nil->eB
open Go.Builtin renaming copy_->Ed,zeroCells->YL
open Go.Calls renaming mono->yZ
open Go.Ending renaming returned->bA
open Go.Extern.SlicesOverlaps renaming overlaps->bq
open Go.Fence renaming wide->eP
open Go.IntKind renaming i64->aB
open Go.IntWalk renaming i64_in->bI
open Go.Lib renaming setCells->Wm
open Go.Obj renaming cells->aN
open Go.Proofs.Tryz renaming prog->aE,underlying62->kE,ntmps143->Se,func143->VP
open Go.RowKit renaming intOf->aK,Hid->bK
open Go.RowKit.Below renaming refl->aL
open Go.Value renaming string->aA,int->aC,slice->aD,bool->aV,ownBlock->jW
open Go.World renaming cell?_setCells_out->P9
open Go.World.grownBy renaming trans->Nk
open Go.World.ownsRow renaming cellAt->dZ
open _root_.Int renaming toNat_of_nonneg->fJ,mul_nonneg->nE,toNat_natCast->nX,sub_self->uX
open _root_.List renaming getD_eq_getElem?_getD->aG,getElem?_cons_zero->aI,getElem?_toArray->aJ,length_map->aZ,length_cons->bD,getElem?_eq_getElem->bN,length_append->bO,length_nil->bV,size_toArray->cD,range->dD,mem_singleton->eJ,length_drop->eZ,getElem_of_mem->fI,length_take->fU,map_congr_left->iX,mem_map_of_mem->kZ,map_map->lY,mem_append->nG,getD_cons_succ->nR,getElem?_take->nY,getElem?_drop->rW,pairwise_cons->sO,mem_range->uW,pairwise_iff_getElem->AV,mem_of_mem_drop->Eb,nodup_iff_pairwise_ne->Oa,pairwise_map->sz,getElem_drop->ua
open _root_.List.Pairwise renaming nil->Jv
open _root_.Nat renaming le_refl->aH,le_trans->aU,zero_le->bM,mod_eq_of_lt->bY,zero_add->cC,mod_lt->dB,mod_add_mod->iE,le_of_lt->jS,add_zero->oG,add_mod_right->pL,mod_self->zP,sub_self->A6,add_comm->D9,min_def->Nl,add_assoc->YG,mul_one->bi,add_right_comm->uc,lt_or_gt_of_ne->ue
open _root_.Option renaming getD_some->bX
open _root_.Option.some renaming injEq->vY
open _root_.Prod renaming fst->R9,snd->Sa
section
open Go Go.Lib
def jU(L:Nat→Nat):Nat→Nat
 |0=>0
 |i+1=>jU L i+L i
theorem Fv{f g:Nat→Nat}{n:Nat}(h:∀j,j<n→f j=g j):jU f n=jU g n:=by
 induction n with
 |zero=>rfl
 |succ n ih=>rw[jU,jU,h n (by omega),ih fun j hj=>h j (by omega)]
theorem Yt(f:Nat→Nat)(n:Nat):jU (fun j=>f (j+1)) n+f 0=jU f (n+1):=by
 induction n with
 |zero=>simp[jU]
 |succ n ih=>rw[jU,jU,←ih];omega
theorem mv(f:Nat→Nat)(n:Nat):jU (fun j=>f ((j+1)%n)) n=jU f n:=by
 cases n with
 |zero=>rfl
 |succ n=>
  rw[jU,zP,Fv (g:=fun j=>f (j+1)) fun j hj=>by rw[bY (by omega)],Yt]
theorem Vh(f:Nat→Nat)(n:Nat):∀j,jU (fun i=>f ((i+j)%n)) n=jU f n
 |0=>Fv fun i hi=>by rw[oG,bY hi]
 |j+1=>by
  rw[←Vh f n j,←mv (fun i=>f ((i+j)%n)) n]
  refine Fv fun i _=>?_
  show f ((i+(j+1))%n)=f (((i+1)%n+j)%n)
  rw[iE,YG,D9 1 j]
theorem DN{f:Nat→Nat}{i n t:Nat}(hi:i<n)(ht:t<f i):jU f i+t<jU f n:=by
 induction n with
 |zero=>omega
 |succ n ih=>
  rw[jU];by_cases h:i<n
  ·have:=ih h;omega
  ·obtain rfl:i=n:=by omega
   omega
section
variable{S:WL}{xs ys:List (List UInt8)}{l:List Wy}{W:Nat→Nat→Wy}{L:Nat→Nat}{n:Nat}
theorem Vi(hL:∀i,i<n→0<L i)(hW:∀i,i<n→∀t,t<L i→l.getD (jU L i+t) default=W i t)(hs:∀i,i<n→∀t,t+1<L i→nT S (W i t) (W i (t+1))=true)
 (hd:∀i,i+1<n→nT S (W i (L i-1)) (W (i+1) 0)=false):∀i,i≤n→iZ S xs ys l (jU L i)=(dD i).map fun i=>⟨rR S (W i 0),Xi xs ys (W i 0),TU xs ys (W i (L i-1))⟩:=by
 intro i;induction i with
 |zero=>intro _;rfl
 |succ i ih=>
  intro hi;have ih:=ih (by omega);have hLi:=hL i (by omega);have inn:∀t,t<L i→iZ S xs ys l (jU L i+t+1)=((dD i).map fun i=>(⟨rR S (W i 0),Xi xs ys (W i 0),TU xs ys (W i (L i-1))⟩:Pt))++[⟨rR S (W i 0),Xi xs ys (W i 0),TU xs ys (W i t)⟩]:=by
   intro t;induction t with
   |zero=>
    intro _;have h0:=hW i (by omega) 0 hLi;rw[oG]at h0⊢;rw[Ma,ih,h0];by_cases hz:i=0
    ·subst hz;exact .inl rfl
    ·refine .inr ?_;obtain⟨k,rfl⟩:∃k,i=k+1:=⟨i-1,by omega⟩;have hk:=hL k (by omega);have h1:=hW k (by omega) (L k-1) (by omega);rw[h0,show jU L (k+1)-1=jU L k+(L k-1) by rw[jU];omega,h1];exact hd k (by omega)
   |succ t iht=>
    intro ht;have iht:=iht (by omega);have a:=hW i (by omega) t (by omega);have b:=hW i (by omega) (t+1) ht;obtain⟨qs,s,u,z,e1,e2⟩:=JP (S:=S) (xs:=xs) (ys:=ys) (l:=l) (k:=jU L i+t+1) (by omega) (by rw[show jU L i+t+1-1=jU L i+t by omega,a,show jU L i+t+1=jU L i+(t+1) by omega,b];exact hs i (by omega) t ht);rw[iht]at e1;obtain⟨e3,e4⟩:=List.append_inj' e1 rfl;injection e4 with e4;injection e4 with e5 e6 e7;rw[show jU L i+(t+1)+1=jU L i+t+1+1 by omega,e2,←e3,←e5,←e6,show jU L i+t+1=jU L i+(t+1) by omega,b]
  have:=inn (L i-1) (by omega);rw[jU,show jU L i+L i=jU L i+(L i-1)+1 by omega,this,List.range_succ,List.map_append];rfl
theorem J7{k:Nat}(hk:k<l.length)(h1:∀j,j<k→nT S (l.getD ((j+l.length-1)%l.length) default) (l.getD j default)=true)(h2:nT S (l.getD ((k+l.length-1)%l.length) default) (l.getD k default)=false):eN S l=k:=by
 have h3:∀m,m≤k→kX S l m=m:=by
  intro m;induction m with
  |zero=>intro _;rfl
  |succ m ih=>intro hm;rw[kX,ip (ih (by omega)),ip (h1 m (by omega))]
 have h4:kX S l (k+1)=k:=by rw[kX,ip (h3 k (aH _)),iN (by rw[h2];decide)]
 have h5:=JQ (S:=S) (l:=l) (k:=k+1) (by omega) (l.length-(k+1));rw[h4,show k+1+(l.length-(k+1))=l.length by omega]at h5;unfold eN;rw[h5,iN (by omega)]
end
def ptG(xs ys:List (List UInt8))(s:Sg):Pt:=⟨s.side,Xi xs ys (gK s 0),TU xs ys (gK s (s.len-1))⟩
theorem ae{s q:Sg}(h:s.up≠q.up):s.dir≠q.dir:=by
 unfold Sg.dir;cases hs:s.up<;>cases hq:q.up<;>rw[hs,hq]at h<;>first |exact absurd rfl h|skip
 all_goals simp only[bS,if_false,if_true];(repeat' split)<;>omega
section
variable{ls:List (List Sg)}{X Y:Int}
theorem oZ.goes'(h:oZ ls X Y){r:Nat}(hr:r<ls.length){j:Nat}(hj:j<(ls.getD r []).length):∀i t,t<((ls.getD r []).getD ((i+j)%(ls.getD r []).length) default).len→
 jY (jX (gD X Y ls.flatten)) (jU (fun i=>((ls.getD r []).getD ((i+j)%(ls.getD r []).length) default).len) i+t) (gK ((ls.getD r []).getD j default) 0)=gK ((ls.getD r []).getD ((i+j)%(ls.getD r []).length) default) t:=by
 have hs:=h.simple r hr;have hm:∀i,(i+j)%(ls.getD r []).length<(ls.getD r []).length:=fun i=>dB _ (by omega);intro i;induction i with
 |zero=>
  intro t;rw[show(0+j)%(ls.getD r []).length=j by rw[cC,bY hj]];induction t with
  |zero=>intro _;rfl
  |succ t ih=>
   intro ht;show jY _ (0+(t+1)) _=_;rw[show 0+(t+1)=(0+t)+1 by omega,jY];have:=ih (by omega);rw[show jU (fun i=>((ls.getD r []).getD ((i+j)%(ls.getD r []).length) default).len) 0=0 from rfl]at this;rw[this,h.next hr hj (by omega),ip ht]
 |succ i ih=>
  intro t;induction t with
  |zero=>
   intro _;have hl:0<((ls.getD r []).getD ((i+j)%(ls.getD r []).length) default).len:=by
    have:=hs.long _ (hm i);unfold Sg.len;omega
   rw[jU,show jU (fun i=>((ls.getD r []).getD ((i+j)%(ls.getD r []).length) default).len) i+((ls.getD r []).getD ((i+j)%(ls.getD r []).length) default).len+0=(jU (fun i=>((ls.getD r []).getD ((i+j)%(ls.getD r []).length) default).len) i+(((ls.getD r []).getD ((i+j)%(ls.getD r []).length) default).len-1))+1 by omega,jY,ih _ (by omega),h.next hr (hm i) (by omega),iN (by omega)];rw[iE,uc]
  |succ t iht=>
   intro ht;rw[←YG,jY,iht (by omega),h.next hr (hm (i+1)) (by omega),ip ht]
theorem Dj(E:List Sg)(n:Nat):sV E n=jU (fun i=>(E.getD i default).len) n:=by
 induction n with
 |zero=>rfl
 |succ n ih=>rw[sV,jU,ih]
theorem mw(F:Nat→Nat){n:Nat}(h:0<n):jU F n=jU F (n-1)+F (n-1):=by
 obtain⟨m,rfl⟩:∃m,n=m+1:=⟨n-1,by omega⟩;rfl
theorem vX{α:Type}[Inhabited α]{f:α→α}{w:α}{L k:Nat}(h:k<L):(kP f w L).getD k default=jY f k w:=by
 unfold kP;simp[aG,h]
theorem rotW_cyc{f:Wy→Wy}{w:Wy}{L k:Nat}(h1:jY f L w=w)(hk:k≤L):Fb (kP f w L) k=kP f (jY f k w) L:=(cycL_rot h1 hk).symm
theorem oZ.parts(h:oZ ls X Y){S:WL}{xs ys:List (List UInt8)}(hS:∀r j t,r<ls.length→j<(ls.getD r []).length→t<((ls.getD r []).getD j default).len→rR S (gK ((ls.getD r []).getD j default) t)=((ls.getD r []).getD j default).side)
 {w:Wy}(hw:lH (gD X Y ls.flatten) w=true):∃r j,r<ls.length∧j<(ls.getD r []).length∧(∃j0 t0,j0<(ls.getD r []).length∧t0<((ls.getD r []).getD j0 default).len∧w=gK ((ls.getD r []).getD j0 default) t0)∧
  fA S xs ys (JU (jX (gD X Y ls.flatten)) w)=(dD (ls.getD r []).length).map fun i=>ptG xs ys ((ls.getD r []).getD ((i+j)%(ls.getD r []).length) default):=by
 have se:=hw;unfold lH at se;rw[bQ,decide_eq_true_eq]at se;obtain⟨r,j0,t0,hr,hj,ht,e1,e2,e3⟩:=(h.border se.1).1 se.2;have ew:w=gK ((ls.getD r []).getD j0 default) t0:=by obtain⟨x,y,d⟩:=w;unfold gK;simp only[]at e1 e2 e3;rw[e1,e2,e3]
 refine⟨r,?_⟩;have hs:=h.simple r hr;have Zn:=h.per hr;have hg:=fun j(hj:j<(ls.getD r []).length)=>h.goes' hr hj;have hgo:=h.goes hr;have hSr:=fun j t hj ht=>hS r j t hr hj ht;clear hS e1 e2 e3 se;generalize jX (gD X Y ls.flatten)=f at *;generalize ls.getD r []=E at *;have hlen:∀j,j<E.length→0<(E.getD j default).len:=fun j hj=>by have:=hs.long j hj;unfold Sg.len;omega
 have h3:=hs.three;obtain⟨Wc,hLen⟩:∃L,sV E E.length=L:=⟨_,rfl⟩;rw[hLen]at Zn;have hPer:∀j t,j<E.length→t<(E.getD j default).len→ri f (gK (E.getD j default) t) Wc:=fun j t hj ht=>by
  rw[←hgo j hj t ht];refine Zn.from ?_;have:=DN (f:=fun i=>(E.getD i default).len) hj ht;rw[Dj,←hLen,Dj];omega
 have Kg:∀j,jU (fun i=>(E.getD ((i+j)%E.length) default).len) E.length=Wc:=fun j=>by
  rw[Vh (fun i=>(E.getD i default).len) E.length j,←Dj,hLen]
 have hm:∀i,i%E.length<E.length:=fun i=>dB _ (by omega);have hbeg:∃j1 f0,j1<E.length∧f0<Wc∧jY f f0 w=gK (E.getD j1 default) 0∧eN S (kP f w Wc)=f0:=by
  have OA:∀j t t',j<E.length→t<(E.getD j default).len→t'<(E.getD j default).len→nT S (gK (E.getD j default) t) (gK (E.getD j default) t')=true:=fun j t t' hj h1 h2=>by
   unfold nT;rw[hSr j t hj h1,hSr j t' hj h2,decide_eq_true (show(gK (E.getD j default) t).d=(gK (E.getD j default) t').d from rfl),decide_eq_true rfl];rfl
  have hdiff:∀j t t',j<E.length→nT S (gK (E.getD j default) t) (gK (E.getD ((j+1)%E.length) default) t')=false:=fun j t t' hj=>by
   unfold nT;rw[decide_eq_false (show¬(gK (E.getD j default) t).d=(gK (E.getD ((j+1)%E.length) default) t').d from ae (hs.alt j hj)),zT]
  have hlt:=DN (f:=fun i=>(E.getD i default).len) hj ht;have Ox:(kP f w Wc).length=Wc:=CN _ _;have hL0:=Zn.1;have hPw:=hPer j0 t0 hj ht;rw[←ew]at hPw;have Zi:=hg j0 hj 0 t0 (by rw[cC,bY hj];exact ht);rw[cC,bY hj]at Zi;have Zi:jY f t0 (gK (E.getD j0 default) 0)=w:=by rw[ew,←Zi];rw[show jU (fun i=>(E.getD ((i+j0)%E.length) default).len) 0=0 from rfl,cC]
  have hP0:=hPer j0 0 hj (hlen j0 hj);by_cases hz:t0=0
  ·refine⟨j0,0,hj,hL0,by rw[ew,hz];rfl,J7 (by rw[Ox];exact hL0) (fun j hj=>absurd hj (Nat.not_lt_zero _)) ?_⟩;rw[Ox,cC,bY (by omega),vX (by omega),vX hL0];have hk:=hg j0 hj (E.length-1) ((E.getD ((E.length-1+j0)%E.length) default).len-1) (by have:=hlen _ (hm (E.length-1+j0));omega);have hss:=Kg j0;have e:jU (fun i=>(E.getD ((i+j0)%E.length) default).len) (E.length-1)+((E.getD ((E.length-1+j0)%E.length) default).len-1)=Wc-1:=by
    have h1:=hlen _ (hm (E.length-1+j0));rw[←hss];have h2:=mw (fun i=>(E.getD ((i+j0)%E.length) default).len) (n:=E.length) (by omega);omega
   rw[e]at hk;rw[ew,hz,hk];have h4:=hdiff ((E.length-1+j0)%E.length) ((E.getD ((E.length-1+j0)%E.length) default).len-1) 0 (hm _);rw[iE,show E.length-1+j0+1=j0+E.length by omega,pL,bY hj]at h4;exact h4
  ·have hlj:=hlen j0 hj;have hLl:(E.getD j0 default).len<Wc:=by
    have h1:=DN (f:=fun i=>(E.getD ((i+j0)%E.length) default).len) (i:=1) (n:=E.length) (t:=0) (by omega) (hlen _ (hm _));rw[Kg j0]at h1;have h2:jU (fun i=>(E.getD ((i+j0)%E.length) default).len) 1=(E.getD j0 default).len:=by
     show 0+(E.getD ((0+j0)%E.length) default).len=_;rw[cC,cC,bY hj]
    omega
   have hin:∀t,t<(E.getD j0 default).len→jY f t (gK (E.getD j0 default) 0)=gK (E.getD j0 default) t:=fun t ht=>by
    have:=hg j0 hj 0 t (by rw[cC,bY hj];exact ht);rw[cC,bY hj]at this;rw[←this];rw[show jU (fun i=>(E.getD ((i+j0)%E.length) default).len) 0=0 from rfl,cC]
   have hiw:∀k,t0+k<(E.getD j0 default).len→jY f k w=gK (E.getD j0 default) (t0+k):=fun k hk=>by
    rw[←Zi,←mU,D9 k,hin _ hk]
   have WM:jY f ((E.getD j0 default).len-t0) w=gK (E.getD ((1+j0)%E.length) default) 0:=by
    have h1:=hg j0 hj 1 0 (hlen _ (hm _));rw[show jU (fun i=>(E.getD ((i+j0)%E.length) default).len) 1=(E.getD j0 default).len by show 0+(E.getD ((0+j0)%E.length) default).len=_;rw[cC,cC,bY hj],oG]at h1;rw[←h1,←Zi,←mU];congr 1;omega
   refine⟨(1+j0)%E.length,(E.getD j0 default).len-t0,hm _,by omega,WM,J7 (by rw[Ox];omega) (fun j hjk=>?_) ?_⟩
   ·rw[Ox];by_cases hj0':j=0
    ·subst hj0';rw[cC,bY (by omega),vX (by omega),vX hL0];have h1:jY f (Wc-1) w=gK (E.getD j0 default) (t0-1):=by
      rw[←Zi,←mU,show Wc-1+t0=(t0-1)+Wc by omega,mU,hP0.2.1,hin _ (by omega)]
     rw[h1,hiw 0 (by omega)];exact OA j0 _ _ hj (by omega) (by omega)
    ·rw[show j+Wc-1=(j-1)+Wc by omega,pL,bY (by omega),vX (by omega),vX (by omega),hiw (j-1) (by omega),hiw j (by omega)];exact OA j0 _ _ hj (by omega) (by omega)
   ·rw[Ox,show(E.getD j0 default).len-t0+Wc-1=((E.getD j0 default).len-t0-1)+Wc by omega,pL,bY (by omega),vX (by omega),vX (by omega),WM,hiw _ (by omega),D9 1 j0];exact hdiff j0 _ _ hj
 obtain⟨j1,f0,hj1,hf0,hi,hfw⟩:=hbeg;have hPw:=hPer j0 t0 hj ht;rw[←ew]at hPw;refine⟨j1,hr,hj1,⟨j0,t0,hj,ht,ew⟩,?_⟩;rw[uN hPw];unfold fA;rw[hfw,rotW_cyc hPw.2.1 (jS hf0),hi,CN,←Kg j1];have hR:=Vi (S:=S) (xs:=xs) (ys:=ys) (l:=kP f (gK (E.getD j1 default) 0) Wc) (W:=fun i t=>gK (E.getD ((i+j1)%E.length) default) t) (L:=fun i=>(E.getD ((i+j1)%E.length) default).len) (n:=E.length)
  (fun i _=>hlen _ (hm _)) (fun i hi t ht=>by
   have:=DN (f:=fun i=>(E.getD ((i+j1)%E.length) default).len) hi ht;rw[Kg j1]at this;rw[vX this];exact hg j1 hj1 i t ht) (fun i _ t ht=>by
   unfold nT;rw[hSr _ t (hm _) (by omega),hSr _ (t+1) (hm _) ht,decide_eq_true (show(gK (E.getD ((i+j1)%E.length) default) t).d=(gK (E.getD ((i+j1)%E.length) default) (t+1)).d from rfl),decide_eq_true rfl];rfl) (fun i hi=>by
   have h4:=hs.alt ((i+j1)%E.length) (hm _);rw[iE,uc]at h4;unfold nT;rw[decide_eq_false (show¬(gK (E.getD ((i+j1)%E.length) default) _).d=(gK (E.getD ((i+1+j1)%E.length) default) 0).d from ae h4),zT]) E.length (aH _)
 rw[Kg j1]at hR⊢;rw[hR];refine iX fun i _=>?_;unfold ptG;rw[hSr _ 0 (hm _) (hlen _ (hm _))]
end
theorem Yu{c:Int→Int→Bool}{X Y:Nat}(hc:tS c X Y)(ws:List Wy):∀w∈ws,lH c w=true→w∈(jA c ws).1:=by
 have:∀(ws:List Wy)st,pG c X Y st→(∀v∈st.1,v∈(ws.foldl (eR c) st).1)∧∀w∈ws,lH c w=true→w∈(ws.foldl (eR c) st).1:=by
  intro ws;induction ws with
  |nil=>intro st _;exact⟨fun v h=>h,fun w h=>absurd h (by simp)⟩
  |cons u ws ih=>
   intro st h;obtain⟨i1,i2⟩:=ih _ (h.step hc u);have Qh:∀v∈st.1,v∈(eR c st u).1:=fun v hv=>by
    unfold eR;split
    ·exact hv
    ·exact List.mem_append_left _ hv
   refine⟨fun v hv=>i1 v (Qh v hv),fun w hw hb=>?_⟩;rcases List.mem_cons.1 hw with e|hw
   ·subst e;refine i1 _ ?_;unfold eR;split
    ·rename_i hn;rcases hn with h1|h1
     ·exact h1
     ·rw[hb]at h1;cases h1
    ·refine List.mem_append_right _ ?_;obtain⟨k,hk,-⟩:=IZ hc hb;show _∈JU (jX c) w;rw[uN hk];exact oT.2 ⟨0,hk.1,rfl⟩
   ·exact i2 w hw hb
 exact(this ws _ (pG.nil c X Y)).2
theorem J8 {α β:Type} {P:α→β→Prop}:∀ {L:List α},(∀ l∈L,∃ x,P l x)→∃ rl:List (α×β),rl.map (·.1)=L∧∀ y∈rl,P y.1 y.2
 | [],_=> ⟨[],rfl,fun y h=> absurd h (by simp)⟩
 | l ::L,h=> by
  obtain⟨x,hx⟩:=h l (List.mem_cons_self ..)
  obtain⟨rl,h1,h2⟩:=J8 (L:=L) fun m hm=> h m (List.mem_cons_of_mem _ hm)
  refine⟨(l,x) ::rl,by rw [List.map_cons,h1],fun y hy=> ?_⟩
  rcases List.mem_cons.1 hy with e | hy
  ·subst e;exact hx
  ·exact h2 y hy
section
variable{ls:List (List Sg)}{X Y:Int}
def OnR(ls:List (List Sg))(r:Nat)(w:Wy):Prop:=∃j t,j<(ls.getD r []).length∧t<((ls.getD r []).getD j default).len∧w=gK ((ls.getD r []).getD j default) t
theorem oZ.on_uniq(h:oZ ls X Y){r q:Nat}(hr:r<ls.length)(hq:q<ls.length){w:Wy}(h1:OnR ls r w)(h2:OnR ls q w):r=q:=by
 obtain⟨j,t,hj,ht,rfl⟩:=h1;obtain⟨j2,t2,ZI,ht2,e⟩:=h2;unfold gK at e;injection e with e1 e2 e3;exact(h.uniq hr hq hj ZI ht ht2 e1 e2).1
theorem oZ.on_itr(h:oZ ls X Y){r:Nat}(hr:r<ls.length){w:Wy}(hw:OnR ls r w):∀k,OnR ls r (jY (jX (gD X Y ls.flatten)) k w)
 |0=>hw
 |k+1=>by
  obtain⟨j,t,hj,ht,e⟩:=h.on_itr hr hw k
  rw[jY,e,h.next hr hj ht]
  have hm:(j+1)%(ls.getD r []).length<(ls.getD r []).length:=dB _ (by omega)
  split
  ·exact⟨j,t+1,hj,by assumption,rfl⟩
  ·refine⟨_,0,hm,?_,rfl⟩
   have:=(h.simple r hr).long _ hm
   unfold Sg.len;omega
theorem oZ.on_all(h:oZ ls X Y){r:Nat}(hr:r<ls.length){w v:Wy}(hw:OnR ls r w)(hv:OnR ls r v):v∈JU (jX (gD X Y ls.flatten)) w:=by
 obtain⟨j,t,hj,ht,rfl⟩:=hw;obtain⟨j2,t2,ZI,ht2,rfl⟩:=hv;have hp:=h.per hr;rw[←h.goes hr j hj t ht,←h.goes hr j2 ZI t2 ht2];have l1:=DN (f:=fun i=>((ls.getD r []).getD i default).len) hj ht;have l2:=DN (f:=fun i=>((ls.getD r []).getD i default).len) ZI ht2;rw[←Dj,←Dj]at l1 l2;generalize sV (ls.getD r []) j+t=k1 at *;generalize sV (ls.getD r []) j2+t2=k2 at *;generalize sV (ls.getD r []) (ls.getD r []).length=L at *;rw[uN (hp.from (jS l1))];rw[oT];by_cases c:k1≤k2
 ·exact⟨k2-k1,by omega,by rw[←mU];congr 1;omega⟩
 ·refine⟨k2+L-k1,by omega,?_⟩;rw[←mU,show k2+L-k1+k1=k2+L by omega,mU,hp.2.1]
def ringP(xs ys:List (List UInt8))(E:List Sg)(j:Nat):List Pt:=(dD E.length).map fun i=>ptG xs ys (E.getD ((i+j)%E.length) default)
theorem oZ.loops (h:oZ ls X Y) {Xn Yn:Nat} (hX:X=Xn) (hY:Y=Yn) {S:WL} {xs ys:List (List UInt8)} (hS:∀ r j t,r < ls.length→j < (ls.getD r []).length→t < ((ls.getD r []).getD j default).len→rR S (gK ((ls.getD r []).getD j default) t)=((ls.getD r []).getD j default).side) :
 ∃ rl:List (Nat×Nat),(rl.map (·.1)).Perm (dD ls.length)∧(jA (gD X Y ls.flatten) (oA Xn Yn)).2.map (fA S xs ys)=rl.map fun y=> ringP xs ys (ls.getD y.1 []) y.2:=by
 have hc:tS (gD X Y ls.flatten) Xn Yn:=fun i j Lt=> by
  unfold gD at Lt;rw [decide_eq_true_eq] at Lt;omega
 have C3:=xH hc (oA Xn Yn);have hcov:=Yu hc (oA Xn Yn);generalize S8:jA (gD X Y ls.flatten) (oA Xn Yn)=st at *;obtain⟨rl,e1,e2⟩:=J8 (P:=fun (l:List Wy) (x:Nat×Nat)=> x.1 < ls.length∧(∀ v∈l,OnR ls x.1 v)∧(∀ v,OnR ls x.1 v→v∈l)∧fA S xs ys l=ringP xs ys (ls.getD x.1 []) x.2) (L:=st.2) fun l hl=> by
  obtain⟨-,w,hb,rfl⟩:=C3.pos l hl;obtain⟨r,j,hr,hj,Sr,hp⟩:=h.parts (xs:=xs) (ys:=ys) hS hb;have Sr:OnR ls r w:=Sr;refine⟨(r,j),hr,fun v hv=> ?_,fun v hv=> h.on_all hr Sr hv,hp⟩;obtain⟨k,hk, -⟩:=IZ hc hb;rw [uN hk] at hv;obtain⟨i, -,rfl⟩:=oT.1 hv;exact h.on_itr hr Sr i
 have h0:∀ r,r < ls.length→OnR ls r (gK ((ls.getD r []).getD 0 default) 0):=fun r hr=> by
  have hs:=h.simple r hr;have:=hs.three;have:=hs.long 0 (by omega);exact⟨0,0,by omega,by unfold Sg.len;omega,rfl⟩
 refine⟨rl.map (·.2), ?_, ?_⟩
 ·rw [lY];refine(List.perm_ext_iff_of_nodup ?_ List.nodup_range).2 fun r=> ?_
  ·have hnd:=C3.nd;rw [C3.all,Oa,List.pairwise_flatten,← e1,sz] at hnd;rw [Oa,sz];refine hnd.2.imp_of_mem fun {y z} hy hz hyz e=> ?_;obtain⟨a1, -,a3, -⟩:=e2 y hy;obtain⟨b1, -,b3, -⟩:=e2 z hz;have e:y.2.1=z.2.1:=e;have ho:=h0 _ a1;exact hyz _ (a3 _ ho) _ (b3 _ (by rw [← e];exact ho)) rfl
  ·rw [List.mem_map,uW];constructor
   ·rintro⟨y,hy,rfl⟩;exact(e2 y hy).1
   ·intro hr;have ho:=h0 r hr;obtain⟨j,t,hj,ht,ew⟩:=ho;have hb:=h.bord hr hj ht;rw [← ew] at hb;have hin:=hcov _ (Fg hc hb) hb;rw [C3.all,← e1] at hin;obtain⟨l,hl,hwl⟩:=List.mem_flatten.1 hin;obtain⟨y,hy,rfl⟩:=List.mem_map.1 hl;obtain⟨a1,a2, -, -⟩:=e2 y hy;exact⟨y,hy,h.on_uniq a1 hr (a2 _ hwl) ⟨j,t,hj,ht,ew⟩⟩
 ·rw [← e1,lY,lY];exact iX fun y hy=> (e2 y hy).2.2.2
end
theorem dir_par(s:Sg):s.dir%2=if s.up=true then 1 else 0:=by
 unfold Sg.dir;cases s.up<;>simp only[bS,if_false,if_true]<;>split <;>rfl
theorem ptG_seg{fs:List Fr}{at' xs ys:List (List UInt8)}{p:Pt}(h:Bq fs at' xs ys p)(hl:(gT fs at' xs ys p).a≠(gT fs at' xs ys p).b):ptG xs ys (gT fs at' xs ys p)=p:=by
 obtain⟨-,h1,h2,h3,-,-⟩:=h;have hlen:0<(gT fs at' xs ys p).len:=by unfold Sg.len;omega
 have S8:=Ys (gT fs at' xs ys p);have hen:=Yr (gT fs at' xs ys p);have hsp:=zL (gT fs at' xs ys p) ((gT fs at' xs ys p).len-1);rw[show(gT fs at' xs ys p).len-1+1=(gT fs at' xs ys p).len by omega]at hsp;have hd:=dir_par (gT fs at' xs ys p);unfold ptG Xi TU gK;simp only;rw[←hsp.1,←hsp.2];unfold bW at h1 h2;have e1:=congrArg R9 S8;have e2:=congrArg Sa S8;have e3:=congrArg R9 hen;have e4:=congrArg Sa hen;simp only at e1 e2 e3 e4;rw[e1,e2,e3,e4];unfold Bm;rw[hd];unfold gT Sg.st Sg.en at *;by_cases hu:(fs.getD p.side.toNat default).up=true
 ·simp only[hu,if_true]at h1 h2 h3⊢;rw[nX,nX,qO h2,qO h3]
 ·simp only[hu,if_false,bS]at h1 h2 h3⊢;simp only[show¬((0:Nat)=1) by decide,if_false];rw[nX,nX,qO h1,qO h3]
theorem Vj{x y:Rat}{s:Int}{e x' y':Rat}{s':Int}{e':Rat}(h:s≠s'):C4 x y s e x' y' s' e'∨C4 x' y' s' e' x y s e:=by unfold C4;grind
theorem onW_wayG{s:Sg}{t:Nat}(ht:t<s.len):Iv s (gK s t).x (gK s t).y (gK s t).d:=by
 unfold Sg.len at ht;by_cases hu:s.up=true<;>by_cases hab:s.a<s.b
 ·have e:gK s t=⟨s.line,s.a+t,1⟩:=by unfold gK Sg.px Sg.py Sg.dir;simp only[hu,hab,if_true]
  rw[e];exact⟨hu,rfl,by show s.a≤s.a+t;omega,by show s.a+t<s.b;omega⟩
 ·have e:gK s t=⟨s.line,s.a-t,3⟩:=by unfold gK Sg.px Sg.py Sg.dir;simp only[hu,hab,if_true,if_false]
  rw[e];exact⟨hu,rfl,by show s.b≤s.a-t-1;omega,by show s.a-t-1<s.a;omega⟩
 ·have hu2:s.up=false:=by simpa using hu
  have e:gK s t=⟨s.a+t,s.line,0⟩:=by unfold gK Sg.px Sg.py Sg.dir;simp only[hu2,hab,if_true,if_false,bS]
  rw[e];exact⟨hu2,rfl,by show s.a≤s.a+t;omega,by show s.a+t<s.b;omega⟩
 ·have hu2:s.up=false:=by simpa using hu
  have e:gK s t=⟨s.a-t,s.line,2⟩:=by unfold gK Sg.px Sg.py Sg.dir;simp only[hu2,hab,if_false,bS]
  rw[e];exact⟨hu2,rfl,by show s.b≤s.a-t-1;omega,by show s.a-t-1<s.a;omega⟩
theorem tX{α:Type}[Inhabited α](f:Nat→α){n i:Nat}(hi:i<n):((dD n).map f).getD i default=f i:=by
 simp[aG,hi]
section
variable{fs:List Fr}{at':List (List UInt8)}{ls:List Lp}
theorem BH(xs ys:List (List UInt8))(r:Nat):(iQ fs at' xs ys ls).getD r []=(ls.getD r default).ps.map (gT fs at' xs ys):=by
 unfold iQ;rw[aG,List.getElem?_map,aG];cases ls[r]? <;>rfl
theorem DO{α β:Type}[Inhabited α][Inhabited β](f:α→β)(l:List α){i:Nat}(hi:i<l.length):(l.map f).getD i default=f (l.getD i default):=by
 simp[aG,hi]
theorem Vk {xs ys:List (List UInt8)} (hp:∀ p∈ls.flatMap Lp.ps,Bq fs at' xs ys p) (hL:oZ (iQ fs at' xs ys ls) xs.length ys.length) :
 ∃ rl:List (Nat×Nat),(rl.map (·.1)).Perm (dD ls.length)∧GM fs at' xs ys ls=rl.map fun y=> (dD (ls.getD y.1 default).ps.length).map fun i=> (ls.getD y.1 default).ps.getD ((i + y.2) % (ls.getD y.1 default).ps.length) default:=by
 have hlen:(iQ fs at' xs ys ls).length=ls.length:=by unfold iQ;rw [aZ]
 have Ie:=Bt fs at' xs ys ls;have hc:=AB fs at' xs ys ls;have hS:∀ r j t,r < (iQ fs at' xs ys ls).length→j < ((iQ fs at' xs ys ls).getD r []).length→t < (((iQ fs at' xs ys ls).getD r []).getD j default).len→rR (Uy (C5 fs at' xs ys ls) xs.length ys.length) (gK (((iQ fs at' xs ys ls).getD r []).getD j default) t)=(((iQ fs at' xs ys ls).getD r []).getD j default).side:=fun r j t hr hj ht=> by
  have hb:=hL.bord hr hj ht;rw [Ie] at hb;rw [MH (Fg hc hb)];unfold XE C5;have hm:((iQ fs at' xs ys ls).getD r []).getD j default∈(iQ fs at' xs ys ls).flatten:=List.mem_flatten.2 ⟨_,bU hr [],bU hj default⟩;rw [← Ie];have h1:=OV hm (onW_wayG ht);obtain⟨s0,Zf⟩:=Option.isSome_iff_exists.1 h1;rw [Zf];obtain⟨s,hs,ho,e⟩:=Mf Zf;rw [bX,← e];obtain⟨E,hE,hsE⟩:=List.mem_flatten.1 hs;obtain⟨r2,Zj,rfl⟩:=List.mem_iff_getElem.1 hE;obtain⟨j2,ZI,rfl⟩:=List.mem_iff_getElem.1 hsE;have g1:(iQ fs at' xs ys ls)[r2]=(iQ fs at' xs ys ls).getD r2 []:=by simp [aG,Zj]
  have g2:(iQ fs at' xs ys ls)[r2][j2]=((iQ fs at' xs ys ls).getD r2 []).getD j2 default:=by simp [aG,Zj,ZI]
  rw [g2] at ho ⊢;obtain⟨t2,ht2,e1,e2, -⟩:=aa (Sg.dir_lt _) ho;obtain⟨rfl,rfl, -⟩:=hL.uniq hr Zj hj (by rw [← g1];exact ZI) ht ht2 e1.symm e2.symm;rfl
 obtain⟨rl,h1,h2⟩:=hL.loops (Xn:=xs.length) (Yn:=ys.length) rfl rfl (xs:=xs) (ys:=ys) hS;rw [hlen] at h1;refine⟨rl,h1, ?_⟩;unfold GM nB;unfold C5 at h2 ⊢;rw [Ie] at h2;rw [h2];refine iX fun y hy=> ?_;have rj:y.1 < ls.length:=List.mem_range.1 (h1.mem_iff.1 (kZ hy));unfold ringP;rw [BH,aZ];refine iX fun i hi=> ?_;rw [uW] at hi;have hm:(i + y.2) % (ls.getD y.1 default).ps.length < (ls.getD y.1 default).ps.length:=dB _ (by omega);rw [DO _ _ hm];refine ptG_seg (hp _ (List.mem_flatMap.2 ⟨_,bU rj default,bU hm default⟩)) ?_;have hs:=hL.simple y.1 (by rw [hlen];exact rj);rw [BH] at hs;have:=hs.long _ (by rw [aZ];exact hm);rwa [DO _ _ hm] at this
theorem trc_arr {xs ys:List (List UInt8)} (hp:∀ p∈ls.flatMap Lp.ps,Bq fs at' xs ys p) (hL:oZ (iQ fs at' xs ys ls) xs.length ys.length) (Cd:∀ l∈ls,0 < l.ps.length∧∀ p∈l.ps,uS fs at' p)
 (hd:∀ r i q k,r < ls.length→q < ls.length→i < (ls.getD r default).ps.length→k < (ls.getD q default).ps.length→(r≠q∨i≠k)→((ls.getD r default).ps.getD i default).side≠((ls.getD q default).ps.getD k default).side) :
 Bv fs at' (GM fs at' xs ys ls)=Bv fs at' (ls.map Lp.ps):=by
 obtain⟨rl,h1,h2⟩:=Vk hp hL;have hokr:∀ r,r < ls.length→0 < (ls.getD r default).ps.length∧∀ i,i < (ls.getD r default).ps.length→uS fs at' ((ls.getD r default).ps.getD i default):=fun r hr=> by
  obtain⟨a,b⟩:=Cd _ (bU hr default);exact⟨a,fun i hi=> b _ (bU hi default)⟩
 have hrot:∀ y∈rl,pP fs at' ((dD (ls.getD y.1 default).ps.length).map fun i=> (ls.getD y.1 default).ps.getD ((i + y.2) % (ls.getD y.1 default).ps.length) default)=pP fs at' (ls.getD y.1 default).ps:=fun y hy=> by
  have rj:y.1 < ls.length:=List.mem_range.1 (h1.mem_iff.1 (kZ hy));obtain⟨a,b⟩:=hokr _ rj;refine rotP_rot (k:=y.2) b (fun i j hi hj iC=> Vj (hd _ _ _ _ rj rj hi hj (.inr iC))) a (by simp) fun i hi=> tX _ hi
 have hP:((GM fs at' xs ys ls).map (pP fs at')).Perm ((ls.map Lp.ps).map (pP fs at')):=by
  have e1:(GM fs at' xs ys ls).map (pP fs at')=(rl.map (·.1)).map fun r=> pP fs at' (ls.getD r default).ps:=by
   rw [h2,lY,lY];exact iX fun y hy=> hrot y hy
  have e2:(ls.map Lp.ps).map (pP fs at')=(dD ls.length).map fun r=> pP fs at' (ls.getD r default).ps:=by
   rw [lY];refine List.ext_getElem (by simp) fun i h3 h4=> ?_;have hi:i < ls.length:=by simpa using h3
   simp [aG,hi]
  rw [e1,e2];exact h1.map _
 have pF:∀ z∈(ls.map Lp.ps).map (pP fs at'),∃ r,r < ls.length∧z=pP fs at' (ls.getD r default).ps:=fun z hz=> by
  rw [lY] at hz;obtain⟨l,hl,rfl⟩:=List.mem_map.1 hz;obtain⟨r,hr,rfl⟩:=List.mem_iff_getElem.1 hl;exact⟨r,hr,by simp [aG,hr]⟩
 have hhd:∀ r,r < ls.length→∃ m,m < (ls.getD r default).ps.length∧(pP fs at' (ls.getD r default).ps).getD 0 default=(ls.getD r default).ps.getD m default:=fun r hr=> by
  obtain⟨a,b⟩:=hokr _ hr;exact⟨_,dB _ a,GW _ a 0 a⟩
 have hS:∀ z∈(GM fs at' xs ys ls).map (pP fs at'),uS fs at' (z.getD 0 default):=fun z hz=> by
  obtain⟨r,hr,rfl⟩:=pF z (hP.mem_iff.1 hz);obtain⟨m,hm,e⟩:=hhd r hr;rw [e];exact(hokr r hr).2 m hm
 have hlt:∀ x y:List Pt,uS fs at' (x.getD 0 default)→uS fs at' (y.getD 0 default)→(ltL fs at' x y=true↔N3 fs at' (x.getD 0 default) (y.getD 0 default)):=fun x y hx hy=> by
  unfold ltL;rw [decide_eq_true_iff];exact yR hx hy
 have hlf:∀ x y:List Pt,uS fs at' (x.getD 0 default)→uS fs at' (y.getD 0 default)→(ltL fs at' x y=false↔¬ N3 fs at' (x.getD 0 default) (y.getD 0 default)):=fun x y hx hy=> by
  rw [← hlt x y hx hy];simp
 unfold Bv;refine sortL_eq (S:=fun z:List Pt=> uS fs at' (z.getD 0 default)) (fun x y z hx hy hz a b=> ?_) (fun x y hx hy a=> ?_) hS hP fun a b ha hb h3 h4=> ?_
 ·rw [hlf x y hx hy] at a;rw [hlf y z hy hz] at b;rw [hlf x z hx hz];exact Fl a b
 ·rw [hlt x y hx hy] at a;rw [hlf y x hy hx];exact lex_asym a
 ·obtain⟨r,hr,rfl⟩:=pF a (hP.mem_iff.1 ha);obtain⟨q,hq,rfl⟩:=pF b (hP.mem_iff.1 hb);by_cases iC:r=q
  ·rw [iC]
  ·exfalso;rw [hlf _ _ (hS _ ha) (hS _ hb)] at h3;rw [hlf _ _ (hS _ hb) (hS _ ha)] at h4;obtain⟨m,hm,e1⟩:=hhd r hr;obtain⟨k,hk,e2⟩:=hhd q hq;rw [e1,e2] at h3 h4;exact(Vj (hd r m q k hr hq hm hk (.inl iC))).elim h3 h4
end
end
section
open Go Go.RowKit Go.Lib
theorem N6{n:Int}{d:Nat}(hd:d≠0):mkRat n d*((d:Int):Rat)=(n:Rat):=by
 rw[Rat.mkRat_eq_div];have:((d:Int):Rat)≠0:=by
  intro h;have:=(Rat.intCast_eq_zero_iff).1 h;omega
 exact Rat.div_mul_cancel this
theorem frS_ok{s t:Sd}(h:vV s=true)(hc:0≤s.x∧s.x≤65536∧0≤s.y∧s.y≤65536):(ND s t).Ok∧(ND s t).q.t=(s.plate:Rat)∧0≤s.plate∧s.plate≤65536:=by
 obtain⟨p1,p2,p3⟩:=sid_bd (x:=s.x) (y:=s.y) (rise:=s.rise) (run:=s.run) (gable:=s.gable) (plate:=s.plate) (over:=s.over) h;have hco:=co_bd (t:=t) hc;have et:(mkRat s.plate 1)=((s.plate:Int):Rat):=Rat.mkRat_one _;have e:ND s t=FQ.fr ⟨EG (vA s t),if EG (vA s t)=true then s.x else s.y,Wb (vA s t),if s.gable=true then 0 else mkRat s.run s.rise.toNat,((s.plate:Int):Rat)⟩:=by
  unfold ND FQ.fr;rw[et];congr 1;cases s.gable
  ·rfl
  ·exact Dx.symm
 have hg:FQ.Good ⟨EG (vA s t),if EG (vA s t)=true then s.x else s.y,Wb (vA s t),if s.gable=true then 0 else mkRat s.run s.rise.toNat,((s.plate:Int):Rat)⟩:=by
  refine⟨hco.1,hco.2,?_,?_,⟨s.plate.toNat,by omega,by show((s.plate:Int):Rat)=_;rw[fJ p1]⟩⟩
  ·show Wb (vA s t)=1∨Wb (vA s t)= -1;unfold Wb;split
   ·exact .inl rfl
   ·exact .inr rfl
  ·cases hgb:s.gable
   ·obtain⟨a1,a2,a3,a4⟩:=p3 hgb;refine⟨s.run.toNat,s.rise.toNat,by omega,by omega,by omega,?_⟩;show(if false=true then(0:Rat)else mkRat s.run s.rise.toNat)*_=_;rw[iN (by decide),fJ (show 0≤s.run by omega)];exact N6 (by omega)
   ·exact⟨0,1,by omega,by omega,by omega,by show(if true=true then(0:Rat)else mkRat s.run s.rise.toNat)*_=_;rw[ip rfl,Rat.zero_mul];rfl⟩
 refine⟨?_,?_,p1,p2⟩
 ·rw[e];exact hg.ok
 ·rw[e,FQ.fr_q]
end
section
section
variable{E:List Sg}
theorem Dk(c:Int)(f:Nat→Int)(n:Nat):eS (fun j=>c*f j) n=c*eS f n:=by
 induction n with
 |zero=>simp[eS]
 |succ n ih=>rw[eS,eS,ih,Int.mul_add]
theorem tele_all(X:Nat→Int)(m:Nat):eS (fun i=>(X (i+1)-X i)*(if(i:Int)<m then 1 else 0)) m=X m-X 0:=by
 rw[iF (g:=fun i=>X (i+1)-X i) fun j hj=>by rw[ip (by omega)];omega];induction m with
 |zero=>simp[eS]
 |succ m ih=>rw[eS,ih];omega
theorem Rw (X : Nat → Int) {l m : Nat} (h : l ≤ m) : eS (fun i => (X (i + 1) - X i) * (if (i : Int) < l then 1 else 0)) m = X l - X 0 := by
  induction m with
  | zero => obtain rfl : l = 0 := by omega
            simp [eS]
  | succ m ih =>
    rw [eS]
    by_cases c : l ≤ m
    · rw [ih c, iN (by omega)]; omega
    · obtain rfl : l = m + 1 := by omega
      rw [iF (g := fun i => (X (i + 1) - X i) * (if (i : Int) < m then 1 else 0)) fun j hj => by rw [ip (by omega), ip (by omega)], ip (by omega)]
      have := tele_all X m
      omega
theorem crs_two(a b i:Int):xR a b i=(if i<b then 1 else 0)-(if i<a then 1 else 0):=by
 unfold xR;(repeat' split)<;>omega
theorem Vl(Y:Nat→Int){a b n:Nat}(ha:a≤n)(hb:b≤n):eS (fun k=>(Y (k+1)-Y k)*xR a b k) n=Y b-Y a:=by
 rw[iF (g:=fun k=>(Y (k+1)-Y k)*(if(k:Int)<b then 1 else 0)-(Y (k+1)-Y k)*(if(k:Int)<a then 1 else 0)) fun j _=>by rw[crs_two,Int.mul_sub],Cu,Rw Y hb,Rw Y ha];omega
theorem Lc(c:Int)(f:Sg→Int)(l:List Sg):oH (fun s=>c*f s) l=c*oH f l:=by
 induction l with
 |nil=>simp[oH]
 |cons s l ih=>rw[oH,oH,ih,Int.mul_add]
theorem RA(f:Sg→Nat→Int)(n:Nat)(l:List Sg):oH (fun s=>eS (f s) n) l=eS (fun k=>oH (fun s=>f s k) l) n:=by
 induction n with
 |zero=>exact Ct fun _ _=>rfl
 |succ n ih=>rw[eS,←ih,←FX];rfl
def upA(X Y:Nat→Int)(s:Sg):Int:=if s.up=true then X s.line.toNat*(Y s.b.toNat-Y s.a.toNat)else 0
theorem mz(X Y:Nat→Int){m n:Nat}{s:Sg}(h:lQ (m+1) (n+1) s):
 upA X Y s=eS (fun k=>(Y (k+1)-Y k)*eS (fun i=>(X (i+1)-X i)*Lr s i k) m) n+X 0*eS (fun k=>(Y (k+1)-Y k)*Lr s (-1) k) n:=by
 obtain⟨h1,h2,h3,h4,-⟩:=h;by_cases u:s.up=true
 ·obtain⟨h5,h6,h7⟩:=h4 u;have hl:((s.line.toNat:Nat):Int)=s.line:=fJ h1;have ea:((s.a.toNat:Nat):Int)=s.a:=fJ h2;have eb:((s.b.toNat:Nat):Int)=s.b:=fJ h3;have hi:∀k:Nat,eS (fun i=>(X (i+1)-X i)*Lr s i k) m=xR s.a s.b k*(X s.line.toNat-X 0):=fun k=>by
   rw[←Rw X (l:=s.line.toNat) (m:=m) (by omega),←Dk];refine iF fun j _=>?_;unfold Lr;rw[hl];by_cases c:(j:Int)<s.line
   ·rw[ip ⟨u,c⟩,ip c,Int.mul_one,Int.mul_comm]
   ·rw[iN (fun k=>c k.2),iN c];simp
  have ho:eS (fun k=>(Y (k+1)-Y k)*eS (fun i=>(X (i+1)-X i)*Lr s i k) m) n=(X s.line.toNat-X 0)*(Y s.b.toNat-Y s.a.toNat):=by
   rw[←Vl Y (a:=s.a.toNat) (b:=s.b.toNat) (n:=n) (by omega) (by omega),←Dk];refine iF fun j _=>?_;rw[hi j,ea,eb];grind
  have hz:eS (fun k=>(Y (k+1)-Y k)*Lr s (-1) k) n=Y s.b.toNat-Y s.a.toNat:=by
   rw[←Vl Y (a:=s.a.toNat) (b:=s.b.toNat) (n:=n) (by omega) (by omega)];refine iF fun j _=>?_;unfold Lr;rw[ip ⟨u,by omega⟩,ea,eb]
  rw[ho,hz];unfold upA;rw[ip u];grind
 ·have z:∀i k,Lr s i k=0:=fun i k=>by unfold Lr;rw[iN fun c=>u c.1]
  unfold upA;rw[iN u];rw[wR fun j _=>by rw[wR fun i _=>by rw[z];simp];simp,wR fun j _=>by rw[z];simp];simp
theorem green(X Y:Nat→Int){m n:Nat}(hr:Aj E)(h:∀s∈E,lQ (m+1) (n+1) s):
 oH (upA X Y) E=eS (fun k=>(Y (k+1)-Y k)*eS (fun i=>(X (i+1)-X i)*dE E i k) m) n:=by
 have hz:∀k:Nat,oH (fun s=>Lr s (-1) k) E=0:=fun k=>by
  have:=FY (ls:=[E]) (X:=m+1) (Y:=n+1) (by intro l hl;rw[eJ]at hl;subst hl;exact hr) (by simpa using h) (i:= -1) (by omega) k;simpa[dE]using this
 rw[tK fun s hs=>mz X Y (h s hs),FX,Lc,RA,RA];rw[wR (f:=fun k=>oH (fun s=>(Y (k+1)-Y k)*Lr s (-1) k) E) fun k _=>by rw[Lc,hz k];simp];simp only[Int.mul_zero,Int.add_zero];refine iF fun k _=>?_;rw[Lc,RA];congr 1;refine iF fun i _=>?_;rw[Lc];rfl
theorem yV{f:Nat→Int}{n:Nat}(h:∀j,j<n→0≤f j):0≤eS f n:=by
 induction n with
 |zero=>exact Int.le_refl _
 |succ n ih=>rw[eS];have:=h n (by omega);have:=ih fun j hj=>h j (by omega);omega
theorem gW.area(hs:gW E)(X Y:Nat→Int){m n:Nat}(h:∀s∈E,lQ (m+1) (n+1) s)(hx:∀i,i<m→X i<X (i+1))(hy:∀i,i<n→Y i<Y (i+1)):
 (Cj E (E.getD 0 default) 0=1→0≤oH (upA X Y) E)∧(Cj E (E.getD 0 default) 0=0→oH (upA X Y) E≤0):=by
 have hv:∀i k:Nat,dE E i k=0∨(dE E i k=Cj E (E.getD 0 default) 0∨dE E i k=Cj E (E.getD 0 default) 0-1):=fun i k=>by
  have:=hs.vals h k (i+1);rw[show((i+1:Nat):Int)-1=i by omega]at this;omega
 rw[green X Y hs.ring h];refine⟨fun c=>?_,fun c=>?_⟩
 ·refine yV fun k hk=>nE (by have:=hy k hk;omega) (yV fun i hi=>nE (by have:=hx i hi;omega) ?_);have:=hv i k;omega
 ·have hn:0≤eS (fun k=>(Y (k+1)-Y k)*eS (fun i=>(X (i+1)-X i)* -dE E i k) m) n:=by
   refine yV fun k hk=>nE (by have:=hy k hk;omega) (yV fun i hi=>nE (by have:=hx i hi;omega) ?_);have:=hv i k;omega
  have e:eS (fun k=>(Y (k+1)-Y k)*eS (fun i=>(X (i+1)-X i)* -dE E i k) m) n= -1*eS (fun k=>(Y (k+1)-Y k)*eS (fun i=>(X (i+1)-X i)*dE E i k) m) n:=by
   rw[←Dk];refine iF fun k _=>?_;rw[show(fun i:Nat=>(X (i+1)-X i)* -dE E i k)=fun i:Nat=> -1*((X (i+1)-X i)*dE E i k) by funext i;grind,Dk];grind
  omega
end
section
variable{E F:List Sg}{X Y:Int}
theorem least{P:Nat→Prop}:∀m,P m→∃k,P k∧∀j,j<k→¬P j:=by
 intro m;induction m using Nat.strongRecOn with
 |_ m ih=>
  intro hm;by_cases c:∃j,j<m∧P j
  ·obtain⟨j,h1,h2⟩:=c;exact ih j h1 h2
  ·exact⟨m,hm,fun j h1 h2=>c ⟨j,h1,h2⟩⟩
theorem Pz(hr:Aj E)(hg:∀s∈E,lQ X Y s){i:Int}(hi:i<0)(k:Int):dE E i k=0:=by
 have:=FY (ls:=[E]) (X:=X) (Y:=Y) (by intro l hl;rw[eJ]at hl;subst hl;exact hr) (by simpa using hg) hi k;simpa using this
theorem wind_up(hr:Aj E)(hg:∀s∈E,lQ X Y s){i k:Int}(h:dE E i k≠0):∃j,j<E.length∧(E.getD j default).up=true∧(E.getD j default).line≤i:=by
 refine cZ fun hn=>h ?_;by_cases c:i<0
 ·exact Pz hr hg c k
 ·rw[←Pz hr hg (i:= -1) (by omega) k];unfold dE;refine tK fun s hs=>?_;obtain⟨j,hj,rfl⟩:=List.mem_iff_getElem.1 hs;have ej:E.getD j default=E[j]:=by simp[aG,hj]
  have h0:=(hg _ hs).1;unfold Lr;by_cases u:E[j].up=true
  ·have hl:i<E[j].line:=by
    refine cZ fun c2=>hn ⟨j,hj,by rw[ej];exact u,by rw[ej];omega⟩
   rw[ip ⟨u,hl⟩,ip ⟨u,by omega⟩]
  ·rw[iN fun z=>u z.1,iN fun z=>u z.1]
theorem gW.left(h:gW E)(hg:∀s∈E,lQ X Y s):∃j,j<E.length∧(E.getD j default).up=true∧∀i,i<E.length→(E.getD i default).up=true→(E.getD j default).line≤(E.getD i default).line:=by
 obtain⟨i,hi,hu⟩:=h.upr;have hp:∀j,j<E.length→0≤(E.getD j default).line:=fun j hj=>(hg _ (bU hj default)).1;obtain⟨k,⟨j,hj,hju,e⟩,hk⟩:=least (P:=fun m=>∃j,j<E.length∧(E.getD j default).up=true∧(E.getD j default).line.toNat=m) _ ⟨i,hi,hu,rfl⟩;refine⟨j,hj,hju,fun i hi hiu=>cZ fun c=>?_⟩;have:=hp i hi;have:=hp j hj;exact hk (E.getD i default).line.toNat (by omega) ⟨i,hi,hiu,rfl⟩
theorem af(hE:gW E)(hF:gW F)(gE:∀s∈E,lQ X Y s)(gF:∀s∈F,lQ X Y s)(ha:BG E F)(hn:dE F ((E.getD 0 default).px 0) ((E.getD 0 default).py 0)≠0){j:Nat}(hj:j<E.length)(hu:(E.getD j default).up=true):
 ∃i,i<F.length∧(F.getD i default).up=true∧(F.getD i default).line<(E.getD j default).line:=by
 have hc:=J5 hE.ring hF.ring ha j hj 0 (bM _);have hx:(E.getD j default).px 0=(E.getD j default).line:=by unfold Sg.px;rw[ip hu]
 have h1:=(Ru hF.ring (fun q hq=>ha _ (bU hj default) q hq _ _ (N5 (s:=E.getD j default) (t:=0) (bM _))) 1 (by omega)).1;unfold vK at h1;simp only[]at h1;rw[hc,hx]at h1;obtain⟨i,hi,hiu,hl⟩:=wind_up hF.ring gF (i:=(E.getD j default).line-1) (k:=(E.getD j default).py 0) (by rw[h1];exact hn);exact⟨i,hi,hiu,by omega⟩
theorem not_both(hE:gW E)(hF:gW F)(gE:∀s∈E,lQ X Y s)(gF:∀s∈F,lQ X Y s)(ha:BG E F)(h1:dE F ((E.getD 0 default).px 0) ((E.getD 0 default).py 0)≠0):dE E ((F.getD 0 default).px 0) ((F.getD 0 default).py 0)=0:=by
 refine cZ fun h2=>?_;obtain⟨j,hj,hju,hjm⟩:=hE.left gE;obtain⟨i,hi,hiu,him⟩:=hF.left gF;obtain⟨a,ha1,ha2,ha3⟩:=af hE hF gE gF ha h1 hj hju;obtain⟨b,hb1,hb2,hb3⟩:=af hF hE gF gE (fun s hs q hq x y h3 h4=>ha q hq s hs x y h4 h3) h2 hi hiu;have:=him a ha1 ha2;have:=hjm b hb1 hb2;omega
variable{ls:List (List Sg)}
theorem laid_of(hs:∀r,r<ls.length→gW (ls.getD r []))(hg:∀s∈ls.flatten,lQ X Y s)(ha:∀r q,r<ls.length→q<ls.length→r≠q→BG (ls.getD r []) (ls.getD q []))(h0:0<ls.length)
 (hc:Cj (ls.getD 0 []) ((ls.getD 0 []).getD 0 default) 0=1)(hd:∀r,0<r→r<ls.length→Cj (ls.getD r []) ((ls.getD r []).getD 0 default) 0=0)
 (hi:∀r,0<r→r<ls.length→dE (ls.getD 0 []) (((ls.getD r []).getD 0 default).px 0) (((ls.getD r []).getD 0 default).py 0)≠0)
 (ho:∀r q,0<r→0<q→r<ls.length→q<ls.length→r≠q→dE (ls.getD q []) (((ls.getD r []).getD 0 default).px 0) (((ls.getD r []).getD 0 default).py 0)=0):oZ ls X Y:=by
 have gr:∀r,r<ls.length→∀s∈ls.getD r [],lQ X Y s:=fun r hr s hm=>hg s (List.mem_flatten.2 ⟨_,bU hr [],hm⟩);refine⟨hs,hg,ha,fun r hr=>?_⟩;by_cases c:r=0
 ·subst c;rw[xO h0 fun q hq hn=>?_]
  ·unfold Vg;rw[ip rfl,hc]
  ·unfold Vg;rw[iN hn];exact not_both (hs q hq) (hs 0 h0) (gr q hq) (gr 0 h0) (ha q 0 hq h0 hn) (hi q (by omega) hq)
 ·rw[xO h0 fun q hq hn=>?_]
  ·unfold Vg;rw[iN fun e=>c e.symm];have hn:=hi r (by omega) hr;have hp:∃n:Nat,((ls.getD r []).getD 0 default).px 0=(n:Int)-1:=by
    have h3:=(hs r hr).three;have hm:=gr r hr _ (bU (i:=0) (by omega) default);obtain⟨m1,m2,-⟩:=hm;refine⟨(((ls.getD r []).getD 0 default).px 0+1).toNat,?_⟩;have:0≤((ls.getD r []).getD 0 default).px 0:=by unfold Sg.px;(repeat' split)<;>omega
    omega
   obtain⟨n,zu⟩:=hp;have hv:=(hs 0 h0).vals (gr 0 h0) (((ls.getD r []).getD 0 default).py 0) n;rw[←zu,hc]at hv;omega
  ·unfold Vg;by_cases e:q=r
   ·subst e;rw[ip rfl];exact hd q (by omega) hq
   ·rw[iN e];exact ho r q (by omega) (by omega) hr hq (Ne.symm e)
end
end
section
open Go
section
theorem ag{X:Nat→Int}{m:Nat}(h:∀i,i<m→X i<X (i+1)):∀j,j≤m→∀i,i<j→X i<X j:=by
 intro j;induction j with
 |zero=>intro _ i hi;omega
 |succ j ih=>
  intro hj i hi;have h1:=h j (by omega);by_cases c:i=j
  ·subst c;exact h1
  ·have:=ih (by omega) i (by omega);omega
theorem AO{X:Nat→Int}{m:Nat}(h:∀i,i<m→X i<X (i+1)){i j:Nat}(hi:i≤m)(hj:j≤m):X i<X j↔i<j:=by
 refine⟨fun c=>cZ fun n=>?_,ag h j hj i⟩;by_cases e:i=j
 ·subst e;omega
 ·have:=ag h i hi j (by omega);omega
structure PA(X Y:Nat→Int)(m n:Nat)(l:List Sd)(E:List Sg):Prop where
 len:E.length=l.length
 up:∀j,j<l.length→(E.getD j default).up=((l.getD j default).x==(fF l j).x)
 grid:∀s∈E,lQ (m+1) (n+1) s
 u:∀j,j<l.length→(E.getD j default).up=true→X (E.getD j default).line.toNat=(l.getD j default).x∧Y (E.getD j default).a.toNat=(l.getD j default).y∧Y (E.getD j default).b.toNat=(fF l j).y
 v:∀j,j<l.length→(E.getD j default).up=false→Y (E.getD j default).line.toNat=(l.getD j default).y∧X (E.getD j default).a.toNat=(l.getD j default).x∧X (E.getD j default).b.toNat=(fF l j).x∧(fF l j).y=(l.getD j default).y
theorem odd_par{f:Nat→Int}{p:Nat→Bool}{n:Nat}(h:∀j,j<n→f j%2=if p j=true then 1 else 0):eS f n%2=if xY p n=true then 1 else 0:=by
 induction n with
 |zero=>simp[eS,xY]
 |succ n ih=>
  have h1:=h n (by omega);have h2:=ih fun j hj=>h j (by omega);rw[eS,xY];cases hp:p n<;>cases ho:xY p n<;>simp[hp,ho]at h1 h2⊢<;>omega
variable{X Y:Nat→Int}{m n:Nat}{l:List Sd}{E:List Sg}
theorem PA.ins(h:PA X Y m n l E)(hx:∀i,i<m→X i<X (i+1))(hy:∀i,i<n→Y i<Y (i+1)){i k:Nat}(hi:i≤m)(hk:k≤n):
 dE E i k%2=if GR l (X i) (Y k)=true then 1 else 0:=by
 unfold dE GR;rw[uF,h.len];refine odd_par fun j hj=>?_;have hu:=h.up j hj;have hg:=h.grid _ (bU (by rw[h.len];exact hj) default:E.getD j default∈E);have h1:=h.u j hj;unfold zI BZ B7;generalize E.getD j default=s at *;generalize l.getD j default=p at *;generalize fF l j=q at *;obtain⟨g1,g2,g3,g4,-⟩:=hg;by_cases c:s.up=true
 ·obtain⟨e1,e2,e3⟩:=h1 c;obtain⟨b1,b2,b3⟩:=g4 c;have hpq:(p.x==q.x)=true:=by rw[←hu,c]
  have hxx:p.x=q.x:=by simpa using hpq
  have m1:=AO hx hi (j:=s.line.toNat) (by omega);have m2:=AO hy hk (j:=s.a.toNat) (by omega);have m3:=AO hy hk (j:=s.b.toNat) (by omega);have m4:=AO hy (i:=s.a.toNat) (j:=s.b.toNat) (by omega) (by omega);have m5:=AO hy (i:=s.b.toNat) (j:=s.a.toNat) (by omega) (by omega);rw[e1,hxx]at m1;rw[e2]at m2 m4 m5;rw[e3]at m3 m4 m5;rw[hpq];unfold Lr xR;simp only[c,true_and,Bool.true_and,bQ,decide_eq_true_eq];(repeat' split)<;>omega
 ·have hpq:(p.x==q.x)=false:=by rw[←hu];simpa using c
  rw[hpq];unfold Lr;rw[iN fun z=>c z.1];simp
theorem ah(l:List Sd)(k:Nat):jL l k=eS (fun j=>(l.getD j default).x*(fF l j).y-(fF l j).x*(l.getD j default).y) k:=by
 induction k with
 |zero=>rfl
 |succ k ih=>rw[jL,eS,ih];omega
theorem PA.area(h:PA X Y m n l E):jL l l.length=2*oH (upA X Y) E:=by
 have ht:eS (fun j=>(fF l j).x*(fF l j).y-(l.getD j default).x*(l.getD j default).y) l.length=0:=by
  rw[Cu];have:=On (fun j=>(l.getD j default).x*(l.getD j default).y) l.length;unfold fF;rw[this];omega
 rw[ah,uF,h.len,←Dk];have e:eS (fun j=>2*upA X Y (E.getD j default)-((fF l j).x*(fF l j).y-(l.getD j default).x*(l.getD j default).y)) l.length=eS (fun j=>2*upA X Y (E.getD j default)) l.length:=by
  rw[Cu,ht,Int.sub_zero]
 rw[←e];refine iF fun j hj=>?_;have hu:=h.up j hj;have h1:=h.u j hj;have h2:=h.v j hj;unfold upA;generalize E.getD j default=s at *;generalize l.getD j default=p at *;generalize fF l j=q at *;by_cases c:s.up=true
 ·obtain⟨e1,e2,e3⟩:=h1 c;have hxx:p.x=q.x:=by rw[c]at hu;simpa using hu.symm
  rw[ip c,e1,e2,e3,hxx];grind
 ·obtain⟨e1,e2,e3,e4⟩:=h2 (by simpa using c);rw[iN c,e4];grind
end
section
variable{X Y:Nat→Int}{m n:Nat}{l l2:List Sd}{E F:List Sg}
theorem uC{X:Nat→Int}{m:Nat}(h:∀i,i<m→X i<X (i+1)){i j:Nat}(hi:i≤m)(hj:j≤m):X i≤X j↔i≤j:=by
 have:=AO h hj hi;omega
theorem PA.box(h:PA X Y m n l E)(hx:∀i,i<m→X i<X (i+1))(hy:∀i,i<n→Y i<Y (i+1)){j:Nat}(hj:j<l.length){x y:Int}(ho:(E.getD j default).on x y):
 0≤x∧x≤m∧0≤y∧y≤n∧BZ (l.getD j default).x (fF l j).x≤X x.toNat∧X x.toNat≤B7 (l.getD j default).x (fF l j).x∧BZ (l.getD j default).y (fF l j).y≤Y y.toNat∧Y y.toNat≤B7 (l.getD j default).y (fF l j).y:=by
 have hu:=h.up j hj;have hg:=h.grid _ (bU (by rw[h.len];exact hj) default:E.getD j default∈E);have h1:=h.u j hj;have h2:=h.v j hj;unfold BZ B7;generalize E.getD j default=s at *;generalize l.getD j default=p at *;generalize fF l j=q at *;obtain⟨g1,g2,g3,g4,g5⟩:=hg;unfold Sg.on at ho;by_cases c:s.up=true
 ·obtain⟨e1,e2,e3⟩:=h1 c;obtain⟨b1,b2,b3⟩:=g4 c;obtain⟨rfl,hr⟩:=ho.1 c;have hxx:p.x=q.x:=by rw[c]at hu;simpa using hu.symm
  have m2:=uC hy (i:=s.a.toNat) (j:=y.toNat) (by omega) (by omega);have m3:=uC hy (i:=y.toNat) (j:=s.b.toNat) (by omega) (by omega);have m4:=uC hy (i:=s.b.toNat) (j:=y.toNat) (by omega) (by omega);have m5:=uC hy (i:=y.toNat) (j:=s.a.toNat) (by omega) (by omega);rw[e2]at m2 m5;rw[e3]at m3 m4;rw[e1,hxx];refine⟨by omega,by omega,by omega,by omega,?_,?_,?_,?_⟩<;>(repeat' split)<;>omega
 ·have c':s.up=false:=by simpa using c
  obtain⟨e1,e2,e3,e4⟩:=h2 c';obtain⟨b1,b2,b3⟩:=g5 c';obtain⟨rfl,hr⟩:=ho.2 c';have m2:=uC hx (i:=s.a.toNat) (j:=x.toNat) (by omega) (by omega);have m3:=uC hx (i:=x.toNat) (j:=s.b.toNat) (by omega) (by omega);have m4:=uC hx (i:=s.b.toNat) (j:=x.toNat) (by omega) (by omega);have m5:=uC hx (i:=x.toNat) (j:=s.a.toNat) (by omega) (by omega);rw[e2]at m2 m5;rw[e3]at m3 m4;rw[e1,e4];refine⟨by omega,by omega,by omega,by omega,?_,?_,?_,?_⟩<;>(repeat' split)<;>omega
theorem tou_of(h:PA X Y m n l E)(h2:PA X Y m n l2 F)(hx:∀i,i<m→X i<X (i+1))(hy:∀i,i<n→Y i<Y (i+1)){i k:Nat}(hi:i<l.length)(hk:k<l2.length){x y:Int}(ho:(E.getD i default).on x y)(hp:(F.getD k default).on x y):Kt l i l2 k=true:=by
 obtain⟨-,-,-,-,a1,a2,a3,a4⟩:=h.box hx hy hi ho;obtain⟨-,-,-,-,b1,b2,b3,b4⟩:=h2.box hx hy hk hp;unfold Kt touI;rw[decide_eq_true (by omega),decide_eq_true (by omega),decide_eq_true (by omega),decide_eq_true (by omega)];rfl
theorem apart_of{f:Nat→List Sd}{N:Nat}{g:Nat→List Sg}(hc:Db f N=false)(hx:∀i,i<m→X i<X (i+1))(hy:∀i,i<n→Y i<Y (i+1))(he:∀r,r<N→PA X Y m n (f r) (g r)){r s:Nat}(hr:r<N)(hs:s<N)(iC:r≠s):BG (g r) (g s):=by
 have key:∀r s,r<s→s<N→BG (g r) (g s):=by
  intro r s hrs hs p hp q hq x y h1 h2;obtain⟨i,hi,rfl⟩:=List.mem_iff_getElem.1 hp;obtain⟨k,hk,rfl⟩:=List.mem_iff_getElem.1 hq;have ei:(g r).getD i default=(g r)[i]:=by simp[aG,hi]
  have ek:(g s).getD k default=(g s)[k]:=by simp[aG,hk]
  rw[←ei]at h1;rw[←ek]at h2;have Zg:i<(f r).length:=by rw[←(he r (by omega)).len];exact hi
  have cg:k<(f s).length:=by rw[←(he s hs).len];exact hk
  have ht:=tou_of (he r (by omega)) (he s hs) hx hy Zg cg h1 h2;have:=KY (f:=f) (N:=N) (r:=r) (i:=i) (s:=s) (k:=k) (by omega) Zg hs (by omega) cg (by unfold Ku jo;rw[ht,decide_eq_false (by omega)];rfl);rw[hc]at this;exact absurd this (by decide)
 rcases ue iC with c|c
 ·exact key r s c hs
 ·exact fun p hp q hq x y h1 h2=>key s r c hr q hq p hp x y h2 h1
end
section
variable{X Y:Nat→Int}{m n:Nat}{l:List Sd}{E:List Sg}
theorem ai{n j:Nat}(h:j<n):pre n ((j+1)%n)=j:=by
 unfold pre;by_cases c:j+1<n
 ·rw[bY c,show j+1+n-1=j+n by omega,pL,bY h]
 ·rw[show j+1=n by omega,zP,cC,bY (by omega)];omega
theorem sgG_zero{a:Int}:tB a=0↔a=0:=by
 unfold tB;(repeat' split)<;>omega
theorem jB(hs:nP l=true):4≤l.length∧∀j,j<l.length→BQ l j*BQ l j+dY l j*dY l j=1∧Ss l j≠0:=by
 unfold nP at hs;rw[bQ,decide_eq_true_eq,dP]at hs;refine⟨hs.2,fun j hj=>?_⟩;have hb:uT l j=false:=by
  cases hb:uT l j
  ·rfl
  ·have:=eA.2 ⟨j,hj,hb⟩;rw[hs.1]at this;exact absurd this (by decide)
 unfold uT at hb;rw[kC,Bool.not_eq_false',decide_eq_true_eq,decide_eq_false_iff_not]at hb;exact hb
theorem GX{X:Nat→Int}{m:Nat}(h:∀i,i<m→X i<X (i+1)){a b:Int}(ha:0≤a)(hb:0≤b)(ha2:a<m+1)(hb2:b<m+1)(e:X a.toNat=X b.toNat):a=b:=by
 have h1:=uC h (i:=a.toNat) (j:=b.toNat) (by omega) (by omega);have h2:=uC h (i:=b.toNat) (j:=a.toNat) (by omega) (by omega);omega
theorem PA.kinds(h:PA X Y m n l E)(hs:nP l=true){j:Nat}(hj:j<l.length):((E.getD j default).up=true→BQ l j=0∧dY l j≠0)∧((E.getD j default).up=false→BQ l j≠0∧dY l j=0):=by
 have hu:=h.up j hj;obtain⟨h1,-⟩:=(jB hs).2 j hj;constructor
 ·intro c;rw[c]at hu;have e:(l.getD j default).x=(fF l j).x:=by simpa using hu.symm
  have z:BQ l j=0:=by unfold BQ;rw[e,uX];rfl
  refine⟨z,fun w=>?_⟩;rw[z,w]at h1;omega
 ·intro c;rw[c]at hu;have e:(l.getD j default).x≠(fF l j).x:=by simpa using hu.symm
  have e4:=(h.v j hj c).2.2.2;refine⟨fun w=>?_,?_⟩
  ·have:=sgG_zero.1 w;omega
  ·unfold dY;rw[e4,uX];rfl
theorem PA.alt(h:PA X Y m n l E)(hs:nP l=true){j:Nat}(hj:j<l.length):(E.getD j default).up≠(E.getD ((j+1)%l.length) default).up:=by
 have hk:(j+1)%l.length<l.length:=dB _ (by omega);have ht:=((jB hs).2 _ hk).2;unfold Ss at ht;rw[ai hj]at ht;intro e;obtain⟨a1,a2⟩:=h.kinds hs hj;obtain⟨b1,b2⟩:=h.kinds hs hk;cases c:(E.getD j default).up
 ·rw[c]at e;rw[(a2 c).2,(b2 e.symm).2]at ht;simp at ht
 ·rw[c]at e;rw[(a1 c).1,(b1 e.symm).1]at ht;simp at ht
theorem PA.ring(h:PA X Y m n l E)(hx:∀i,i<m→X i<X (i+1))(hy:∀i,i<n→Y i<Y (i+1))(hs:nP l=true):Aj E:=by
 intro j hj;rw[h.len]at hj⊢;have hk:(j+1)%l.length<l.length:=dB _ (by omega);have ha:=h.alt hs hj;have hn:fF l j=l.getD ((j+1)%l.length) default:=rfl;have g1:=h.grid _ (bU (by rw[h.len];exact hj) default:E.getD j default∈E);have g2:=h.grid _ (bU (by rw[h.len];exact hk) default:E.getD ((j+1)%l.length) default∈E);have u1:=h.u j hj;have v1:=h.v j hj;have u2:=h.u _ hk;have v2:=h.v _ hk;have hu:=h.up j hj;rw[←hn]at u2 v2;generalize E.getD j default=s at *;generalize E.getD ((j+1)%l.length) default=q at *;obtain⟨a1,a2,a3,a4,a5⟩:=g1;obtain⟨b1,b2,b3,b4,b5⟩:=g2;unfold Sg.en Sg.st;by_cases c:s.up=true
 ·have c2:q.up=false:=by rw[c]at ha;simpa using ha.symm
  obtain⟨e1,e2,e3⟩:=u1 c;obtain⟨d1,d2,d3,d4⟩:=v2 c2;obtain⟨r1,r2,r3⟩:=a4 c;obtain⟨t1,t2,t3⟩:=b5 c2;have hxx:(l.getD j default).x=(fF l j).x:=by rw[c]at hu;simpa using hu.symm
  rw[ip c,iN (by rw[c2];decide),GX hx a1 b2 r1 t2 (by rw[e1,d2,hxx]),GX hy a3 b1 r3 t1 (by rw[e3,d1])]
 ·have c':s.up=false:=by simpa using c
  have c2:q.up=true:=by rw[c']at ha;simpa using ha.symm
  obtain⟨e1,e2,e3,e4⟩:=v1 c';obtain⟨d1,d2,d3⟩:=u2 c2;obtain⟨r1,r2,r3⟩:=a5 c';obtain⟨t1,t2,t3⟩:=b4 c2;rw[iN c,ip c2,GX hx a3 b1 r3 t1 (by rw[e3,d1]),GX hy a1 b2 r1 t2 (by rw[e1,d2,e4])]
theorem aj{s q:Sg}(ha:s.up≠q.up)(he:s.en=q.st){x y:Int}(h1:s.on x y)(h2:q.on x y):(x,y)=s.en:=by
 unfold Sg.en Sg.st at *;unfold Sg.on at h1 h2;by_cases c:s.up=true
 ·have c2:q.up=false:=by rw[c]at ha;simpa using ha.symm
  have a:=(h1.1 c).1;have b:=(h2.2 c2).1;rw[ip c,iN (by rw[c2];decide)]at he;injection he with e1 e2;rw[ip c,a,b,e2]
 ·have c':s.up=false:=by simpa using c
  have c2:q.up=true:=by rw[c']at ha;simpa using ha.symm
  have a:=(h1.2 c').1;have b:=(h2.1 c2).1;rw[iN c,ip c2]at he;injection he with e1 e2;rw[iN c,a,b,e1]
theorem na(h:PA X Y m n l E)(hx:∀i,i<m→X i<X (i+1))(hy:∀i,i<n→Y i<Y (i+1))(hs:nP l=true)
 (ht:∀i k,i<k→k<l.length→k≠i+1→¬(i=0∧k+1=l.length)→Kt l i l k=false):gW E:=by
 have hr:=h.ring hx hy hs;have h4:=(jB hs).1;have nb:∀i k,i<k→k<l.length→∀x y,(E.getD i default).on x y→(E.getD k default).on x y→(k=(i+1)%E.length∧(x,y)=(E.getD i default).en)∨(i=(k+1)%E.length∧(x,y)=(E.getD k default).en):=by
  intro i k hik hk x y h1 h2;have hto:=tou_of h h hx hy (by omega) hk h1 h2;by_cases c:k=i+1
  ·left;have e:k=(i+1)%E.length:=by rw[h.len,bY (by omega)];exact c
   have hri:=hr i (by rw[h.len];omega);have hal:=h.alt hs (j:=i) (by omega);rw[←h.len]at hal;rw[←e]at hri hal;exact⟨e,aj hal hri h1 h2⟩
  ·by_cases c2:i=0∧k+1=l.length
   ·right;have e:i=(k+1)%E.length:=by rw[h.len,c2.2,zP];exact c2.1
    have hri:=hr k (by rw[h.len];omega);have hal:=h.alt hs (j:=k) (by omega);rw[←h.len]at hal;rw[←e]at hri hal;exact⟨e,aj hal hri h2 h1⟩
   ·rw[ht i k hik hk c c2]at hto;exact absurd hto (by decide)
 refine⟨hr,by rw[h.len];omega,fun j hj=>by rw[h.len]at hj⊢;exact h.alt hs hj,fun j hj e=>?_,fun i j hi hj Lt x y h1 h2=>?_⟩
 ·rw[h.len]at hj;obtain⟨k1,k2⟩:=h.kinds hs hj;cases c:(E.getD j default).up
  ·obtain⟨-,e2,e3,-⟩:=h.v j hj c;rw[e,e3]at e2;refine(k2 c).1 ?_;unfold BQ;rw[e2,uX];rfl
  ·obtain⟨-,e2,e3⟩:=h.u j hj c;rw[e,e3]at e2;refine(k1 c).2 ?_;unfold dY;rw[e2,uX];rfl
 ·rcases ue Lt with c|c
  ·exact nb i j c (by rw[←h.len];exact hj) x y h1 h2
  ·exact(nb j i c (by rw[←h.len];exact hi) x y h2 h1).symm
end
section
variable{X Y:Nat→Int}{m n:Nat}{l:List Sd}{E:List Sg}{f:Nat→List Sd}{ls:List (List Sg)}
theorem PA.corner(h:PA X Y m n l E)(h0:0<l.length):0≤(E.getD 0 default).px 0∧(E.getD 0 default).px 0≤m∧0≤(E.getD 0 default).py 0∧(E.getD 0 default).py 0≤n∧X ((E.getD 0 default).px 0).toNat=(l.getD 0 default).x∧Y ((E.getD 0 default).py 0).toNat=(l.getD 0 default).y:=by
 have hg:=h.grid _ (bU (by rw[h.len];exact h0) default:E.getD 0 default∈E);have h1:=h.u 0 h0;have h2:=h.v 0 h0;have ep:=Ys (E.getD 0 default);generalize E.getD 0 default=s at *;obtain⟨g1,g2,g3,g4,g5⟩:=hg;unfold Sg.st at ep;by_cases c:s.up=true
 ·obtain⟨e1,e2,-⟩:=h1 c;obtain⟨b1,b2,-⟩:=g4 c;rw[ip c]at ep;injection ep with p1 p2;rw[p1,p2];exact⟨g1,by omega,g2,by omega,e1,e2⟩
 ·obtain⟨e1,e2,-⟩:=h2 (by simpa using c);obtain⟨b1,b2,-⟩:=g5 (by simpa using c);rw[iN c]at ep;injection ep with p1 p2;rw[p1,p2];exact⟨g2,by omega,g1,by omega,e2,e1⟩
theorem nc (h0:0 < ls.length) (hx:∀ i,i < m→X i < X (i + 1)) (hy:∀ i,i < n→Y i < Y (i + 1)) (he:∀ r,r < ls.length→PA X Y m n (f r) (ls.getD r [])) (hs:∀ r,r < ls.length→nP (f r)=true) (hc:Db f ls.length=false) (hp:zJ f ls.length=true):oZ ls (m + 1) (n + 1):=by
 have sim:∀ r,r < ls.length→gW (ls.getD r []):=fun r hr=> by
  refine na (he r hr) hx hy (hs r hr) fun i k hik hk n1 n2=> ?_;cases ht:Kt (f r) i (f r) k
  ·rfl
  ·have:=KY (f:=f) (N:=ls.length) (r:=r) (i:=i) (s:=r) (k:=k) hr (by omega) hr (aH _) hk (by
    unfold Ku jo;rw [ht,decide_eq_false (show ¬ k≤i by omega),decide_eq_false (show ¬ k=i + 1 from n1)];by_cases z:i=0
    ·rw [decide_eq_false (show ¬ k + 1=(f r).length from fun w=> n2 ⟨z,w⟩)];simp
    ·rw [decide_eq_false z];simp)
   rw [hc] at this;exact absurd this (by decide)
 have gr:∀ r,r < ls.length→∀ s∈ls.getD r [],lQ (m + 1) (n + 1) s:=fun r hr=> (he r hr).grid;unfold zJ at hp;rw [bQ,dP,dP,decide_eq_false_iff_not] at hp;obtain⟨Zn,hp1⟩:=hp;have bad:∀ r,0 < r→r < ls.length→yT f ls.length r=false:=fun r h1 h2=> by
  cases hb:yT f ls.length r
  ·rfl
  ·have:=(eA (p:=fun r=> decide (1≤r) && yT f ls.length r)).2 ⟨r,h2,(by rw [decide_eq_true (show 1≤r from h1),hb];rfl:(decide (1≤r) && yT f ls.length r)=true)⟩;rw [hp1] at this;exact absurd this (by decide)
 have pl:∀ r,0 < r→r < ls.length→jL (f r) (f r).length < 0∧∀ s,s < ls.length→s≠r→GR (f s) ((f r).getD 0 default).x ((f r).getD 0 default).y=decide (s=0):=fun r h1 h2=> by
  have hb:=bad r h1 h2;unfold yT at hb;rw [kC,decide_eq_false_iff_not] at hb;refine⟨by omega,fun s tL JH=> ?_⟩;cases hq:EF f r s
  ·unfold EF at hq;rw [decide_eq_false JH] at hq;simpa using hq
  ·have:=eA.2 ⟨s,tL,hq⟩;rw [hb.2] at this;exact absurd this (by decide)
 have cn:∀ r s,r < ls.length→s < ls.length→dE (ls.getD s []) (((ls.getD r []).getD 0 default).px 0) (((ls.getD r []).getD 0 default).py 0) % 2=if GR (f s) ((f r).getD 0 default).x ((f r).getD 0 default).y=true then 1 else 0:=fun r s hr tL=> by
  obtain⟨a1,a2,a3,a4,a5,a6⟩:=(he r hr).corner (by have:=(jB (hs r hr)).1;omega);have:=(he s tL).ins hx hy (i:=(((ls.getD r []).getD 0 default).px 0).toNat) (k:=(((ls.getD r []).getD 0 default).py 0).toNat) (by omega) (by omega);rw [a5,a6,fJ a1,fJ a3] at this;exact this
 have right:∀ r,0 < r→r < ls.length→Cj (ls.getD r []) ((ls.getD r []).getD 0 default) 0=0:=fun r h1 h2=> by
  have ar:=(he r h2).area;have sa:=((sim r h2).area X Y (gr r h2) hx hy).1;have sd:=(sim r h2).side (gr r h2);have:=(pl r h1 h2).1;rcases sd with e | e
  ·exact e
  ·have:=sa e;omega
 refine laid_of sim (fun s tL=> ?_) (fun r q hr hq iC=> apart_of (g:=fun r=> ls.getD r []) hc hx hy he hr hq iC) h0 ?_ right (fun r h1 h2=> ?_) (fun r q h1 h2 h3 h4 iC=> ?_)
 ·obtain⟨l1,hl1,Kl⟩:=List.mem_flatten.1 tL;obtain⟨r,hr,rfl⟩:=List.mem_iff_getElem.1 hl1;exact gr r hr s (by rw [show ls.getD r []=ls[r] by simp [aG,hr]];exact Kl)
 ·have ar:=(he 0 h0).area;have sa:=((sim 0 h0).area X Y (gr 0 h0) hx hy).2;have sd:=(sim 0 h0).side (gr 0 h0);rcases sd with e | e
  ·have:=sa e;omega
  ·exact e
 ·have h5:=cn r 0 h2 h0;rw [(pl r h1 h2).2 0 h0 (by omega),ip (by decide)] at h5;omega
 ·have h5:=cn r q h3 h4;rw [(pl r h1 h3).2 q h4 (Ne.symm iC),decide_eq_false (show ¬ q=0 by omega),iN (by decide)] at h5;obtain⟨a1,a2,a3,a4,a5,a6⟩:=(he r h3).corner (by have:=(jB (hs r h3)).1;omega);have hv:=(sim q h4).vals (gr q h4) (((ls.getD r []).getD 0 default).py 0) ((((ls.getD r []).getD 0 default).px 0).toNat + 1);rw [show(((((ls.getD r []).getD 0 default).px 0).toNat + 1:Nat):Int) - 1=((ls.getD r []).getD 0 default).px 0 by omega,right q h2 h4] at hv;omega
end
end
section
open Go Go.RowKit Go.Lib Go.Shelf
def B9{α:Type}(xs:List α)(i:Nat)(t:α):List α:=xs.take i++t::xs.drop i
theorem M8{α:Type}(xs:List α){i:Nat}(t:α)(h:i≤xs.length):(B9 xs i t).length=xs.length+1:=by
 unfold B9;rw[bO,bD,fU,eZ];omega
theorem insN_get{α:Type}(xs:List α){i:Nat}(t:α)(h:i≤xs.length)(j:Nat):(B9 xs i t)[j]? =if j<i then xs[j]? else if j=i then some t else xs[j-1]? :=by
 unfold B9;have hl:(xs.take i).length=i:=by rw[fU];omega
 by_cases h1:j<i
 ·rw[ip h1,List.getElem?_append_left (by omega),nY,ip h1]
 ·rw[iN h1,List.getElem?_append_right (by omega),hl];by_cases h2:j=i
  ·rw[ip h2,h2,A6];rfl
  ·rw[iN h2,show j-i=(j-1-i)+1 by omega,List.getElem?_cons_succ,rW];congr 1;omega
theorem ng(xs:List (List UInt8))(i:Nat)(t:List UInt8):dK (B9 xs i t)=B9 (dK xs) i (aA (bs t)):=by
 unfold dK B9;simp[List.map_take,List.map_drop]
theorem pW{g:Nat}{T:dT}:∀(vs:List aP)(o:Nat)(w:aF)(c:Array aP),w.heap[g]? =some (aN c T (0,0))→(w.setCells g o vs).heap[g]? =some (aN (Ja c o vs) T (0,0))∧w.grownBy (w.setCells g o vs) (some g)
 |[],_,w,_,h=>⟨h,World.grownBy.refl w (some g)⟩
 |v::r,o,w,c,h=>by
  have h1:=Go.heap_setCell_same w g o c T v h
  obtain⟨h2,h3⟩:=pW r (o+1) _ _ h1
  exact⟨h2,(⟨rfl,rfl,rfl,by simp,fun k _ hk=>eE w ⟨g,o,none⟩ k v (fun e=>hk (by rw[e]))⟩:w.grownBy (w.setCell ⟨g,o,none⟩ v) (some g)).trans h3⟩
theorem Vm{c:Array aP}{L:List aP}(_:L.length≤c.size)(hg:∀j,j<L.length→c[j]? =L[j]?):c.toList.take L.length=L:=by
 apply List.ext_getElem?;intro j;rw[nY];by_cases hj:j<L.length
 ·rw[ip hj,Cp,hg j hj]
 ·rw[iN hj,List.getElem?_eq_none (by omega)]
section
variable(B vb vc i n:Nat)(v:aP)(xs:List (List UInt8))(t:List UInt8)(w:aF)
def Vn(B i n:Nat)(v:aP)(xs:List (List UInt8))(t:List UInt8)(w:aF)(e:Ending)(w':aF):Prop:=
 (∃g cap,e=bA (aD (some ⟨g,0,none⟩) (n+1) cap)∧w'.ownsRow B 34 1 (aD (some ⟨g,0,none⟩) (n+1) cap) (n+1) (dK (B9 xs i t))∧(v.ownBlock=some g∨w.heap.size≤g))∧w.grownBy w' v.ownBlock
theorem own_of{W:aF}{g cap:Nat}{c:Array aP}(h1:B≤g)(h2:W.heap[g]? =some (aN c 34 (0,0)))(h3:n+1≤cap)(h4:cap≤Cm)(h5:c.size=cap)(hl:xs.length=n)(hi:i≤n)
 (h6:∀j,j<n+1→c[j]? =if j<i then(dK xs)[j]? else if j=i then some (aA (bs t))else(dK xs)[j-1]?):
 W.ownsRow B 34 1 (aD (some ⟨g,0,none⟩) (n+1) cap) (n+1) (dK (B9 xs i t)):=by
 have hL:(dK (B9 xs i t)).length=n+1:=by rw[oP,M8 _ _ (by omega),hl]
 refine⟨by omega,.inr ⟨g,cap,c,rfl,h1,h2,h3,h4,by omega,?_⟩⟩;have:=Vm (c:=c) (L:=dK (B9 xs i t)) (by omega) (fun j hj=>by
  rw[h6 j (by omega),ng,insN_get _ _ (by rw[oP];omega)])
 rw[hL]at this;rw[bi];exact this
variable(hl:xs.length=n)(hi:i≤n)(hn:n≤100000)(ho:w.ownsRow B 34 1 v n (dK xs))(hB:B≤w.heap.size)(hv:some vb≠v.ownBlock)(hb:bT w vb #[aA (bs t)] 34)
include hl hi hn ho hB hv hb
theorem Yv(he:i=n):bE aE 143 #[v,aC aB i,aD (some ⟨vb,0,none⟩) 1 vc] w (Vn B i n v xs t w):=by
 subst he;obtain⟨i0,q1,q2,q3,q4⟩:=lI CE;have R:bK (B9 xs i t=xs++[t]):=by show _=_;unfold B9;rw[←hl,List.take_length,List.drop_length]
 have hs:dK (xs++[t])=dK xs++[aA (bs t)]:=by simp[dK]
 have Hs:=zq hs;have Hb:=zq (World.news_of_block hb);have Ho:=zq ho;have HB:=zq hB;unfold Vn;obtain⟨av,ac,rfl⟩:∃a c,v=aD a i c:=by
  rcases ho.2 with⟨h,h0⟩|⟨g,cap,oL,h,_⟩
  ·exact⟨none,0,by rw[h,h0]⟩
  ·exact⟨_,_,h⟩
 clear hl hi ho hB hv hb hs;obtain⟨ob,If⟩:=nm (aD av i ac).ownBlock;rw[If];have Hob:=zq If;clear If;go_enter VP,Se;go_wp2_with (at_builtin;refine wpList_append_lies w rfl _ _ 62 rfl B 34 i0 (aA ⟨#[]⟩) 1 16 kE q1 q2 q3 q4 rfl (by decide) (aD av i ac) i (dK xs) rfl Ho.out ⟨vb,0,none⟩ 1 vc [aA (bs t)] rfl rfl Hb.out (fun u h=>by rw[List.mem_singleton.1 h];rfl) (by decide) (by unfold Cm;omega) (by omega) HB.out _ rfl ?_;intro g cap w' h1 h2 h3 h4)
 all_goals
  have H1:=zq h1;rw[Hob.out]at h2 h3;have H2:=zq h2;have H3:=zq (h3.imp id fun e=>Nat.le_of_eq e.symm);clear h1 h2 h3 h4;go_wp2;go_ret;exact⟨⟨g,cap,rfl,by rw[R.out,Hs.out];exact H1.out,H3.out⟩,H2.out⟩
theorem Vo(g cap:Nat)(oL:Array aP)(hvg:v=aD (some ⟨g,0,none⟩) n cap)(hbg:B≤g)(hg:w.heap[g]? =some (aN oL 34 (0,0)))(qh:cap≤Cm)(BM:oL.size=cap)(htk:oL.toList.take n=dK xs)(he:i<n)(hr:n+1≤cap):
 bE aE 143 #[v,aC aB i,aD (some ⟨vb,0,none⟩) 1 vc] w (Vn B i n v xs t w):=by
 subst hvg;have WW:vb≠g:=fun e=>hv (by rw[e];rfl);have Kl:(dK xs).length=n:=by rw[oP];exact hl
 have hc63:cap≤9223372036854775807:=by unfold Cm at qh;exact qh
 have hcj:∀j,j<n→oL[j]? =(dK xs)[j]? :=fun j hj=>by
  rw[←htk,nY,ip hj,Cp]
 have tA:∀j,w.cell? ⟨g,j,none⟩=oL[j]? :=fun j=>FG w g j oL _ _ hg;have BX:(Tryz.prog.info? 34).map (·.size)=some 1:=by kernel_rfl
 have hdl:((dK xs).drop i).length=n-i:=by rw[eZ,Kl]
 have h1c:∀u∈(dK xs).drop i,u.oneCell'=true:=fun u h=>by
  obtain⟨x,-,rfl⟩:=List.mem_map.1 (Eb h);rfl
 have h1v:∀u∈[aA (bs t)],u.oneCell'=true:=fun u h=>by rw[List.mem_singleton.1 h];rfl
 obtain⟨k1,g1⟩:=pW ((dK xs).drop i) (i+1) w.drew oL hg;obtain⟨k2,g2⟩:=pW [aA (bs t)] i _ _ k1;have nL:(Ja oL (i+1) ((dK xs).drop i)).size=cap:=by rw[tU];exact BM
 have R:bK (Vn B i n (aD (some ⟨g,0,none⟩) n cap) xs t w (bA (aD (some ⟨g,0,none⟩) (n+1) cap)) ((w.drew.setCells g (i+1) ((dK xs).drop i)).setCells g i [aA (bs t)])):=by
  refine⟨⟨g,cap,rfl,own_of B i n xs t hbg k2 hr qh (by rw[tU,tU];exact BM) hl (by omega) fun j hj=>?_,.inl rfl⟩,?_⟩
  ·rw[AF _ _ _ _ (by rw[nL];simp only[bD,bV];omega),AF _ _ _ _ (by rw[hdl];omega),hdl];simp only[bD,bV];by_cases h1:j<i
   ·rw[iN (by omega),iN (by omega),ip h1,hcj j (by omega)]
   ·by_cases h2:j=i
    ·rw[ip (by omega),iN h1,ip h2,h2,A6];rfl
    ·rw[iN (by omega),ip (by omega),iN h1,iN h2,rW];congr 1;omega
  ·obtain⟨a1,a2,a3,a4,a5⟩:=g1;exact Nk (⟨a1,a2,a3,a4,a5⟩:w.grownBy (w.drew.setCells g (i+1) ((dK xs).drop i)) (some g)) g2
 have hov:∀lb cb,(callFunc 189 #[aD (some ⟨vb,0,none⟩) 1 vc,aD (some ⟨g,i+1,none⟩) lb cb]).run aE w=.ok (.value (aV false)) w:=fun lb cb=>by
  rw[run_callFunc_extern func189 (by kernel_rfl) (by kernel_rfl) (by kernel_rfl) (e:=bq #[62,62] #[4]) (by kernel_rfl),
   Lib.run_overlaps_apart w 62 4 34 kE 1 sizeOf34 ⟨vb,0,none⟩ ⟨g,i+1,none⟩ 1 vc lb cb WW 34 34 1 cap (by unfold World.shape?;rw[show w.heap[vb]? =some (aN #[aA (bs t)] 34 (0,0))from hb];rfl) (by unfold World.shape?;rw[hg];show some (_,oL.size)=_;rw[BM]) (by omega) (hb.fz 0) (hb.fz 1)]
  rfl
 have hcp1:∀ty dc sc,(Ed #[62,62] ty #[aD (some ⟨g,i+1,none⟩) (n-i) dc,aD (some ⟨g,i,none⟩) (n+1-i) sc]).run aE w.drew=.ok (goInt ((dK xs).drop i).length) (w.drew.setCells g (i+1) ((dK xs).drop i)):=fun ty dc sc=>
  Im w.drew _ _ ty 34 g (i+1) (n-i) dc ⟨g,i,none⟩ (n+1-i) sc ((dK xs).drop i) kE BX (by rw[hdl];simp only[Nl];split <;>omega)
   (fun j u hj=>by
    rw[oK];show w.cell? _=_;rw[tA,hcj _ (by have:=(List.getElem?_eq_some_iff.1 hj).1;omega)];rwa[rW]at hj)
   (fun j hj=>by
    show(w.cell? _).isSome=true;rw[tA,mJ (by omega)];rfl)
   (fun j hj=>KA w g _ oL _ hg) h1c
 obtain⟨W1,rS⟩:=nm (w.drew.setCells g (i+1) ((dK xs).drop i));rw[rS]at hcp1 k1 R;have hcp2:∀W:aF,(∀x,W.cell? x=W1.cell? x)→(∀x,W.frozen? x=W1.frozen? x)→∀ty dc,(Ed #[62,62] ty #[aD (some ⟨g,i,none⟩) (n+1-i) dc,aD (some ⟨vb,0,none⟩) 1 vc]).run aE W=.ok (goInt 1) (W.setCells g i [aA (bs t)]):=fun W hc hf ty dc=>
  Im W _ _ ty 34 g i (n+1-i) dc ⟨vb,0,none⟩ 1 vc [aA (bs t)] kE BX (by simp only[bD,bV,Nl];split <;>omega)
   (fun j u hj=>by
    obtain rfl:j=0:=by have:=(List.getElem?_eq_some_iff.1 hj).1;simp at this;omega
    simp only[aI,vY]at hj;subst hj;rw[oK,hc,←rS,P9 g _ _ _ _ (fun h _=>absurd h WW)];exact hb.cell 0)
   (fun j hj=>by
    have:j=0:=by simp at hj;omega
    subst this;rw[hc,FG W1 g _ _ _ _ k1,mJ (by omega)];rfl)
   (fun j hj=>by rw[hf];exact KA W1 g _ _ _ k1) h1v
 have hw1:IntKind.i64.wrap ((i:Int)+1)=(i:Int)+1:=bI _ (by omega);have se:IntKind.i64.wrap ((n:Int)+1)=(n:Int)+1:=bI _ (by omega);have sS:¬((i:Int)=(n:Int)):=by omega
 have hb1:(0:Int)≤(i:Int)+1:=by omega
 have hb2:¬(cap=i+1):=by omega
 have hb3:(i:Int)≤(n:Int)+1:=by omega
 have hb4:¬(cap=i):=by omega
 have LJ:((i:Int)+1).toNat=i+1:=by omega
 have htn2:((n:Int)+1).toNat=n+1:=by omega
 refine yZ (show bE aE 143 #[aD (some ⟨g,0,none⟩) n cap,aC aB i,aD (some ⟨vb,0,none⟩) 1 vc] w fun e w'=>e=bA (aD (some ⟨g,0,none⟩) (n+1) cap)∧w'=W1.setCells g i [aA (bs t)]from ?_) (fun e w' h=>by rw[h.1,h.2];exact R.out);generalize(dK xs).drop i=DS at *;generalize bs t=T at *;clear hl hn ho hB hv hb hbg hg htk hcj tA hdl h1c h1v k1 k2 g1 g2 nL qh BM rS BX Kl WW R;go_enter VP,Se;have mixed:Tryz.prog.follows .mixedOrders=true:=by kernel_rfl
 go_wp2_with (simp only[hov])
 go_region_law_o (refine step_copy_runI rfl _ _ 62 62 rfl _ _ (by simp[VN,cS]) (by simp[VN,cS]) (hcp1 _ _ _) ?_);go_wp2_with (at_builtin;refine wpList_copy_runI _ rfl _ _ 62 62 rfl _ _ rfl rfl (hcp2 _ (fun _=>rfl) (fun _=>rfl) _ _) ?_)
 go_ret;exact⟨rfl,rfl⟩
theorem Vp(g cap:Nat)(oL:Array aP)(hvg:v=aD (some ⟨g,0,none⟩) n cap)(hbg:B≤g)(hg:w.heap[g]? =some (aN oL 34 (0,0)))(hnc:n≤cap)(BM:oL.size=cap)(htk:oL.toList.take n=dK xs)(he:i<n)(hr:cap<n+1):
 bE aE 143 #[v,aC aB i,aD (some ⟨vb,0,none⟩) 1 vc] w (Vn B i n v xs t w):=by
 subst hvg
 obtain⟨i0,q1,q2,q3,q4⟩:=lI CE
 have WW:vb≠g:=fun e=>hv (by rw[e];rfl)
 have hgl:g<w.heap.size:=(Array.getElem?_eq_some_iff.1 hg).1
 have Kl:(dK xs).length=n:=by rw[oP];exact hl
 have hcj:∀j,j<n→oL[j]? =(dK xs)[j]? :=fun j hj=>by
  rw[←htk,nY,ip hj,Cp]
 have tA:∀j,w.cell? ⟨g,j,none⟩=oL[j]? :=fun j=>FG w g j oL _ _ hg
 have BX:(Tryz.prog.info? 34).map (·.size)=some 1:=by kernel_rfl
 have hdl:((dK xs).drop i).length=n-i:=by rw[eZ,Kl]
 have htl:((dK xs).take i).length=i:=by rw[fU,Kl];omega
 have h1c:∀u∈(dK xs).drop i,u.oneCell'=true:=fun u h=>by
  obtain⟨x,-,rfl⟩:=List.mem_map.1 (Eb h);rfl
 have h1v:∀u∈[aA (bs t)],u.oneCell'=true:=fun u h=>by rw[List.mem_singleton.1 h];rfl
 have yi:(n:Int)+1-(i:Int)=((n+1-i:Nat):Int):=by omega
 have hik:i+(n+1-i)=n+1:=by omega
 have hold:(Builtin.firstCells i0.size i (aD (some ⟨g,0,none⟩) i cap)).run aE w.drew=.ok ((dK xs).take i).toArray w.drew:=by
  rw[q3]
  exact run_firstCells_some w.drew 1 i ⟨g,0,none⟩ i cap ((dK xs).take i) (by rw[htl,bi]) (fun j u hj=>by
   rw[oK,cC]
   show w.cell? _=_
   have hji:j<i:=by have:=(List.getElem?_eq_some_iff.1 hj).1;omega
   rw[nY,ip hji]at hj
   rw[tA,hcj j (by omega)];exact hj)
 have hrz:=fun ty=>Lib.run_append_grow_zeros w 62 3 ty 34 i0 _ aB aB kE underlying3 q1 q2 (some ⟨g,0,none⟩) i cap ((dK xs).take i) hold (n+1-i) (by omega) (by omega) (by omega) (by omega) (by rw[q4];omega) (by rw[q4,hik];exact growslice_fits hr (by omega))
 rw[hik,←yi]at hrz
 obtain⟨G,hG⟩:=nm (grownCap w (n+1) cap 34)
 have hGn:n+1≤G:=by rw[←hG];exact grownCap_ge w _ _ _
 have hGm:G≤Cm:=by rw[←hG];exact grownCap_le_maxLen w _ _ _ (by unfold Cm;omega)
 rw[hG]at hrz
 obtain⟨Yw,hROW⟩:=nm (((dK xs).take i).toArray++YL (aA ⟨#[]⟩).cells (n+1-i)++YL (aA ⟨#[]⟩).cells (G-(n+1)))
 rw[hROW]at hrz
 have hRs:Yw.size=G:=by
  rw[←hROW,mS,mS,zS,zS]
  simp only[Value.cells,cD,htl,bD,bV]
  omega
 have hRj:∀j,j<i→Yw[j]? =(dK xs)[j]? :=fun j hj=>by
  rw[←hROW,Array.append_assoc,Array.getElem?_append_left (by simp only[cD,htl];exact hj),aJ,nY,ip hj]
 obtain⟨H,hH⟩:=nm w.heap.size
 have hHn:(w.drew.alloc (aN Yw 34)).heap[H]? =some (aN Yw 34 (0,0)):=by rw[←hH];exact World.alloc_heap_new w.drew _
 obtain⟨k1,g1⟩:=pW [aA (bs t)] i _ Yw hHn
 obtain⟨k2,g2⟩:=pW ((dK xs).drop i) (i+1) ((w.drew.alloc (aN Yw 34)).setCells H i [aA (bs t)]).drew _ k1
 have nL:(Ja Yw i [aA (bs t)]).size=G:=by rw[tU];exact hRs
 have R:bK (Vn B i n (aD (some ⟨g,0,none⟩) n cap) xs t w (bA (aD (some ⟨H,0,none⟩) (n+1) G)) (((w.drew.alloc (aN Yw 34)).setCells H i [aA (bs t)]).drew.setCells H (i+1) ((dK xs).drop i))):=by
  refine⟨⟨H,G,rfl,own_of B i n xs t (by omega) k2 hGn hGm (by rw[tU,tU];exact hRs) hl (by omega) fun j hj=>?_,.inr (by omega)⟩,?_⟩
  ·rw[AF _ _ _ _ (by rw[nL,hdl];omega),AF _ _ _ _ (by rw[hRs];simp only[bD,bV];omega),hdl]
   simp only[bD,bV]
   by_cases h1:j<i
   ·rw[iN (by omega),iN (by omega),ip h1,hRj j h1]
   ·by_cases h2:j=i
    ·rw[iN (by omega),ip (by omega),iN h1,ip h2,h2,A6];rfl
    ·rw[ip (by omega),iN h1,iN h2,rW]
     congr 1;omega
  ·obtain⟨a1,a2,a3,a4,a5⟩:=g1
   obtain⟨b1,b2,b3,b4,b5⟩:=g2
   have tL:w.heap.size≤(w.drew.alloc (aN Yw 34)).heap.size:=by simp
   refine⟨b1.trans a1,b2.trans a2,b3.trans a3,aU tL (aU a4 b4),fun k hk iC=>?_⟩
   rw[b5 k (show k<((w.drew.alloc (aN Yw 34)).setCells H i [aA (bs t)]).heap.size by omega) (fun e=>by injection e with e;omega)]
   show((w.drew.alloc (aN Yw 34)).setCells H i [aA (bs t)]).heap[k]? =_
   rw[a5 k (by omega) (fun e=>by injection e with e;omega)]
   exact((aL w.heap.size w.drew).alloc (aH _) _).block k hk
 have hN:∀j,j<n+1→((w.drew.alloc (aN Yw 34)).cell? ⟨H,j,none⟩).isSome=true:=fun j hj=>by
  rw[FG _ H j Yw _ _ hHn,mJ (by omega)];rfl
 have hOb:∀b j,b<w.heap.size→(w.drew.alloc (aN Yw 34)).cell? ⟨b,j,none⟩=w.cell? ⟨b,j,none⟩:=fun b j h=>World.cell?_alloc_past (w:=w.drew) _ b j h
 obtain⟨W1,rS⟩:=nm (w.drew.alloc (aN Yw 34))
 rw[rS]at hN hOb hHn k1 R
 have hcpA:∀(W:aF),(∀x,W.cell? x=W1.cell? x)→(∀x,W.frozen? x=W1.frozen? x)→∀ty dc,(Ed #[62,62] ty #[aD (some ⟨H,i,none⟩) (n+1-i) dc,aD (some ⟨vb,0,none⟩) 1 vc]).run aE W=.ok (goInt 1) (W.setCells H i [aA (bs t)]):=fun W hc hf ty dc=>
  Im W _ _ ty 34 H i (n+1-i) dc ⟨vb,0,none⟩ 1 vc [aA (bs t)] kE BX (by simp only[bD,bV,Nl];split <;>omega)
   (fun j u hj=>by
    obtain rfl:j=0:=by have:=(List.getElem?_eq_some_iff.1 hj).1;simp at this;omega
    simp only[aI,vY]at hj
    subst hj
    rw[oK,hc,hOb vb _ hb.lt]
    exact hb.cell 0)
   (fun j hj=>by
    have:j=0:=by simp at hj;omega
    subst this
    rw[hc];exact hN _ (by omega))
   (fun j hj=>by rw[hf];exact KA W1 H _ _ _ hHn) h1v
 have hcpB:∀(W:aF),(∀x,W.cell? x=(W1.setCells H i [aA (bs t)]).cell? x)→(∀x,W.frozen? x=(W1.setCells H i [aA (bs t)]).frozen? x)→∀ty dc sc,(Ed #[62,62] ty #[aD (some ⟨H,i+1,none⟩) (n-i) dc,aD (some ⟨g,i,none⟩) (n-i) sc]).run aE W=.ok (goInt ((dK xs).drop i).length) (W.setCells H (i+1) ((dK xs).drop i)):=fun W hc hf ty dc sc=>
  Im W _ _ ty 34 H (i+1) (n-i) dc ⟨g,i,none⟩ (n-i) sc ((dK xs).drop i) kE BX (by rw[hdl];simp only[Nl];split <;>omega)
   (fun j u hj=>by
    rw[oK,hc,P9 _ _ _ _ _ (fun h _=>by have h:g=H:=h;omega),hOb g _ hgl,tA,hcj _ (by have:=(List.getElem?_eq_some_iff.1 hj).1;omega)]
    rwa[rW]at hj)
   (fun j hj=>by rw[hc,FG _ H _ _ _ _ k1,mJ (by omega)];rfl)
   (fun j hj=>by rw[hf];exact KA _ H _ _ _ k1) h1c
 have hw1:IntKind.i64.wrap ((i:Int)+1)=(i:Int)+1:=bI _ (by omega)
 have se:IntKind.i64.wrap ((n:Int)+1)=(n:Int)+1:=bI _ (by omega)
 have hw3:IntKind.i64.wrap ((n:Int)+1-(i:Int))=(n:Int)+1-(i:Int):=bI _ (by omega)
 have sS:¬((i:Int)=(n:Int)):=by omega
 have hz3:(cap:Int)<(n:Int)+1:=by omega
 have hb1:(0:Int)≤(i:Int)+1:=by omega
 have hGi:¬(G=i):=by omega
 have hGim:¬(G=i+1):=by omega
 have hci:¬(cap=i):=by omega
 have hin:i≤n:=by omega
 have hb3:(i:Int)≤(n:Int)+1:=by omega
 have hb5:(i:Int)≤(cap:Int):=by omega
 have hb6:i≤cap:=by omega
 have hb7:(i:Int)+1≤(n:Int)+1:=by omega
 have hb4:(i:Int)≤(n:Int):=by omega
 have LJ:((i:Int)+1).toNat=i+1:=by omega
 refine yZ (show bE aE 143 #[aD (some ⟨g,0,none⟩) n cap,aC aB i,aD (some ⟨vb,0,none⟩) 1 vc] w fun e w'=>e=bA (aD (some ⟨H,0,none⟩) (n+1) G)∧w'=(W1.setCells H i [aA (bs t)]).drew.setCells H (i+1) ((dK xs).drop i)from ?_) (fun e w' h=>by rw[h.1,h.2];exact R.out)
 rw[rS]at hrz
 rw[hH]at hrz
 generalize(dK xs).drop i=DS at *
 generalize bs t=T at *
 clear hl hn ho hB hv hb hbg hg htk hcj tA hdl htl h1c h1v k1 k2 g1 g2 nL BM BX Kl WW R hold yi hik hG hROW hRs hRj hN hOb hHn hgl hnc hr q1 q2 q3 q4 i0 hGm
 have hcpC:=fun ty dc sc=>hcpB (W1.setCells H i [aA T]).drew (fun _=>rfl) (fun _=>rfl) ty dc sc
 clear hcpB
 have mixed:Tryz.prog.follows .mixedOrders=true:=by kernel_rfl
 go_enter VP,Se
 go_wp2_with (first
  |(at_builtin;refine Lib.wpList_append_run _ rfl _ _ _ _ rfl _ _ rfl rfl _ _ (hrz _) ?_)
  |(at_builtin;refine wpList_copy_runI _ rfl _ _ 62 62 rfl _ _ rfl rfl (hcpA _ (fun _=>rfl) (fun _=>rfl) _ _) ?_))
 go_region_law_o (refine step_copy_runI rfl _ _ 62 62 rfl _ _ (by simp[VN,cS]) (by simp[VN,cS]) (hcpC _ _ _) ?_)
 go_wp2
 go_ret
 exact⟨rfl,rfl⟩
theorem Yx:bE aE 143 #[v,aC aB i,aD (some ⟨vb,0,none⟩) 1 vc] w (Vn B i n v xs t w):=by
 by_cases he:i=n
 ·exact Yv B vb vc i n v xs t w hl hi hn ho hB hv hb he
 rcases ho.2 with⟨_,h0⟩|⟨g,cap,oL,h1,h2,h3,h4,h5,h6,h7⟩
 ·omega
 rw[bi]at h6 h7;by_cases hr:n+1≤cap
 ·exact Vo B vb vc i n v xs t w hl hi hn ho hB hv hb g cap oL h1 h2 h3 h5 h6 h7 (by omega) hr
 ·exact Vp B vb vc i n v xs t w hl hi hn ho hB hv hb g cap oL h1 h2 h3 h4 h6 h7 (by omega) (by omega)
end
end
section
open Go Go.RowKit Go.Lib
def sW(t:List UInt8):List (List UInt8)→Nat
 |[]=>0
 |x::xs=>if cT x<cT t then sW t xs+1 else 0
theorem Ld(t:List UInt8):∀xs,sW t xs≤xs.length
 |[]=>aH _
 |x::xs=>by
  rw[sW]
  have:=Ld t xs
  split
  ·rw[bD];omega
  ·omega
theorem RD(t:List UInt8):∀xs i,i<sW t xs→cT (xs.getD i [])<cT t
 |[],i,h=>by simp[sW]at h
 |x::xs,i,h=>by
  rw[sW]at h
  split at h
  ·match i with
   |0=>assumption
   |i+1=>rw[nR];exact RD t xs i (by omega)
  ·omega
theorem Le(t:List UInt8):∀xs,sI xs→∀i,sW t xs≤i→i<xs.length→cT t≤cT (xs.getD i [])
 |[],_,i,_,h=>by simp at h
 |x::xs,ha,i,h,hi=>by
  unfold sI at ha
  rw[sO]at ha
  rw[sW]at h
  split at h
  ·match i with
   |0=>omega
   |i+1=>rw[nR];exact Le t xs ha.2 i (by omega) (by simpa using hi)
  ·match i with
   |0=>rw[List.getD_cons_zero];grind
   |i+1=>
    rw[nR]
    have:=ha.1 _ (bU (i:=i) (by simpa using hi) [])
    grind
def RE(xs:List (List UInt8))(t:List UInt8):List (List UInt8):=if sW t xs<xs.length∧(fH (xs.getD (sW t xs) []) t).1=0 then xs else B9 xs (sW t xs) t
def AP(b:Bool)(xs:List (List UInt8))(t:List UInt8):List (List UInt8):=if b=true then RE xs t else xs
section
variable{xs:List (List UInt8)}{t:List UInt8}(hs:∀s∈xs,Sm s)(ht:Sm t)(ha:sI xs)
include hs ht ha
theorem mrgQ_asc:sI (RE xs t):=by
 unfold RE;split
 ·exact ha
 rename_i hn;unfold sI B9 at *;rw[List.pairwise_append,sO];refine⟨ha.sublist (List.take_sublist _ _),⟨fun s h=>?_,ha.sublist (List.drop_sublist _ _)⟩,fun s h u hu=>?_⟩
 ·obtain⟨j,hj,rfl⟩:=fI h;rw[eZ]at hj;rw[ua];have h1:=Le t xs ha (sW t xs+j) (by omega) (by omega);rw[aG,bN (by omega),bX]at h1;by_cases h2:cT t=cT xs[sW t xs+j]
  ·exfalso;by_cases hj0:j=0
   ·subst hj0;refine hn ⟨by omega,?_⟩;rw[aG,bN (by omega),bX,(hs _ (List.getElem_mem _)).cmp ht];simp only[oG]at h2;unfold nH;rw[iN (by grind),iN (by grind)]
   ·rw[AV]at ha;have h3:=ha (sW t xs) (sW t xs+j) (by omega) (by omega) (by omega);have h4:=Le t xs (List.pairwise_iff_getElem.2 ha) (sW t xs) (aH _) (by omega);rw[aG,bN (by omega),bX]at h4;grind
  ·grind
 ·obtain⟨i,hi,rfl⟩:=List.mem_take_iff_getElem.1 h;have h1:=RD t xs i (by omega);rw[aG,bN (by omega),bX]at h1;rcases List.mem_cons.1 hu with rfl|hu
  ·exact h1
  ·obtain⟨j,hj,rfl⟩:=fI hu;rw[eZ]at hj;rw[ua];rw[AV]at ha;exact ha _ _ (by omega) (by omega) (by omega)
theorem Vq(z:List UInt8):z∈RE xs t↔z∈xs∨z=t:=by
 unfold RE;split
 ·rename_i h;refine⟨.inl,fun k=>k.elim id fun e=>?_⟩;have hm:=bU h.1 ([]:List UInt8);have h2:=h.2;rw[(hs _ hm).cmp ht]at h2;have e2:cT (xs.getD (sW t xs) [])=cT t:=by
   rcases Bk (cT (xs.getD (sW t xs) [])) (cT t)with⟨_,k⟩|⟨k,_⟩|⟨_,k⟩
   ·rw[k]at h2;cases h2
   ·exact k
   ·rw[k]at h2;cases h2
  rw[e,←(hs _ hm).inj ht e2];exact hm
 ·unfold B9;rw[nG,List.mem_cons];constructor
  ·rintro(h|h|h)
   ·exact .inl (List.mem_of_mem_take h)
   ·exact .inr h
   ·exact .inl (Eb h)
  ·rintro(h|h)
   ·rw[←List.take_append_drop (sW t xs) xs,nG]at h;exact h.elim .inl fun h=>.inr (.inr h)
   ·exact .inr (.inl h)
end
theorem mrgQ_len(xs:List (List UInt8))(t:List UInt8):(RE xs t).length≤xs.length+1:=by
 unfold RE;split
 ·omega
 ·rw[M8 _ _ (Ld t xs)];exact aH _
structure Ls(xs:List (List UInt8))(ok:List UInt8→Prop)(n:Nat):Prop where
 sm:∀s∈xs,Sm s
 asc:sI xs
 len:xs.length≤n
 mem:∀z,z∈xs↔ok z
theorem Ls.nil:Ls [] (fun _=>False) 0:=⟨fun _ h=>absurd h (by simp),Jv,aH _,fun _=>⟨fun h=>absurd h (by simp),fun h=>h.elim⟩⟩
theorem Ls.put{xs:List (List UInt8)}{ok:List UInt8→Prop}{n:Nat}(h:Ls xs ok n){t:List UInt8}(ht:Sm t)(b:Bool):Ls (AP b xs t) (fun z=>ok z∨(b=true∧z=t)) (n+1):=by
 unfold AP;cases b with
 |false=>exact⟨h.sm,h.asc,Nat.le_succ_of_le h.len,fun z=>⟨fun k=>.inl ((h.mem z).1 k),fun k=>k.elim (fun k=>(h.mem z).2 k) fun k=>absurd k.1 (by decide)⟩⟩
 |true=>
  rw[ip rfl];refine⟨fun s hm=>((Vq h.sm ht h.asc s).1 hm).elim (h.sm s) fun e=>by rw[e];exact ht,mrgQ_asc h.sm ht h.asc,aU (mrgQ_len xs t) (Nat.succ_le_succ h.len),fun z=>?_⟩;rw[Vq h.sm ht h.asc,h.mem];simp
theorem Ls.iff{xs:List (List UInt8)}{ok ok':List UInt8→Prop}{n:Nat}(h:Ls xs ok n)(hk:∀z,ok z↔ok' z):Ls xs ok' n:=⟨h.sm,h.asc,h.len,fun z=>(h.mem z).trans (hk z)⟩
theorem RJ{w:aF}{B e n cap:Nat}{a:Option Addr}{xs:List (List UInt8)}(hl:xs.length=n)(h:w.ownsRow B e 1 (aD a n cap) n (dK xs)):yJ w a xs:=by
 intro i hi;rcases h.2 with⟨_,h0⟩|⟨g,c,oL,hv,_⟩
 ·omega
 ·injection hv with e1 e2 e3;subst e1 e3;refine⟨g,0,rfl,?_⟩;rw[cC,dZ h i (by omega)];simp[dK,aG,hi]
theorem Below.grownW{w W:aF}(h:Below w.heap.size w W)(row:Option Nat):w.grownBy W row:=⟨h.os,h.tape,h.output,h.size,fun k hk _=>h.block k hk⟩
theorem Vr(g:Nat)(lb:Array aP)(eg:∀args w,(callFunc g args).run aE w=.ok (.enter g args) w)(B n:Nat)(v:aP)(xs:List (List UInt8))(t:List UInt8)(b:Bool)(w0 w:aF)(hE:mN w0)(hb:Below w0.heap.size w0 w)(hB:B≤w.heap.size)
 (hl:xs.length=n)(hn:n≤90000)(hs:∀s∈xs,Sm s)(ha:sI xs)(ht:Sm t)(ho:w.ownsRow B 34 1 v n (dK xs))
 (hc:∀W,Below w.heap.size w W→bE aE g (#[aA (bs t)]++lb) W fun e w'=>e=bA (aV b)∧Below W.heap.size W w'):
 bE aE 71 #[v,aA (bs t),.func (.func g) #[] lb] w fun e w'=>(∃v',e=bA v'∧w'.ownsRow B 34 1 v' (AP b xs t).length (dK (AP b xs t))∧(v'.ownBlock=v.ownBlock∨∀g,v'.ownBlock=some g→w.heap.size≤g))∧w.grownBy w' v.ownBlock:=by
 obtain⟨a,cap,rfl⟩:∃a c,v=aD a n c:=by
  rcases ho.2 with⟨h,h0⟩|⟨g,cap,oL,h,_⟩
  ·exact⟨none,0,by rw[h,h0]⟩
  ·exact⟨_,_,h⟩
 have HC:=zq hc;have hpn:=Ld t xs;rw[hl]at hpn;have HS:=zq (fun(W:aF)(hW:Below w.heap.size w W)=>Mo 76 (enters_of func76 (by kernel_rfl) rfl) (fun x y W hE hx hy=>OD x y W hE hx hy) a n cap (sW t xs) xs t W (hE.below (aQ hb hW)) (by omega) hpn hs hl ht
  (fun i hi=>by rw[(hs _ (bU (by omega) [])).lt ht];exact RD t xs i hi) (fun i h1 h2=>by
   have:=(hs _ (bU (i:=i) (by omega) [])).lt ht;have h3:=Le t xs ha i h1 (by omega);rcases Int.lt_or_le (fH (xs.getD i []) t).1 0 with h|h
   ·have:=this.1 h;grind
   ·exact h) (RJ hl (bJ ho hW)))
 obtain⟨ob,If⟩:=nm (aD a n cap).ownBlock;have HI:=zq (fun(W:aF)(hW:Below w.heap.size w W)=>Yx B W.heap.size 1 (sW t xs) n (aD a n cap) xs t (W.alloc (aN #[aA (bs t)] 34)) hl hpn (by omega) ((bJ ho hW).alloc _) (by rw[World.size_alloc];have:=hW.size;omega)
  (fun e=>by
   have:=(bJ ho hW).lt W.heap.size e.symm;omega) (bT.new W _ _))
 unfold Vn at HI;rw[If]at HI⊢;have RN:bK (b=true→(sW t xs<n∧(fH (xs.getD (sW t xs) []) t).1=0)→∀W,Below w.heap.size w W→W.ownsRow B 34 1 (aD a n cap) (AP b xs t).length (dK (AP b xs t))):=fun h1 h2 W hW=>by
  have:AP b xs t=xs:=by unfold AP RE;rw[ip h1,ip (by rw[hl];exact h2)]
  rw[this,hl];exact bJ ho hW
 have RI:bK (b=true→¬(sW t xs<n∧(fH (xs.getD (sW t xs) []) t).1=0)→AP b xs t=B9 xs (sW t xs) t):=fun h1 h2=>by
  unfold AP RE;rw[ip h1,iN (by rw[hl];exact h2)]
 have RF:bK (b=false→∀W,Below w.heap.size w W→W.ownsRow B 34 1 (aD a n cap) (AP b xs t).length (dK (AP b xs t))):=fun h1 W hW=>by
  have:AP b xs t=xs:=by unfold AP;rw[iN (by rw[h1];decide)]
  rw[this,hl];exact bJ ho hW
 have RL:bK ((B9 xs (sW t xs) t).length=n+1):=by show _=_;rw[M8 _ _ (Ld t xs),hl]
 have Hob:=zq If;clear hE hb hB hl hs ha ht ho hc If hpn;generalize hM:AP b xs t=M at *;clear hM;generalize sW t xs=p at *;obtain⟨fd,hfd⟩:=nm (decide (p<n∧(fH (xs.getD p []) t).1=0));rw[hfd]at HS;have Hfd:=zq hfd;clear hfd;generalize(fH (xs.getD p []) t).1=cc at *;generalize bs t=T at *;cases b with
 |false=>
  go_enter func71,ntmps71;go_wp2_with fail
  refine ka (HC.out w (aL _ _)) fun W1 hb1=>?_;have R:=zq (RF.out (by trivial) W1 hb1);go_wp2;go_ret;exact⟨⟨_,rfl,R.out,.inl Hob.out⟩,Below.grownW hb1 _⟩
 |true=>
  go_enter func71,ntmps71;go_wp2_with fail
  refine ka (HC.out w (aL _ _)) fun W1 hb1=>?_;have eC:=zq hb1;clear hb1;go_wp2_with fail
  refine ka (HS.out W1 eC.out) fun W2 hb2=>?_;have eT:=zq (aQ eC.out hb2);clear hb2;cases fd with
  |true=>
   have R:=zq (RN.out (by trivial) (of_decide_eq_true Hfd.out) W2 eT.out);go_wp2;go_ret;exact⟨⟨_,rfl,R.out,.inl Hob.out⟩,Below.grownW eT.out _⟩
  |false=>
   have R:=zq (RI.out (by trivial) (of_decide_eq_false Hfd.out));have H2:=zq (HI.out W2 eT.out);have HA:=zq ((eT.out.alloc eT.out.size (aN #[aA T] 34)));go_wp2_with fail
   refine H2.out.mono ?_;rintro e W3⟨⟨g3,cap3,rfl,ho3,hg4⟩,hg3⟩;have RO:bK (W3.ownsRow B 34 1 (aD (some ⟨g3,0,none⟩) (n+1) cap3) M.length (dK M)):=by show World.ownsRow _ _ _ _ _ _ _;rw[R.out,RL.out];exact ho3
   have RH:bK ((aD (some ⟨g3,0,none⟩) (n+1) cap3).ownBlock=ob∨∀g,(aD (some ⟨g3,0,none⟩) (n+1) cap3).ownBlock=some g→w.heap.size≤g):=by
    rcases hg4 with h|h
    ·exact .inl h.symm
    ·refine .inr fun g e=>?_;have e:g3=g:=by simpa[jW]using e
     have:=HA.out.size;rw[←e];omega
   have RG:=zq (Nk (Below.grownW HA.out ob) hg3);clear ho3 hg3 hg4;go_wp2;go_ret;exact⟨⟨_,rfl,RO.out,RH.out⟩,RG.out⟩
end
section
open Go Go.RowKit Go.Shelf Go.Lib
section
attribute[local go_sem] Oper.semAt_some
def jK(V V':aF):Prop:=∀(k:Nat)(c:Array aP)(T:dT),V.heap[k]? =some (aN c T (0,0))→T≠34→T≠62→V'.heap[k]? =some (aN c T (0,0))
theorem jK.refl(V:aF):jK V V:=fun _ _ _ h _ _=>h
theorem jK.trans{X Y Z:aF}(h:jK X Y)(k:jK Y Z):jK X Z:=fun i c T hi h1 h2=>k i c T (h i c T hi h1 h2) h1 h2
theorem jK.call{X Y:aF}(h:Below X.heap.size X Y):jK X Y:=fun i _ _ hi _ _=>(h.block i (Array.getElem?_eq_some_iff.1 hi).1).trans hi
theorem jK.blk{X Y:World}(h:jK X Y){b:Nat}{cs:Array Value}{T:TypeId}(k:bT X b cs T)(h1:T≠34:=by decide)(h2:T≠62:=by decide):bT Y b cs T:=h b _ _ k h1 h2
theorem jK.own{X Y:World}(h:jK X Y){B e s n:Nat}{v:Value}{xs:List Value}(k:X.ownsRow B e s v n xs)(h1:e≠34:=by decide)(h2:e≠62:=by decide):Y.ownsRow B e s v n xs:=by
 refine⟨k.1,k.2.imp id ?_⟩;rintro⟨g,cap,oL,e1,e2,e3,e4⟩;exact⟨g,cap,oL,e1,e2,h g _ _ e3 h1 h2,e4⟩
theorem jK.putObj(W:aF)(l:Nat)(o o':Obj)(h:W.heap[l]? =some o)(ho:o.isCells=false):jK W (W.putObj l o'):=fun i c T hi _ _=>by
 by_cases e:i=l
 ·subst e;rw[h]at hi;cases hi;cases ho
 ·exact(World.putObj_heap_other e).trans hi
theorem jK.set{W:aF}{b:Nat}{cs:Array aP}{T:dT}(hb:bT W b cs T)(hT:T=34∨T=62)(j:Nat)(v:aP):jK W (W.setCell ⟨b,j,none⟩ v):=fun i c S hi h1 h2=>by
 by_cases e:i=b
 ·subst e
  have JG:W.heap[i]? =some (aN cs T (0,0)):=hb
  rw[JG]at hi
  cases hi
  rcases hT with h|h
  ·exact absurd h h1
  ·exact absurd h h2
 ·exact(eE W ⟨b,j,none⟩ i v e).trans hi
theorem jK.grown{W W':aF}{B s n:Nat}{v:aP}{xs:List aP}(ho:W.ownsRow B 34 s v n xs)(hg:W.grownBy W' v.ownBlock):jK W W':=fun i c T hi h1 h2=>by
 refine(hg.block i (Array.getElem?_eq_some_iff.1 hi).1 fun e=>?_).trans hi
 rcases ho.2 with⟨h,_⟩|⟨g,cap,oL,h,_,k,_⟩
 ·rw[h]at e;cases e
 ·rw[h]at e
  have e:i=g:=by simpa[jW]using e
  subst e
  rw[hi]at k
  cases k
  exact h1 rfl
def M9(fs:List Fr)(n:Nat)(x:Nat×Nat):Prop:=x.1<x.2∧x.2<n∧(fs.getD x.1 default).up=(fs.getD x.2 default).up
def Ca(fs:List Fr)(n i j:Nat)(L:List (Nat×Nat)):Prop:=∀x,M9 fs n x→(x.1<i∨(x.1=i∧x.2<j))→x∈L
theorem Ca.skip{fs:List Fr}{n i j:Nat}{L:List (Nat×Nat)}(h:Ca fs n i j L)(hn:(fs.getD i default).up≠(fs.getD j default).up):Ca fs n i (j+1) L:=fun x hx hc=>by
 rcases hc with hc|⟨e,hc⟩
 ·exact h x hx (.inl hc)
 ·by_cases h2:x.2=j
  ·exact absurd (by rw[←e,←h2];exact hx.2.2) hn
  ·exact h x hx (.inr ⟨e,by omega⟩)
theorem Ca.put{fs:List Fr}{n i j:Nat}{L:List (Nat×Nat)}(h:Ca fs n i j L):Ca fs n i (j+1) (L++[(i,j)]):=fun x hx hc=>by
 rw[nG,eJ]
 rcases hc with hc|⟨e,hc⟩
 ·exact .inl (h x hx (.inl hc))
 ·by_cases h2:x.2=j
  ·exact .inr (Prod.ext e h2)
  ·exact .inl (h x hx (.inr ⟨e,by omega⟩))
theorem Ca.next{fs:List Fr}{n i:Nat}{L:List (Nat×Nat)}(h:Ca fs n i n L):Ca fs n (i+1) (i+1+1) L:=fun x hx hc=>by
 have:=hx.1;have:=hx.2.1
 rcases hc with hc|⟨e,hc⟩
 ·by_cases h2:x.1=i
  ·exact h x hx (.inr ⟨h2,by omega⟩)
  ·exact h x hx (.inl (by omega))
 ·omega
def PAll(fs:List Fr)(n:Nat)(L:List (Nat×Nat)):Prop:=∀x,M9 fs n x→x∈L
theorem Ca.all{fs:List Fr}{n j:Nat}{L:List (Nat×Nat)}(h:Ca fs n n j L):PAll fs n L:=fun x hx=>h x hx (.inl (by have:=hx.1;have:=hx.2.1;omega))
theorem Ca.zero(fs:List Fr)(n:Nat):Ca fs n 0 (0+1) []:=fun x hx hc=>by
 have:=hx.1;omega
theorem pair_seq (m:Nat) (Bf B0:Nat) (v:aP) (nf:Nat) (fs:List Fr) (hf:fs.length=nf) (hn:nf≤24) (w:aF) (ho:w.ownsRow B0 58 5 v nf (iT fs)) (hB:bT w Bf #[v] 27) :
 zl eP m aE 144 #[.pointer (some ⟨Bf,0,none⟩)] (fun x:Nat×Nat=> #[aC aB x.1,aC aB x.2]) (fun k x=> M9 fs nf x∧k.length < 576) (PAll fs nf) jK w:=by
 intro l J Jx W hW hJ hY h0;obtain⟨a,ca,rfl⟩:∃ a c,v=aD a nf c:=by
  rcases ho.2 with ⟨h,h0⟩ | ⟨g,cap,oL,h,_⟩
  ·exact⟨none,0,by rw [h,h0]⟩
  ·exact⟨_,_,h⟩
 have HO:=zq (bJ ho hW);have rn:=zq (hB.below hW hB.lt);have Hf:=zq hf;have HJ0:=zq h0;have HJ:=zq hJ;have HY:=zq hY;clear hf ho hB hW h0 hJ hY;refine callsIn_of_wp func144 rfl trivial ?_ rfl;simp only [ntmps144,cD,bD,bV,Nat.reduceAdd,Nat.reduceSub,Array.replicate_succ,Array.replicate_zero,List.push_toArray,List.append_toArray,List.nil_append,List.cons_append];have k0:=rn.out.cell 0;simp only [aJ,aI] at k0;have kl:=rn.out.lt;gi_wp2;gi_loopw [8] (fun i wr=> ∃ (k:Nat) (L:List (Nat×Nat)),i=aC aB (k:Int)∧k≤nf∧bK (J L wr)∧bK (jK W wr)∧bK (Ca fs nf k (k + 1) L)∧L.length≤24 * k)
  (fun i _=> nf - (aK i).toNat)
 case atStart=> exact⟨0, [],rfl,bM _,HJ0.out,jK.refl _,Ca.zero _ _,bM _⟩
 case round=>
  clear k0 kl;obtain⟨k,L,rfl,hk,HJk,HK,HL,hLl⟩:=hrel;by_cases hlt:k < nf
  ·obtain⟨fb,fo,rfl,c0,c1,c2,c3,c4⟩:=(vT.own (HK.out.own HO.out)).at (i:=k) (by rw [Hf.out];exact hlt) rfl;have Q4:=zq (bT.new wr (fs.getD k default).cells 58);have rT:=zq ((aL wr.heap.size wr).alloc (aH _) (aN (fs.getD k default).cells 58));have HU:bK (∀ j,M9 fs nf (k,j)↔k < j∧j < nf∧(fs.getD k default).up=(fs.getD j default).up):=fun j=> Iff.rfl;have HSk:bK (∀ j L2,Ca fs nf k j L2→(fs.getD k default).up≠(fs.getD j default).up→Ca fs nf k (j + 1) L2):=fun j L2 h h2=> h.skip h2;unfold Fr.cells at Q4 rT;generalize fs.getD k default=f at *;obtain⟨uY,fco,fdir,JJ,fst⟩:=f;simp only [] at *;generalize bs JJ=FSP at *;generalize bs fst=FST at *;have k0:=(HK.out.blk rn.out).cell 0;simp only [aJ,aI] at k0;have kl:=(HK.out.blk rn.out).lt;have hkn:(k:Int) < nf:=by omega
   gi_upto_region 3 with (fail);obtain⟨wb,zp⟩:=nm (wr.alloc (aN #[aV uY,aC aB fco,aC aB fdir,aA FSP,aA FST] 58));rw [zp] at Q4 rT ⊢;have HKb:=zq (HK.out.trans (jK.call rT.out));have HJb:=zq (HJ.out _ _ _ HJk.out rT.out);clear c0 c1 c2 c3 c4 k0 kl zp rT HJk HK;generalize wr.heap.size=b4 at *;have w3:IntKind.i64.wrap ((k:Int) + 1)=((k + 1:Nat):Int):=by rw [show((k + 1:Nat):Int)=(k:Int) + 1 by omega];exact bI _ (by omega)
   gi_wp2;gi_loopw [5] (fun i wr2=> ∃ (j:Nat) (L2:List (Nat×Nat)),i=aC aB (j:Int)∧k + 1≤j∧j≤nf∧bK (J L2 wr2)∧bK (jK wb wr2)∧bK (Ca fs nf k j L2)∧L2.length≤24 * k + j) (fun i _=> nf - (aK i).toNat);case atStart=> exact⟨k + 1,L,by go_num,aH _,by omega,HJb.out,jK.refl _,HL.out,by omega⟩
   case round=>
    clear w3;obtain⟨j,L2,rfl,hj1,hj,HJ2,Kj,L5,hL2⟩:=hrel;rename aF=> wi;have HKw:=zq (HKb.out.trans Kj.out);have q0:=HKw.out.blk rn.out;have q4:=Kj.out.blk Q4.out;have k0:=q0.cell 0;have kl:=q0.lt;have u0:=q4.cell 0;have ul:=q4.lt;simp only [aJ,aI] at k0 u0;by_cases hjn:j < nf
    ·obtain⟨fb',fo',e1,g0,g1,g2,g3,g4⟩:=(vT.own (HKw.out.own HO.out)).at (i:=j) (by rw [Hf.out];omega) rfl;injection e1 with e1;injection e1 with e1 e2;subst e1 e2;have HUj:=HU.out j;have HSj:=HSk.out j L2 L5.out;have HPj:=L5.out.put;generalize fs.getD j default=g at *;obtain⟨Nt,ee,Gp,gsp,gst⟩:=g;simp only [] at *;have gl:=World.block_lt_of_cell? wi _ g0;have hji:(j:Int) < nf:=by omega
     have hj0:(0:Int)≤(j:Int):=by omega
     have w3:IntKind.i64.wrap ((j:Int) + 1)=((j + 1:Nat):Int):=by rw [show((j + 1:Nat):Int)=(j:Int) + 1 by omega];exact bI _ (by omega)
     by_cases hu:uY=Nt
     ·obtain⟨YF⟩:Nonempty (∀ V,J L2 V→YieldAt eP (m - 1) aE l #[aC aB k,aC aB j] V fun e V' => (e=bA (aV true)∧J (L2 ++ [(k,j)]) V' ∧jK V V')∨(e=bA (aV false)∧Jx (L2 ++ [(k,j)]) V')):=⟨fun V hV=> HY.out L2 (k,j) V ⟨HUj.2 ⟨by omega,hjn,hu⟩,by omega⟩ hV⟩;have HYF:=zq YF;have HP:=zq HPj;clear YF HUj HSj HPj g1 g2 g3 g4;subst hu;gi_wp2;cases uY <;>
      ·refine uB 12 (fun _=> .quiet) (fun w' => w'.cell? ⟨Bf,0,none⟩=some (aD (some ⟨fb,fo,none⟩) nf ca)∧w'.cell? ⟨b4,0,none⟩=some (aV _)∧w'.cell? ⟨fb,fo + j * 5,none⟩=some (aV _)) ⟨k0,u0,g0⟩ ?_ (st:=fun w1 w2 h hb=> ⟨tC hb kl h.1,tC hb ul h.2.1,tC hb gl h.2.2⟩);refine qS 0 rfl (pu ?_);refine qS 1 rfl (pu ?_);refine qS 2 rfl (pu ?_);refine qS 3 rfl (pu ?_);refine qS 4 rfl (pu ?_);refine qS 5 rfl (pu ?_);refine qS 6 rfl (pu ?_);refine qS 7 rfl (pu ?_);refine qS 8 rfl (pu ?_);refine qS 9 rfl (pu ?_);refine qS 10 rfl (pu ?_);refine qS 11 rfl (pu ?_);refine qT fun V hV _=> ?_;obtain⟨fn,tmps,assign,body,hy,hR⟩:=HYF.out V (HJ.out _ _ _ HJ2.out hV.b);have HVb:=zq (jK.call hV.b);refine eI 12 [] rfl (fun K hK=> ?_) eB;rw [ip (by kernel_rfl)];go_simp;refine⟨fun h=> by simp [eP] at h,hR.mono ?_⟩;clear hy hR;rintro e W3 (⟨rfl,Ze,hk3⟩ | ⟨rfl,xk⟩)
       ·show K _ _;refine hK _ _ (pu ?_);refine tI 13 rfl (pu ?_);refine tI 14 rfl (pu ?_);refine pM (by kernel_rfl) ?_ _;refine iM.normal ?_;gi_wp2;go_roundw;case rel=> exact⟨j + 1,_,by go_num,by omega,by omega,Ze,(Kj.out.trans HVb.out).trans hk3,HP.out,by rw [bO];simp only [bD,bV];omega⟩
        case measure=> simp only [aK];omega
       ·show K _ _;refine hK _ _ (pu ?_);refine tI 13 rfl (pu ?_);refine tI 14 rfl (pu ?_);refine pM (by kernel_rfl) ?_ _;refine iM.normal ?_;gi_wp2;refine bodyPost_ret (results_none rfl _ _ _) rfl ?_;exact⟨⟨_,rfl⟩, .inr ⟨_,xk⟩⟩
     ·have HP:=zq (HSj hu);clear HUj HSj HPj g1 g2 g3 g4;gi_wp2;cases uY <;> cases Nt <;> (try (exact absurd rfl hu)) <;> clear hu;all_goals
       refine uB 15 (fun _=> .quiet) (fun w' => w'.cell? ⟨Bf,0,none⟩=some (aD (some ⟨fb,fo,none⟩) nf ca)∧w'.cell? ⟨b4,0,none⟩=some (aV _)∧w'.cell? ⟨fb,fo + j * 5,none⟩=some (aV _)) ⟨k0,u0,g0⟩ ?_ (st:=fun w1 w2 h hb=> ⟨tC hb kl h.1,tC hb ul h.2.1,tC hb gl h.2.2⟩);refine qS 0 rfl (pu ?_);refine qS 1 rfl (pu ?_);refine qS 2 rfl (pu ?_);refine qS 3 rfl (pu ?_);refine qS 4 rfl (pu ?_);refine qS 5 rfl (pu ?_);refine qS 6 rfl (pu ?_);refine qS 7 rfl (pu ?_);refine qS 8 rfl (pu ?_);refine ZL 9 rfl (pu ?_);refine ZL 10 rfl (pu ?_);refine ZL 11 rfl (pu ?_);refine ZL 12 rfl (pu ?_);refine ZL 13 rfl (pu ?_);refine qS 14 rfl (pu ?_);refine qE fun V hV _=> ?_;have HVb:=zq (jK.call hV.b);have HJv:=zq (HJ.out _ _ _ HJ2.out hV.b);clear hV;gi_wp2;go_roundw;case rel=> exact⟨j + 1,L2,by go_num,by omega,by omega,HJv.out,Kj.out.trans HVb.out,HP.out,by omega⟩
       case measure=> simp only [aK];omega
    ·obtain rfl:nf=j:=by omega
     have HP:=zq L5.out.next;have hjj:¬ ((nf:Int) < nf):=by omega
     gi_wp2;go_roundw;case rel=> exact⟨k + 1,L2,by go_num,by omega,HJ2.out,HKw.out,HP.out,by omega⟩
     case measure=> simp only [aK];omega
  ·obtain rfl:nf=k:=by omega
   have hjj:¬ ((nf:Int) < nf):=by omega
   gi_wp2;go_end0;exact⟨⟨_,rfl⟩, .inl ⟨L,HL.out.all,HJk.out⟩⟩
end
end
end Go.Proofs.YtkchhginppjaiaaGreatDoor
