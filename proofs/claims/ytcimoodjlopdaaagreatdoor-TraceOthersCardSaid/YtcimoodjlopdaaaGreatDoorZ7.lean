import Derived.RangeFuncBox
import Derived.RangeFuncNested
import Derived.RangeFuncBound
import Derived.RangeFuncCalls
import Derived.RangeFuncLeaves
import Derived.RangeFuncFrom
import Derived.Shelf.Abstract
import Derived.Shelf.RegionOpen
import Derived.WalkKit
import Derived.OwnWalkIn
import Derived.TacticsInMore
import Derived.LoopNIn
import Derived.LoopIn
import Derived.Test.YtcimoodjlopdaaaGreatDoorProg
import Derived.WalkSpells
import Derived.WalkLawsBesides
import Derived.RegionTactic
import Derived.ChangeAlike
import Derived.Deep.QuietTactic
import Derived.BigQuiet
import Derived.Lib.Hide
import Derived.Deep.DeepCutAuto
import Derived.Deep.RegionHeld3
import Derived.Test.YtcimoodjlopdaaaGreatDoorZ0
import Derived.Test.YtcimoodjlopdaaaGreatDoorZ1
import Derived.Test.YtcimoodjlopdaaaGreatDoorZ3
import Derived.Test.YtcimoodjlopdaaaGreatDoorZ6
namespace Go.Proofs.YtcimoodjlopdaaaGreatDoor
set_option maxRecDepth 100000
set_option maxHeartbeats 8000000
set_option linter.all false
open Go.Proofs.Tryz
open _root_.Array renaming replicate_succ->eR,replicate_zero->eT
open Go renaming World->aE,Value->bB,bodyPost_ret->cD,Addr->dE,run_takeDeferred->gE,results_none->Bh,ownFrom_below->Bi,callsIn_of_wp->Kv,TypeId->Ii,grownBy_putObj'->sc
open Go.Ending renaming returned->aO
open Go.IntKind renaming i64->aG
open Go.KeepsFrom renaming refl->T5
open Go.KeepsOthers renaming setCell->cE
open Go.Obj renaming cells->aL,isCells->sb
open Go.Oper renaming semAt_some->mD
open Go.OwnFrom renaming and->tE
open Go.Proofs.Tryz renaming prog->aC,isAgg3->nE,func289->Kw,results209->MH
open Go.RowKit renaming Below->aJ,intOf->aK
open Go.RowKit.Below renaming refl->aI
open Go.Value renaming string->aA,slice->aB,int->aF,pointer->cB
open Go.World renaming size_alloc->aS,block_lt_of_cell?->bF
open List renaming getElem?_cons_zero->bD,getElem?_toArray->bJ,length_cons->cO,length_nil->eW,append_toArray->fJ,cons_append->fX,size_toArray->gA,push_toArray->gC,nil_append->iC
open Nat renaming le_refl->aD,zero_le->bR,lt_or_ge->fC,reduceAdd->jX,reduceSub->jY
open Trans renaming trans->cL
section
open Go Go.RowKit Go.Shelf
section
attribute[local go_sem] mD
theorem bZ.own{W W':aE}{b:Nat}{cs:Array bB}{T:Ii}{uJ:Option Nat}(h:bZ W b cs T)(hg:W.grownBy W' uJ)(hr:∀r,uJ=some r→∃o:Obj,W.heap[r]? =some o∧o.isCells=false):bZ W' b cs T:=by
 refine h.grown hg ?_;intro e;obtain⟨_,ho,hc⟩:=hr b e.symm;have h':W.heap[b]? =some (aL cs T (0,0)):=h;rw[h']at ho;cases ho;simp[sb]at hc
theorem tU{W W':aE}{base e size n:Nat}{v:bB}{xs:List bB}{uJ:Option Nat}(h:W.ownsRow base e size v n xs)(hg:W.grownBy W' uJ)(hr:∀r,uJ=some r→∃o:Obj,W.heap[r]? =some o∧o.isCells=false):W'.ownsRow base e size v n xs:=by
 refine h.kept hg ?_;rcases h.2 with⟨rfl,_⟩|⟨g,cap,D7,rfl,hb,hh,_⟩
 ·exact .inl rfl
 ·right;intro e;obtain⟨o,ho,hc⟩:=hr g e.symm;rw[hh]at ho;cases ho;simp[sb]at hc
theorem qB{W W':aE}(h:aJ W.heap.size W W'):KeepsOthers W W':=
 ⟨h.size,fun k o hk _=>(h.block k (Array.getElem?_eq_some_iff.1 hk).1).trans hk⟩
theorem vF{P:Program}{fn:Func}{p:Tmp}{ty:Ii}(h:fn.results= #[.cell p ty])(tmps:Array bB)(w:aE)(g:Nat)(v:bB)
 (hp:tmps.getD p undef=cB (some ⟨g,0,none⟩))(hc:w.cell? ⟨g,0,none⟩=some v)(ha:(isAgg ty).run P w=.ok false w):
 (results fn tmps).run P w=.ok v w:=by
 have xq:tmps[p]?.getD undef=cB (some ⟨g,0,none⟩):=by simpa using hp
 simp[results,h,go_sem,xq,hc,ha]
theorem bZ.putObj{W:aE}{b:Nat}{cs:Array bB}{T:Ii}(h:bZ W b cs T){l:Nat}{o:Obj}(o':Obj)(hl:W.heap[l]? =some o)(ho:o.isCells=false):bZ (W.putObj l o') b cs T:=
 h.own (sc W l o') (fun r e=>by cases e;exact⟨o,hl,ho⟩)
theorem mI.putObj{W:aE}{base:Nat}{v:bB}{B N:Nat}(h:mI W base v B N){l:Nat}{o:Obj}(o':Obj)(hl:W.heap[l]? =some o)(ho:o.isCells=false):mI (W.putObj l o') base v B N:=by
 obtain⟨g,n,cap,e,h⟩:=h;exact⟨g,n,cap,e,tU h (sc W l o') (fun r e=>by cases e;exact⟨o,hl,ho⟩)⟩
def bI(xs:List Nat)(k:Nat):Nat:=xs.length-1-k
def bX(xs:List Nat)(k:Nat):Nat:=xs.getD (xs.length-1-k) 0
abbrev xt(xs:List Nat)(k:Nat):Array bB:= #[iv (bI xs k),iv (bX xs k)]
theorem LD{xs:List Nat}{k len j:Nat}(hl:xs.length=len)(hj:len-1-k=j):bI xs k=j:=by unfold bI;rw[hl,hj]
theorem LH{xs:List Nat}{k len j X:Nat}(hl:xs.length=len)(hj:len-1-k=j)(hX:xs.getD j 0=X):bX xs k=X:=by unfold bX;rw[hl,hj,hX]
def dA(ks:Nat→Prop)(W W':aE):Prop:=∀k,ks k→W'.heap[k]? =W.heap[k]?
theorem dA.refl(ks:Nat→Prop)(W:aE):dA ks W W:=fun _ _=>rfl
theorem dA.trans{ks:Nat→Prop}{A B C:aE}(h:dA ks A B)(k:dA ks B C):dA ks A C:=fun i hi=>(k i hi).trans (h i hi)
theorem dA.cell{ks:Nat→Prop}{A B:aE}(h:dA ks A B){p:dE}(hp:ks p.block):B.cell? p=A.cell? p:=World.cell?_of_block (h p.block hp)
theorem dA.putObj{ks:Nat→Prop}{w:aE}(hk:∀k,ks k→k<w.heap.size)(W:aE)(l:Nat)(o o':Obj)(hl:w.heap.size≤l)(_:W.heap[l]? =some o)(_:o.isCells=false)(_:o.isWalk=false):dA ks W (W.putObj l o'):=
 fun k h=>World.putObj_heap_other (by have:=hk k h;omega)
theorem dA.below{ks:Nat→Prop}{A B:aE}{n:Nat}(h:aJ n A B)(hk:∀k,ks k→k<n):dA ks A B:=fun k h'=>h.block k (hk k h')
theorem dA.setCell{ks:Nat→Prop}{W:aE}{a:dE}(hk:∀k,ks k→k≠a.block)(v:bB):dA ks W (W.setCell a v):=fun k h=>heap_setCell_other W a k v (hk k h)
def JD(Bs:Nat)(a:Option dE)(len:Nat)(k:Nat):Prop:=k=Bs∨(0<len∧∃p,a=some p∧k=p.block)
theorem GB(F:Fence)(n:Nat)(h7:F.fn 289)(Ig:F.round=none)(hn:1≤n)(Bs:Nat)(a:Option dE)(len cap:Nat)(xs:List Nat)(hxl:xs.length=len)(ii:len≤2147483648)(w:aE)
 (hBs:w.cell? ⟨Bs,0,none⟩=some (aB a len cap))(hc:Rd w a xs):
 Vf F n aC 289 #[cB (some ⟨Bs,0,none⟩)] (xt xs) (dA (JD Bs a len)) len w:=by
 intro l J Jx W hW hY h0;have hBs:=(hW.cell (p:=⟨Bs,0,none⟩) (bF w _ hBs)).trans hBs;have hc:=hc.below hW;have J5:=zq hxl;clear hxl;have Hc:=zq hc;clear hc;clear hW;refine Kv Kw rfl h7 ?_ Ig;simp only[ntmps289,gA,cO,eW,jX,jY,eR,eT,gC,fJ,iC,fX];gi_wp2;gi_loopw [3] (fun i wr=>∃k:Nat,k≤len∧i=aF aG ((len:Int)-1-k)∧J k wr∧dA (JD Bs a len) W wr)
  (fun i _=>(aK i+1).toNat)
 case atStart=>exact⟨0,bR _,by simp,h0,dA.refl _ _⟩
 case round=>
  obtain⟨k,hk,rfl,ij,KA⟩:=hrel;by_cases hlt:k<len
  ·obtain⟨j,hj⟩:∃j,len-1-k=j:=⟨_,rfl⟩;have hji:(len:Int)-1-k=j:=by omega
   rw[hji];obtain⟨b,off,rfl,zK⟩:=Hc.out j (by rw[J5.out];omega);have YR:=(KA.cell (p:=⟨b,off+j,none⟩) (.inr ⟨by omega,_,rfl,rfl⟩)).trans zK;have UY:wr.cell? ⟨Bs,0,none⟩=some (aB (some ⟨b,off,none⟩) len cap):=(KA.cell (p:=⟨Bs,0,none⟩) (.inl rfl)).trans hBs;obtain⟨fn,tmps,assign,body,hy,hR⟩:=hY k wr hlt ij;simp only[xt,LD J5.out hj,LH J5.out hj rfl]at hy;have Hj:=zq hj;clear hj;generalize xs.getD j 0=X at *;have sv:(j:Int)<len:=by omega
   clear zK hji;gi_wp2;refine hR.mono ?_;rintro e W3 (⟨rfl,QO,hk3⟩|⟨rfl,Vg⟩)
   ·gi_wp2;go_roundw;case rel=>exact⟨k+1,by omega,by have:=Hj.out;congr 1;omega,QO,KA.trans hk3⟩
    case measure=>have:=Hj.out;simp only[aK];omega
   ·gi_wp2;refine cD (Bh rfl _ _ _) rfl ?_;exact⟨⟨_,rfl⟩,.inr ⟨k+1,by omega,Vg⟩⟩
  ·obtain rfl:k=len:=by omega
   gi_wp2;go_end0;exact⟨⟨_,rfl⟩,.inl ij⟩
theorem GC(F:Fence)(n:Nat)(h5:F.fn 254)(Ig:F.round=none)(a:Option dE)(len cap:Nat)(w:aE):
 CallsIn F n aC 254 #[aB a len cap] w fun e w'=>e=aO (.func (.func 289) #[] #[cB (some ⟨w.heap.size,0,none⟩)])∧w'=w.alloc (aL #[aB a len cap] 179):=by
 refine Kv func254 rfl h5 ?_ Ig;simp only[ntmps254,gA,cO,eW,jX,jY,eR,eT,gC,fJ,iC,fX];gi_wp2;go_ret;exact⟨rfl,rfl⟩
theorem CV{w:aE}{Bs len:Nat}{a:Option dE}{xs:List Nat}(h:Rd w a xs)(hl:xs.length=len)(hB:Bs<w.heap.size):∀k,JD Bs a len k→k<w.heap.size:=by
 rintro k (rfl|⟨h0,p,rfl,rfl⟩)
 ·exact hB
 ·obtain⟨b,off,e,hc⟩:=h 0 (by omega);injection e with e;subst e;exact bF w _ hc
end
section
attribute[local go_sem] mD
def dX(s:ByteArray)(k:Nat):Nat:=(s.data.toList.getD (s.size-1-k) 0).toNat-48
abbrev encD(s:ByteArray)(k:Nat):Array bB:= #[iv k,iv (dX s k)]
theorem ik(F:Fence)(n:Nat)(h7:F.fn 252)(Ig:F.round=none)(hn:1≤n)(Bs:Nat)(s:ByteArray)(len:Nat)(hsl:s.size=len)(ii:len≤2147483648)(hd:s.data.toList.all dG=true)(w:aE)
 (hBs:w.cell? ⟨Bs,0,none⟩=some (aA s)):
 Vf F n aC 252 #[cB (some ⟨Bs,0,none⟩)] (encD s) (dA (·=Bs)) len w:=by
 intro l J Jx W hW hY h0;have hBs:=(hW.cell (p:=⟨Bs,0,none⟩) (bF w _ hBs)).trans hBs;clear hW;have Hd:=zq hd;clear hd;subst hsl;refine Kv func252 rfl h7 ?_ Ig;simp only[ntmps252,gA,cO,eW,jX,jY,eR,eT,gC,fJ,iC,fX];gi_wp2;gi_loopw [6] (fun i wr=>∃k:Nat,k≤s.size∧i=aF aG (k:Int)∧J k wr∧dA (·=Bs) W wr)
  (fun i _=>s.size-(aK i).toNat)
 case atStart=>exact⟨0,bR _,by simp,h0,dA.refl _ _⟩
 case round=>
  obtain⟨k,hk,rfl,ij,KA⟩:=hrel;by_cases hlt:k<s.size
  ·obtain⟨j,hj⟩:∃j,s.size-1-k=j:=⟨_,rfl⟩;have hjs:j<s.size:=by omega
   have e1:(s.size:Int)-1-(k:Int)=(j:Int):=by omega
   have e2:(0:Int)≤(j:Int):=by omega
   have hb:=(KA.cell (p:=⟨Bs,0,none⟩) rfl).trans hBs;have Ur:=Bt s Hd.out j hjs;obtain⟨d,MO⟩:∃d:Nat,(s[j].toNat:Int)-48=(d:Int):=⟨s[j].toNat-48,by omega⟩;have q1:IntKind.u8.wrap ((s[j].toNat:Int)-48)=(d:Int):=by rw[MO];exact IntWalk.u8_in _ (by omega)
   have q2:((s[j].toNat:Int)-48)%256=(d:Int):=by rw[MO];omega
   have hba:(s.data.toList.getD j 0).toNat-48=d:=by rw[NF s j hjs];omega
   obtain⟨fn,tmps,assign,body,hy,hR⟩:=hY k wr hlt ij;simp only[encD,dX,hj,hba]at hy;have Hba:=zq hba;clear hba;have Hj:=zq hj;clear hj Ur MO;gi_wp2;refine hR.mono ?_;rintro e W3 (⟨rfl,QO,hk3⟩|⟨rfl,Vg⟩)
   ·gi_wp2;go_roundw;case rel=>exact⟨k+1,by omega,by go_num,QO,KA.trans hk3⟩
    case measure=>simp only[aK];omega
   ·gi_wp2;refine cD (Bh rfl _ _ _) rfl ?_;exact⟨⟨_,rfl⟩,.inr ⟨k+1,by omega,Vg⟩⟩
  ·obtain rfl:k=s.size:=by omega
   gi_wp2;go_end0;exact⟨⟨_,rfl⟩,.inl ij⟩
theorem xu(F:Fence)(n:Nat)(h5:F.fn 201)(Ig:F.round=none)(s:ByteArray)(w:aE):
 CallsIn F n aC 201 #[aA s] w fun e w'=>e=aO (.func (.func 252) #[] #[cB (some ⟨w.heap.size,0,none⟩)])∧w'=w.alloc (aL #[aA s] 9):=by
 refine Kv func201 rfl h5 ?_ Ig;simp only[ntmps201,gA,cO,eW,jX,jY,eR,eT,gC,fJ,iC,fX];gi_wp2;go_ret;exact⟨rfl,rfl⟩
end
section
attribute[local go_sem] mD
def Cd(v:Int)(M N:Nat):Prop:=(v<0↔M<N)∧(v=0↔M=N)
theorem LI(a1 a2:Option dE)(c1 c2 n1 n2:Nat)(w:aE)(M N:Nat)(hn1:(bM PB M).length=n1)(hn2:(bM PB N).length=n2)(hx:n1≤1000)(hy:n2≤1000)(lE:n1≠n2):
 Calls aC 209 #[aB a1 n1 c1,aB a2 n2 c2] w fun e w'=>(∃v,e=aO (aF aG v)∧Cd v M N)∧aJ w.heap.size w w':=by
 have hc:Cd ((n1:Int)-n2) M N:=by
  rcases fC n1 n2 with h|h
  ·have:M<N:=oF cR (by omega);exact⟨by omega,by omega⟩
  ·have:N<M:=oF cR (by omega);exact⟨by omega,by omega⟩
 have Hc:=zq hc;clear hc hn1 hn2;have hb:((n1:Int) !=(n2:Int))=true:=by simp;omega
 have hB:aJ w.heap.size w ((w.alloc (aL #[aB a2 n2 c2] 179)).alloc (aL #[aF aG ((n1:Int)-n2)] 3)):=((aI _ _).alloc (aD _) _).alloc (by simp) _;go_enter func209,ntmps209;go_wp2;refine cD (vF MH _ _ (w.heap.size+1) (aF aG ((n1:Int)-n2)) rfl ?_ (nE _)) rfl ⟨⟨_,rfl,Hc.out⟩,hB⟩;have:=(bZ.new (w.alloc (aL #[aB a2 n2 c2] 179)) #[aF aG ((n1:Int)-n2)] 3).cell 0;rwa[aS]at this
theorem LJ(F:Fence)(n:Nat)(hF:∀k,F.fn k)(Ig:F.round=none)(hn:5≤n)(a1 a2:Option dE)(c1 c2 len:Nat)(w:aE)(M N:Nat)(hn1:(bM PB M).length=len)(hn2:(bM PB N).length=len)(hx:len≤1000)(h1:Rd w a1 (bM PB M))(h2:Rd w a2 (bM PB N)):
 CallsIn F n aC 209 #[aB a1 len c1,aB a2 len c2] w fun e w'=>(∃v,e=aO (aF aG v)∧Cd v M N)∧aJ w.heap.size w w':=by
 have H1:=zq h1;clear h1
 have H2:=zq h2;clear h2
 have pI:=zq hn1;clear hn1
 have qE:=zq hn2;clear hn2
 have e0:((len:Int) !=(len:Int))=false:=by simp
 refine callsIn_of_wp_marks func209 rfl (hF _) ?_ Ig
 simp only[ntmps209,gA,cO,eW,jX,jY,eR,eT,gC,fJ,iC,fX]
 have h1n:1≤n:=by omega
 gi_wp2_with (gi_at_call 254;refine(GC F (n-1) (hF _) Ig _ _ _ _).mono ?_;rintro e w' ⟨rfl,rfl⟩)
 have fP:aJ w.heap.size w (((w.alloc (aL #[aB a2 len c2] 179)).alloc (aL #[aF aG 0] 3)).alloc (aL #[aB a1 len c1] 179)):=(((aI _ w).alloc (aD _) _).alloc (by simp) _).alloc (by simp;omega) _
 obtain⟨W0,iU⟩:∃W0,(((w.alloc (aL #[aB a2 len c2] 179)).alloc (aL #[aF aG 0] 3)).alloc (aL #[aB a1 len c1] 179))=W0:=⟨_,rfl⟩
 have b0:bZ W0 w.heap.size #[aB a2 len c2] 179:=by rw[←iU];exact((bZ.new w _ _).alloc _).alloc _
 have b1:bZ W0 (w.heap.size+1) #[aF aG 0] 3:=by
  rw[←iU]
  have:=(bZ.new (w.alloc (aL #[aB a2 len c2] 179)) #[aF aG 0] 3).alloc (aL #[aB a1 len c1] 179)
  rwa[aS]at this
 have b2:bZ W0 (w.heap.size+1+1) #[aB a1 len c1] 179:=by
  rw[←iU]
  have:=bZ.new ((w.alloc (aL #[aB a2 len c2] 179)).alloc (aL #[aF aG 0] 3)) #[aB a1 len c1] 179
  rwa[aS,aS]at this
 have Yt:W0.heap.size=w.heap.size+3:=by rw[←iU];simp
 rw[iU]at fP⊢
 clear iU
 have Ke:=CV (H1.out.below fP) pI.out (Bs:=w.heap.size+1+1) (by omega)
 refine Gz Ig (by omega) (gf:=289) (lb:= #[cB (some ⟨w.heap.size+1+1,0,none⟩)]) rfl (hF _) (enters_of Kw (by kernel_rfl) rfl)
  (GB F (n-1) (hF _) Ig (by omega) (w.heap.size+1+1) a1 len c1 (bM PB M) pI.out (by omega) W0 (b2.cell 0) (H1.out.below fP)) (aI _ _) dA.trans (dA.putObj Ke) (fun _=>rfl)
  (fun k W=>(Hid (∀i,len-k≤i→i<len→(bM PB M).getD i 0=(bM PB N).getD i 0)∧bZ W w.heap.size #[aB a2 len c2] 179∧bZ W (w.heap.size+1) #[aF aG 0] 3)∧aJ w.heap.size w W)
  (fun c _ W=>(c=.ret∧∃v,Cd v M N∧bZ W (w.heap.size+1) #[aF aG v] 3)∧aJ w.heap.size w W)
  (tE (Own.from (fun s A B uJ hs hg hr=>⟨hs.1,hs.2.1.own hg hr,hs.2.2.own hg hr⟩) _) (Bi (aD _) (by omega)))
  (fun c=>tE (Own.from (fun s A B uJ hs hg hr=>by obtain⟨h1,v,h2,h3⟩:=hs;exact⟨h1,v,h2,h3.own hg hr⟩) _) (Bi (aD _) (by omega)))
  ⟨⟨fun i h1 h2=>by omega,b0,b1⟩,fP⟩
  ?rF ?assign ?body ?done ?stop
 case assign=>
  intro l k W K hK
  gi_wp2
  exact hK
 case body=>
  rintro l k W hk⟨⟨heq,hb0,hb1⟩,hB⟩
  obtain⟨j,hj⟩:∃j,len-1-k=j:=⟨_,rfl⟩
  obtain⟨g2,o2,rfl,hcc⟩:=(H2.out.below hB) j (by rw[qE.out];omega)
  have k0:=hb0.cell 0
  have k1:=hb1.cell 0
  have k2:=hb1.fz 0
  simp only[bJ,bD]at k0 k1
  have sv:(j:Int)<len:=by omega
  have hj0:(0:Int)≤j:=by omega
  have hx:=eJ (eA cR M) (by decide) j
  have hy:=eJ (eA cR N) (by decide) j
  have Hj:=zq hj;clear hj
  generalize Dv:(bM PB M).getD j 0=X at *
  generalize Eo:(bM PB N).getD j 0=Y at *
  have hx:X<1000000000:=hx
  have hy:Y<1000000000:=hy
  rw[LD pI.out Hj.out,LH pI.out Hj.out Dv]
  have FE:=zq Dv;clear Dv
  have Jp:=zq Eo;clear Eo
  by_cases hxy:X=Y
  ·subst hxy
   have lE:((X:Int) !=(X:Int))=false:=by simp
   gi_wp2
   refine⟨T5 _ _,dA.refl _ _,⟨fun i h1 h2=>?_,hb0,hb1⟩,hB⟩
   by_cases e:i=j
   ·subst e;rw[FE.out,Jp.out]
   ·exact heq.out i (by have:=Hj.out;omega) h2
  ·have lE:((X:Int) !=(Y:Int))=true:=by simp;omega
   have xv:Hid (Cd ((X:Int)-Y) M N):=by
    show Cd _ _ _
    rcases fC X Y with h|h
    ·have:M<N:=by
      rw[←cY cR M,←cY cR N]
      exact tF (by decide) _ _ (eA cR M) j (by rw[pI.out,qE.out]) (by rw[pI.out];omega) (by rw[pI.out];exact fun i h1 h2=>heq.out i (by have:=Hj.out;omega) h2) (by rw[FE.out,Jp.out];exact h)
     exact⟨by omega,by omega⟩
    ·have:N<M:=by
      rw[←cY cR M,←cY cR N]
      exact tF (by decide) _ _ (eA cR N) j (by rw[pI.out,qE.out]) (by rw[qE.out];omega) (by rw[qE.out];exact fun i h1 h2=>(heq.out i (by have:=Hj.out;omega) h2).symm) (by rw[FE.out,Jp.out];omega)
     exact⟨by omega,by omega⟩
   clear hxy
   gi_wp2
   exact⟨(cE _ _ _).from _,⟨rfl,_,xv.out,hb1.set 0 _⟩,hB.setCell (p:=⟨w.heap.size+1,0,none⟩) (by show w.heap.size≤w.heap.size+1;omega) _⟩
 case done=>
  rintro D W hD⟨⟨heq,hb0,hb1⟩,hB⟩hK
  have hMN:M=N:=by
   rw[←cY cR M,←cY cR N]
   exact CE PB _ _ (by rw[pI.out,qE.out]) (by rw[pI.out];exact fun i hi=>heq.out i (by omega) hi)
  have k1:=hb1.cell 0
  have k2:=hb1.fz 0
  simp only[bJ,bD]at k1
  gi_wp2
  have hK':=(cE W ⟨w.heap.size+1,0,none⟩ (aF aG 0)).same D _ hK rfl
  refine⟨by simp,.inl ⟨_,_,rfl,gE hK',?_⟩⟩
  refine⟨aF aG 0,vF MH _ _ (w.heap.size+1) (aF aG 0) rfl ?_ (nE _),⟨0,rfl,by unfold Cd;omega⟩,?_⟩
  ·exact((hb1.set 0 (aF aG 0)).putObj _ hK' rfl).cell 0
  ·exact(hB.setCell (p:=⟨w.heap.size+1,0,none⟩) (by show w.heap.size≤w.heap.size+1;omega) _).trans (belowK_b (w:=w) (aD _) _ D _ _ (by omega) hK' rfl rfl)
 case stop=>
  rintro D c k W hD hk⟨⟨rfl,v,hv,hb1⟩,hB⟩hK
  gi_wp2
  refine⟨by simp,.inl ⟨_,_,rfl,gE hK,?_⟩⟩
  refine⟨aF aG v,vF MH _ _ (w.heap.size+1) (aF aG v) rfl ((hb1.putObj _ hK rfl).cell 0) (nE _),⟨v,rfl,hv⟩,?_⟩
  exact hB.trans (belowK_b (w:=w) (aD _) W D _ _ (by omega) hK rfl rfl)
theorem wC(v1 v2:bB)(M N:Nat)(w:aE)(h1:nR w v1 PB M)(h2:nR w v2 PB N)(hM:(bM PB M).length≤1000)(hN:(bM PB N).length≤1000):
 Calls aC 209 #[v1,v2] w fun e w'=>(∃v,e=aO (aF aG v)∧Cd v M N)∧aJ w.heap.size w w':=by
 obtain⟨a1,n1,c1,rfl,q1,_,_,_,q5⟩:=h1;obtain⟨a2,n2,c2,rfl,p1,_,_,_,p5⟩:=h2;by_cases h:n1=n2
 ·subst h;exact callsIn_wide.1 (LJ Fence.wide 5 (fun _=>trivial) rfl (aD _) a1 a2 c1 c2 n1 w M N q1 p1 (by omega) q5 p5)
 ·exact LI a1 a2 c1 c2 n1 n2 w M N q1 p1 (by omega) (by omega) h
end
end
end Go.Proofs.YtcimoodjlopdaaaGreatDoor
