import Derived.Test.YtcimoodjlopdaaaGreatDoorZ0
import Derived.Test.YtcimoodjlopdaaaGreatDoorZ6
import Derived.Test.YtcimoodjlopdaaaGreatDoorZ14
import Derived.Test.YtcimoodjlopdaaaGreatDoorZ19
import Derived.Test.YtcimoodjlopdaaaGreatDoorZ22
namespace Go.Proofs.YtcimoodjlopdaaaGreatDoor
set_option maxRecDepth 100000
set_option maxHeartbeats 8000000
set_option linter.all false
open Go.Proofs.Tryz
open _root_.Array renaming replicate_succ->eR,replicate_zero->eT
open Go renaming World->aE,Calls->aQ,Value->bB,bodyPost_ret->cD,Addr->dE,run_takeDeferred->gE,KeepsFrom->kC,wpAnyH_ready->xY,OwnFrom->Bd,results_none->Bh,Code->Cz,Act->EI,wpAnyH_done->MN,Operand->ut
open Go.Act renaming put->eC
open Go.AllReadyH renaming cons->mH,nil->nG
open Go.ByteArray renaming toList_eq->cI
open Go.Code renaming rangeFunc->BZ
open Go.Ending renaming returned->aO
open Go.Fence renaming wide->dW
open Go.IntKind renaming i64->aG
open Go.KeepsOthers renaming setCell->cE
open Go.Obj renaming cells->aL
open Go.Oper renaming semAt_some->mD
open Go.OwnFrom renaming and->tE
open Go.Proofs.Tryz renaming prog->aC
open Go.RowKit renaming Below->aJ,intOf->aK,Hid->aY
open Go.RowKit.Below renaming refl->aI
open Go.Value renaming string->aA,slice->aB,int->aF,bool->aM,tuple->bO,pointer->cB,agg->dM
open Go.World renaming size_alloc->aS,block_lt_of_cell?->bF,putObj_heap_other->cH,cell?_of_block->jW,putObj_heap_same->mA,alloc_heap_new->nL
open List renaming getD_eq_getElem?_getD->aN,setIfInBounds_toArray->aU,getElem_cons_zero->aZ,getElem_cons_succ->bA,getElem_toArray->bC,set_cons_succ->bG,set_cons_zero->bK,length_map->cG,length_cons->cO,length_append->cU,take_succ_eq_append_getElem->dQ,length_nil->eW,append_toArray->fJ,mem_singleton->gF,cons_append->fX,size_toArray->gA,push_toArray->gC,nil_append->iC,mem_append_left->kM,mem_append->zJ,mem_append_right->UK
open Nat renaming le_refl->aD,zero_le->bR,le_trans->cC,lt_or_ge->fC,reduceAdd->jX,reduceSub->jY
open Option.some renaming injEq->uH,inj->vI
open Trans renaming trans->cL
section
open Go Go.RowKit Go.Shelf Go.Lib
section
attribute[local go_sem] mD
theorem od{f g:FQ}(hf:f.Good)(hg:g.Good):∀z∈jB f g,HQ 198 z:=by
 have Mx:HQ 11 (zO f g):=(hg.hco.sub hf.hco).mono (by decide);intro z hz;unfold jB at hz;simp only[zJ,List.mem_cons,List.not_mem_nil,or_false]at hz;rcases hz with(((rfl|rfl)|h)|h)|h
 ·exact hf.t.mono (by decide)
 ·exact hg.t.mono (by decide)
 ·by_cases c:f.vel≠0
  ·rw[ip c,gF]at h;subst h;exact(hf.t.add (Mx.div hf.hvel c)).mono (by decide)
  ·rw[iN c]at h;cases h
 ·by_cases c:g.vel≠0
  ·rw[ip c,gF]at h;subst h;exact(hg.t.sub (Mx.div hg.hvel c)).mono (by decide)
  ·rw[iN c]at h;cases h
 ·by_cases c:f.vel≠g.vel
  ·rw[ip c,gF]at h;subst h;exact((Mx.add ((hf.hvel.mul hf.t).sub (hg.hvel.mul hg.t))).div (hf.hvel.sub hg.hvel) (by grind)).mono (by decide)
  ·rw[iN c]at h;cases h
theorem Ov(f g:FQ):(jB f g).length≤5:=by
 unfold jB;by_cases a:f.vel≠0<;>by_cases b:g.vel≠0<;>by_cases c:f.vel≠g.vel<;>simp[a,b,c]
def wJ(f g:FQ)(k:Nat)(L:List Rat):Prop:=L.length≤k∧∀z,z∈L↔z∈(jB f g).take k∧eU f g z
theorem wJ.no{f g:FQ}{k:Nat}{L:List Rat}(h:wJ f g k L)(hk:k<(jB f g).length)(hn:¬eU f g ((jB f g).getD k 0)):wJ f g (k+1) L:=by
 refine⟨by have:=h.1;omega,fun z=>?_⟩;rw[h.2,dQ hk,zJ,gF];rw[show(jB f g).getD k 0=(jB f g)[k] by simp[aN,hk]]at hn;constructor
 ·rintro⟨a,b⟩;exact⟨.inl a,b⟩
 ·rintro⟨a|rfl,b⟩
  ·exact⟨a,b⟩
  ·exact absurd b hn
theorem wJ.yes{f g:FQ}{k:Nat}{L:List Rat}(h:wJ f g k L)(hk:k<(jB f g).length)(hn:eU f g ((jB f g).getD k 0)):wJ f g (k+1) (L++[(jB f g).getD k 0]):=by
 refine⟨by rw[cU];have:=h.1;simp;omega,fun z=>?_⟩;rw[dQ hk,zJ,zJ,gF,gF,h.2];rw[show(jB f g).getD k 0=(jB f g)[k] by simp[aN,hk]]at hn⊢;constructor
 ·rintro(⟨a,b⟩|rfl)
  ·exact⟨.inl a,b⟩
  ·exact⟨.inr rfl,hn⟩
 ·rintro⟨a|rfl,b⟩
  ·exact .inl ⟨a,b⟩
  ·exact .inr rfl
theorem wJ.all{f g:FQ}{L:List Rat}(h:wJ f g (jB f g).length L):∀z,z∈L↔eU f g z:=fun z=>by
 rw[h.2,List.take_length]
 exact⟨fun h=>h.2,fun h=>⟨Od h,h⟩⟩
theorem To(F G:Array bB)(a1 a2 a3 a4 a5 b1 b2 b3 b4 b5:bB)(hF:F= #[a1,a2,a3,a4,a5])(hG:G= #[b1,b2,b3,b4,b5])(w:aE):
 aQ aC 158 #[dM F,dM G] w fun e w'=>e=aO (.func (.func 217) #[] #[cB (some ⟨w.heap.size,0,none⟩),cB (some ⟨w.heap.size+1,0,none⟩)])∧w'=(w.alloc (aL F 44)).alloc (aL G 44):=by
 subst hF hG;go_enter func158,ntmps158;go_wp2;go_ret;exact⟨rfl,rfl⟩
theorem ZS{F:Fence}{m:Nat}{w:aE}{fA:Array Oper}{rest:List Oper}{o:Oper}{a:EI}{Q:Exit→EI→aE→Prop}(FD:o.guard=none)(s x:ut)
 (ho:o.op=.call {callee:=.builtin .append,args:= #[s,x],argTypes:= #[47,47]})(base:Nat)
 (v:bB)(n:Nat)(xs:List bB)(hs:a.eval s=v)(hown:w.ownsRow base 24 1 v n xs)
 (y:ByteArray)(hx:a.eval x=aB (some ⟨w.heap.size,0,none⟩) 1 1)
 (QI:n+1≤2147483648)(lK:base≤w.heap.size)
 (h:∀g cap w',w'.ownsRow base 24 1 (aB (some ⟨g,0,none⟩) (n+1) cap) (n+1) (xs++[aA y])→base≤g→w.grownBy w' v.ownBlock→
  wpListIn F m aC fA Q rest (a.put o.dst (aB (some ⟨g,0,none⟩) (n+1) cap)) w'):
 wpListIn F m aC fA Q (o::rest) a (w.alloc (aL #[aA y] 24)):=by
 obtain⟨i0,hi,D8,uY,hz2⟩:=info_parts GQ;refine wpListIn_append_own _ FD s x 47 ho base 24 i0 (aA ⟨#[]⟩) 1 16 underlying47 hi D8 uY hz2 rfl (by decide) v n xs hs (hown.alloc _) ⟨w.heap.size,0,none⟩ 1 1 [aA y] hx rfl (ND w [aA y] 24) (by simp[Value.oneCell'])
  (by simp only[maxLen];omega) (by omega) (by simp;omega) ?_
 intro v' w' vR hg KY;obtain⟨g',F3,rfl⟩:=Du vR;exact h g' F3 w' vR (dJ vR).1 (En (World.grownBy_alloc w _ none) hg)
theorem Af{fn:Func}{p q:Tmp}(h:fn.results= #[.tmp p,.tmp q])(tmps:Array bB)(w:aE):(results fn tmps).run aC w=.ok (bO #[tmps.getD p undef,tmps.getD q undef]) w:=by
 simp[results,h,go_sem]
theorem ZU{f g:FQ}{z:Rat}(h:eU f g z):z∈jB f g:=Od h
theorem VW{w:aE}{base e size n cap k:Nat}{a:Option dE}{xs:List bB}(h:w.ownsRow base e size (aB a n cap) k xs):(a=none∧n=0∧cap=0)∨∃g,a=some ⟨g,0,none⟩:=by
 rcases h.2 with⟨h1,_⟩|⟨g,c,D7,hv,_⟩
 ·cases h1;exact .inl ⟨rfl,rfl,rfl⟩
 ·cases hv;exact .inr ⟨g,rfl⟩
theorem Ow{w:aE}{base e size n:Nat}{v:bB}{xs:List bB}(h:w.ownsRow base e size v n xs){j:Nat}{o:Obj}(hj:v.ownBlock=some j)(ho:w.heap[j]? =some o):o.isCells=true:=by
 rcases h.2 with⟨h1,_⟩|⟨g,c,D7,hv,_,hg,_⟩
 ·rw[h1]at hj;cases hj
 ·rw[hv]at hj;simp only[Value.ownBlock,uH]at hj;subst hj;rw[hg]at ho;cases ho;rfl
theorem ins_nil(f:bB)(w:aE):aQ aC 220 #[aB none 0 0,aF aG 0,aF aG 0,f] w fun e w'=>(∃v,e=aO v)∧w=w':=by
 go_enter func220,ntmps220;go_wp2;go_loop [8] (fun i=>i=aF aG 1) (fun _=>0);case atStart=>rfl
 case round=>
  subst hrel;go_wp2;go_end0;exact⟨⟨_,rfl⟩,rfl⟩
theorem pdq_nil(c:Int)(f:bB)(w:aE):aQ aC 165 #[aB none 0 0,aF aG 0,aF aG 0,aF aG c,f] w fun e w'=>(∃v,e=aO v)∧w=w':=by
 have H:=zq (ins_nil f w);go_enter func165,ntmps165;go_wp2;go_loop [1,2] (fun a b=>a=aF aG 0∧b=aF aG 0) (fun _ _=>0);case atStart=>exact⟨rfl,rfl⟩
 case round=>
  obtain⟨rfl,rfl⟩:=hrel;go_wp2_with fail
  refine H.out.mono ?_;rintro e w'⟨⟨v,rfl⟩,rfl⟩;go_wp2;refine cD (Bh rfl _ _ _) rfl ?_;exact⟨⟨_,rfl⟩,rfl⟩
theorem oe(w:aE):aQ aC 105 #[aB none 0 0,.func (.func 114) #[] #[]] w fun e w'=>(∃v,e=aO v)∧w=w':=by
 have H:=zq (fun c=>pdq_nil c (.func (.func 114) #[] #[]) w);have HL:=zq (S7 0 (by decide) w);go_enter func105,ntmps105;go_wp2_with fail
 refine HL.out.mono ?_;rintro e w'⟨⟨c,rfl⟩,rfl⟩;go_wp2_with fail
 refine(H.out _).mono ?_;rintro e w'⟨⟨v,rfl⟩,rfl⟩;go_wp2;go_end0;exact⟨⟨_,rfl⟩,rfl⟩
theorem Tp(w:aE):aQ aC 106 #[aB none 0 0] w fun e w'=>e=aO (aB none 0 0)∧w=w':=by
 go_enter func106,ntmps106;go_wp2;go_ret;exact⟨rfl,rfl⟩
def XS(O base:Nat)(f g:FQ)(k:Nat)(W:aE):Prop:=
 base≤W.heap.size∧∃(a:Option dE)(n cap:Nat)(L:List Rat),bZ W O #[aB a n cap] 47∧W.ownsRow base 24 1 (aB a n cap) n (strs (L.map aV))∧L.length=n∧wJ f g k L
theorem XS.own{O base:Nat}{f g:FQ}{k:Nat}{A B:aE}{uJ:Option Nat}(h:XS O base f g k A)(hg:A.grownBy B uJ)(hr:∀r,uJ=some r→∃o:Obj,A.heap[r]? =some o∧o.isCells=false):XS O base f g k B:=by
 obtain⟨h0,a,n,cap,L,h1,h2,h3,h4⟩:=h;exact⟨cC h0 hg.size,a,n,cap,L,h1.own hg hr,tU h2 hg hr,h3,h4⟩
theorem Tq(f g:FQ)(hf:f.Good)(hg:g.Good)(hup:f.up=g.up)(w:aE)(hE:eZ w):
 aQ aC 96 #[f.fr.v,g.fr.v] w fun e w'=>(∃(a:Option dE)(n cap:Nat)(L:List Rat),e=aO (bO #[aB a n cap,aF aG 0])∧L.length=n∧n≤1000∧rW w' a (strs (L.map aV))∧(∀z,z∈L↔eU f g z)∧∀z∈L,HQ 198 z)∧aJ w.heap.size w w':=by
 have ug:=zq (fun(W:aE)(h:aJ w.heap.size w W)=>rM f hf W (hE.below h))
 have uh:=zq (fun(W:aE)(h:aJ w.heap.size w W)=>rM g hg W (hE.below h))
 have HPf:=zq (fun(z:Rat)(hz:HQ 198 z)(W:aE)(h:aJ w.heap.size w W)=>C9 f hf z 198 hz (by decide) W (hE.below h))
 have HPg:=zq (fun(z:Rat)(hz:HQ 198 z)(W:aE)(h:aJ w.heap.size w W)=>C9 g hg z 198 hz (by decide) W (hE.below h))
 have HVf:=zq (fun(z:Rat)(hz:HQ 198 z)(W:aE)(h:aJ w.heap.size w W)=>Ez f hf z 198 hz (by decide) W (hE.below h))
 have HVg:=zq (fun(z:Rat)(hz:HQ 198 z)(W:aE)(h:aJ w.heap.size w W)=>Ez g hg z 198 hz (by decide) W (hE.below h))
 have ZD:=zq (fun(W:aE)(h:aJ w.heap.size w W)=>hE.below h)
 have HHQ:=zq (od hf hg)
 have Hf:=zq hf
 have Hg:=zq hg
 have evf:f.fr.v=dM (AF f.up f.co f.dir (bs (aV f.v)) (bs (aV f.t))):=rfl
 have evg:g.fr.v=dM (AF g.up g.co g.dir (bs (aV g.v)) (bs (aV g.t))):=rfl
 rw[evf]at ug HPf HVf⊢
 rw[evg,←hup]at uh HPg HVg⊢
 have fP:aJ w.heap.size w ((w.alloc (aL (AF f.up f.co f.dir (bs (aV f.v)) (bs (aV f.t))) 44)).alloc (aL (AF f.up g.co g.dir (bs (aV g.v)) (bs (aV g.t))) 44)):=((aI _ w).alloc (aD _) _).alloc (by simp) _
 have q1:bZ ((w.alloc (aL (AF f.up f.co f.dir (bs (aV f.v)) (bs (aV f.t))) 44)).alloc (aL (AF f.up g.co g.dir (bs (aV g.v)) (bs (aV g.t))) 44)) w.heap.size (AF f.up f.co f.dir (bs (aV f.v)) (bs (aV f.t))) 44:=(bZ.new w _ _).alloc _
 have q2:bZ ((w.alloc (aL (AF f.up f.co f.dir (bs (aV f.v)) (bs (aV f.t))) 44)).alloc (aL (AF f.up g.co g.dir (bs (aV g.v)) (bs (aV g.t))) 44)) (w.heap.size+1) (AF f.up g.co g.dir (bs (aV g.v)) (bs (aV g.t))) 44:=by
  have:=bZ.new (w.alloc (aL (AF f.up f.co f.dir (bs (aV f.v)) (bs (aV f.t))) 44)) (AF f.up g.co g.dir (bs (aV g.v)) (bs (aV g.t))) 44
  rwa[aS]at this
 have ZP:aY (∀W,bZ W w.heap.size (AF f.up f.co f.dir (bs (aV f.v)) (bs (aV f.t))) 44→bZ W w.heap.size f.fr.cells 44):=fun W h=>h
 have hgup:g.up=f.up:=hup.symm
 have HMS:aY (∀B1 B2 W,aJ w.heap.size w W→B1<W.heap.size→B2<W.heap.size→bZ W B1 (AF f.up f.co f.dir (bs (aV f.v)) (bs (aV f.t))) 44→bZ W B2 (AF f.up g.co g.dir (bs (aV g.v)) (bs (aV g.t))) 44→
  jr dW 8 aC 217 #[cB (some ⟨B1,0,none⟩),cB (some ⟨B2,0,none⟩)] (fun k=> #[aA (bs (aV (Mw f g k)))]) (mF w.heap.size B1 B2) (jB f g).length W):=fun B1 B2 W h h1 h2 k1 k2=>
  oa B1 B2 w.heap.size f g hf hg W h.size h1 h2 (fun V hV=>hE.below (h.trans hV)) k1 (by rw[hup]at k2;exact k2)
 clear evf evg hf hg hE hup hgup ZP
 unfold AF at *
 generalize f.up=up at *
 generalize bs (aV f.v)=S1 at *
 generalize bs (aV f.t)=T1 at *
 generalize bs (aV g.v)=S2 at *
 generalize bs (aV g.t)=T2 at *
 refine jT func96 rfl ?_
 simp only[ntmps96,gA,cO,eW,jX,jY,eR,eT,gC,fJ,iC,fX]
 go_wp2_with fail
 refine(ug.out _ fP).mono ?_
 rintro e W1⟨rfl,hb1⟩
 have gG:=aH fP hb1 fP.size
 have q1:=q1.below hb1 q1.lt
 have q2:=q2.below hb1 q2.lt
 clear hb1 fP
 obtain⟨d0,d1,d2,d3,d4⟩:=q2.front
 have l2:=q2.lt
 go_wp2_with fail
 refine(uh.out _ gG).mono ?_
 rintro e W2⟨rfl,hb2⟩
 have eQ:=aH gG hb2 gG.size
 have q1:=q1.below hb2 q1.lt
 have q2:=q2.below hb2 q2.lt
 clear hb2 gG d0 d1 d2 d3 d4 l2
 obtain⟨c0,c1,c2,c3,c4⟩:=q1.front
 obtain⟨d0,d1,d2,d3,d4⟩:=q2.front
 have l1:=q1.lt
 have l2:=q2.lt
 have Q1:=zq q1
 have Q2:=zq q2
 have gD:=zq eQ
 clear q1 q2 eQ
 go_wp2_with fail
 refine(To _ _ _ _ _ _ _ _ _ _ _ _ rfl rfl _).mono ?_
 rintro e w'⟨rfl,rfl⟩
 go_wp2_with fail
 obtain⟨W0,iU⟩:∃W0,((W2.alloc (aL #[aB none 0 0] 47)).alloc (aL #[aM up,aF aG f.co,aF aG f.dir,aA S1,aA T1] 44)).alloc (aL #[aM up,aF aG g.co,aF aG g.dir,aA S2,aA T2] 44)=W0:=⟨_,rfl⟩
 have F0:bZ W0 w.heap.size #[aM up,aF aG f.co,aF aG f.dir,aA S1,aA T1] 44:=by rw[←iU];exact((Q1.out.alloc _).alloc _).alloc _
 have G0:bZ W0 (w.heap.size+1) #[aM up,aF aG g.co,aF aG g.dir,aA S2,aA T2] 44:=by rw[←iU];exact((Q2.out.alloc _).alloc _).alloc _
 have O0:bZ W0 W2.heap.size #[aB none 0 0] 47:=by rw[←iU];exact((bZ.new W2 _ _).alloc _).alloc _
 have M1:bZ W0 (W2.heap.size+1) #[aM up,aF aG f.co,aF aG f.dir,aA S1,aA T1] 44:=by
  rw[←iU]
  have:=(bZ.new (W2.alloc (aL #[aB none 0 0] 47)) #[aM up,aF aG f.co,aF aG f.dir,aA S1,aA T1] 44).alloc (aL #[aM up,aF aG g.co,aF aG g.dir,aA S2,aA T2] 44)
  rwa[aS]at this
 have M2:bZ W0 (W2.heap.size+1+1) #[aM up,aF aG g.co,aF aG g.dir,aA S2,aA T2] 44:=by
  rw[←iU]
  have:=bZ.new ((W2.alloc (aL #[aB none 0 0] 47)).alloc (aL #[aM up,aF aG f.co,aF aG f.dir,aA S1,aA T1] 44)) #[aM up,aF aG g.co,aF aG g.dir,aA S2,aA T2] 44
  rwa[aS,aS]at this
 have Yt:W0.heap.size=W2.heap.size+3:=by rw[←iU];simp
 have fP:aJ w.heap.size w W0:=by rw[←iU];exact((gD.out.alloc gD.out.size _).alloc (by simp;omega) _).alloc (by simp;omega) _
 rw[iU]
 clear iU Q1 Q2 gD c0 c1 c2 c3 c4 d0 d1 d2 d3 d4 l1
 have hx2:w.heap.size+1<W2.heap.size:=l2
 clear l2
 generalize W2.heap.size=O at *
 have hs0':O+3≤W0.heap.size:=by omega
 clear Yt
 refine L7 (gf:=217) (lb:= #[cB (some ⟨O+1,0,none⟩),cB (some ⟨O+1+1,0,none⟩)]) rfl (enters_of func217 (by kernel_rfl) rfl)
  (HMS.out (O+1) (O+1+1) W0 fP (by omega) (by omega) M1 M2)
  mF.trans (fun W l o o' hl h ho _=>⟨iG (by omega) h,fun k hk=>cH (by rcases hk with rfl|rfl<;>omega)⟩) (fun _=>rfl)
  (fun k W=>(XS O W0.heap.size f g k W∧bZ W w.heap.size #[aM up,aF aG f.co,aF aG f.dir,aA S1,aA T1] 44∧bZ W (w.heap.size+1) #[aM up,aF aG g.co,aF aG g.dir,aA S2,aA T2] 44)∧aJ w.heap.size w W)
  (fun _ _ _=>False)
  (tE (Own.from (fun s A B uJ hs hg hr=>⟨hs.1.own hg hr,hs.2.1.own hg hr,hs.2.2.own hg hr⟩) _) (ownFrom_below (aD _) (by omega)))
  (fun c s A B uJ hs _ _=>hs)
  ⟨⟨⟨aD _,none,0,0,[],O0,⟨rfl,.inl ⟨rfl,rfl⟩⟩,rfl,aD _,fun z=>by simp⟩,F0,G0⟩,fP⟩
  ?rF ?assign ?body ?done ?stop
 case assign=>
  intro l k W K hK
  gi_wp2
  exact hK
 case body=>
  rintro l k W hk⟨⟨hI,b1,b2⟩,hB⟩
  have hz:=HHQ.out _ (cP hk 0)
  have HNo:aY (∀L,wJ f g k L→¬eU f g ((jB f g).getD k 0)→wJ f g (k+1) L):=fun L h hn=>h.no hk hn
  have HYes:aY (∀L,wJ f g k L→eU f g ((jB f g).getD k 0)→wJ f g (k+1) (L++[(jB f g).getD k 0])):=fun L h hn=>h.yes hk hn
  have hk5:k<5:=Nat.lt_of_lt_of_le hk (Ov f g)
  have HNo:aY (∀L,wJ f g k L→¬eU f g (Mw f g k)→wJ f g (k+1) L):=HNo
  have HYes:aY (∀L,wJ f g k L→eU f g (Mw f g k)→wJ f g (k+1) (L++[Mw f g k])):=HYes
  have hz:HQ 198 (Mw f g k):=hz
  generalize Mw f g k=z at *
  have YO:=zq (HPf.out z hz)
  have Xb:=zq (HPg.out z hz)
  have My:=zq (HVf.out z hz)
  have XR:=zq (HVg.out z hz)
  have HMt:aY (eU f g z↔f.pos z=g.pos z∧(f.low z≠g.low z∨f.high z≠g.high z)):=Iff.rfl
  have e1:=zq (JP (f.pos z) (g.pos z))
  have e2:=zq (JP (f.low z) (g.low z))
  have e3:=zq (JP (f.high z) (g.high z))
  obtain⟨ZT,ct⟩:∃ZT,bs (aV z)=ZT:=⟨_,rfl⟩
  rw[ct]at YO Xb My XR
  rw[ct]
  have HZT:=zq ct
  clear ct HPf HPg HVf HVg hz HHQ hk
  generalize bs (aV (f.pos z))=PF at *
  generalize bs (aV (g.pos z))=PG at *
  generalize bs (aV (f.low z))=LF at *
  generalize bs (aV (g.low z))=LG at *
  generalize bs (aV (f.high z))=UF at *
  generalize bs (aV (g.high z))=UG at *
  have B1:=zq b1
  have B2:=zq b2
  have HB:=zq hB
  have HI:=zq hI
  clear b1 b2 hB hI F0 G0 O0 M1 M2
  obtain⟨c0,c1,c2,c3,c4⟩:=B1.out.front
  have l1:=B1.out.lt
  gi_wp2_with fail
  refine⟨trivial,(Calls.round (My.out _ HB.out) _ _).mono ?_⟩
  rintro e W1⟨rfl,hb1⟩
  have fK:=zq (aT HB.out hb1)
  have ZO:=zq hb1
  have B1a:=zq (B1.out.below hb1 B1.out.lt)
  have B2a:=zq (B2.out.below hb1 B2.out.lt)
  clear c0 c1 c2 c3 c4 l1 hb1 My
  obtain⟨c0,c1,c2,c3,c4⟩:=B2a.out.front
  have l1:=B2a.out.lt
  gi_wp2_with fail
  refine⟨trivial,(Calls.round (XR.out _ fK.out) _ _).mono ?_⟩
  rintro e W2⟨rfl,hb2⟩
  have gD:=zq (aT fK.out hb2)
  have HA2:=zq (aT ZO.out hb2)
  have B1b:=zq (B1a.out.below hb2 B1a.out.lt)
  have B2b:=zq (B2a.out.below hb2 B2a.out.lt)
  clear c0 c1 c2 c3 c4 l1 hb2 XR fK ZO B1a B2a
  obtain⟨c0,c1,c2,c3,c4⟩:=B1b.out.front
  obtain⟨d0,d1,d2,d3,d4⟩:=B2b.out.front
  have l1:=B1b.out.lt
  have l2:=B2b.out.lt
  gi_wp2
  gi_cut [57]from 29 (fun v V=>(∃r:Bool,v=aM r∧aY (r=true↔eU f g z))∧aY (aJ W2.heap.size W2 V))
  case first =>
   by_cases g1:f.pos z=g.pos z
   case neg=>
    have ti:(PF.toList==PG.toList)=false:=by rw[e1.out];exact decide_eq_false g1
    have R:aY (¬eU f g z):=fun h=>g1 (HMt.out.1 h).1
    clear g1
    refine zE (S:=(fun w'=>(w'.cell? ⟨w.heap.size,0,none⟩=some (aM up)∧w'.cell? ⟨w.heap.size,1,none⟩=some (aF aG f.co)∧w'.cell? ⟨w.heap.size,2,none⟩=some (aF aG f.dir)∧w'.cell? ⟨w.heap.size,3,none⟩=some (aA S1)∧w'.cell? ⟨w.heap.size,4,none⟩=some (aA T1))∧(w'.cell? ⟨w.heap.size+1,0,none⟩=some (aM up)∧w'.cell? ⟨w.heap.size+1,1,none⟩=some (aF aG g.co)∧w'.cell? ⟨w.heap.size+1,2,none⟩=some (aF aG g.dir)∧w'.cell? ⟨w.heap.size+1,3,none⟩=some (aA S2)∧w'.cell? ⟨w.heap.size+1,4,none⟩=some (aA T2)))) (by kernel_rfl) (by kernel_rfl) ?_ (fun wF=>?_)
    ·(try dsimp only);go_keep
    refine tH 0 rfl ?_
    refine tH 1 rfl ?_
    refine tH 3 rfl ?_
    refine tH 4 rfl ?_
    try simp only[eC,bC,bA,aZ,aU,bK,bG]
    refine xY (rs:=[2]) (by kernel_rfl) (by simp) ?_
    refine mH rfl (fun K hK=>?_) nG
    go_simp
    (with_reducible refine(YO.out _ gD.out.drew).mono ?_)
    rintro e v1⟨rfl,vU⟩
    have My:=zq (aT (aI _ W2).drew vU)
    have:=ck vU w.heap.size 0 (aM up);have:=ck vU w.heap.size 1 (aF aG f.co);have:=ck vU w.heap.size 2 (aF aG f.dir);have:=ck vU w.heap.size 3 (aA S1);have:=ck vU w.heap.size 4 (aA T1);have:=ck vU (w.heap.size+1) 0 (aM up);have:=ck vU (w.heap.size+1) 1 (aF aG g.co);have:=ck vU (w.heap.size+1) 2 (aF aG g.dir);have:=ck vU (w.heap.size+1) 3 (aA S2);have:=ck vU (w.heap.size+1) 4 (aA T2)
    show K _ _
    refine hK.out _ _ ?_ (fun wF=>?_)
    ·(try dsimp only);go_keep
    clear hK K
    try simp only[eC,bC,bA,aZ,aU,bK,bG]
    refine xY (rs:=[5]) (by kernel_rfl) (by simp) ?_
    refine mH rfl (fun K hK=>?_) nG
    go_simp
    (with_reducible refine(Xb.out _ (aT gD.out My.out)).mono ?_)
    rintro e v2⟨rfl,AA⟩
    have XR:=zq (aT My.out AA)
    have:=ck AA w.heap.size 0 (aM up);have:=ck AA w.heap.size 1 (aF aG f.co);have:=ck AA w.heap.size 2 (aF aG f.dir);have:=ck AA w.heap.size 3 (aA S1);have:=ck AA w.heap.size 4 (aA T1);have:=ck AA (w.heap.size+1) 0 (aM up);have:=ck AA (w.heap.size+1) 1 (aF aG g.co);have:=ck AA (w.heap.size+1) 2 (aF aG g.dir);have:=ck AA (w.heap.size+1) 3 (aA S2);have:=ck AA (w.heap.size+1) 4 (aA T2)
    show K _ _
    refine hK.out _ _ ?_ (fun wF=>?_)
    ·(try dsimp only);go_keep
    clear hK K
    refine tH 6 rfl ?_
    refine tH 7 rfl ?_
    refine sH 8 rfl ?_
    refine sH 9 rfl ?_
    refine sH 10 rfl ?_
    refine sH 11 rfl ?_
    refine sH 12 rfl ?_
    refine sH 13 rfl ?_
    refine sH 14 rfl ?_
    refine sH 15 rfl ?_
    refine tH 16 rfl ?_
    try simp only[eC,bC,bA,aZ,aU,bK,bG]
    refine MN (by kernel_rfl) ?_ _
    refine Cf.normal ?_
    gi_wp2
    gi_meet
    case rel=>exact⟨⟨false,rfl,⟨fun h=>(by cases h),fun h=>absurd h R.out⟩⟩,XR.out⟩
   have ti:(PF.toList==PG.toList)=true:=by rw[e1.out];exact decide_eq_true g1
   by_cases g2:f.low z=g.low z
   case neg=>
    have hvb2:(LF.toList==LG.toList)=false:=by rw[e2.out];exact decide_eq_false g2
    have R:aY (eU f g z):=HMt.out.2 ⟨g1,.inl g2⟩
    clear g1 g2
    refine zE (S:=(fun w'=>(w'.cell? ⟨w.heap.size,0,none⟩=some (aM up)∧w'.cell? ⟨w.heap.size,1,none⟩=some (aF aG f.co)∧w'.cell? ⟨w.heap.size,2,none⟩=some (aF aG f.dir)∧w'.cell? ⟨w.heap.size,3,none⟩=some (aA S1)∧w'.cell? ⟨w.heap.size,4,none⟩=some (aA T1))∧(w'.cell? ⟨w.heap.size+1,0,none⟩=some (aM up)∧w'.cell? ⟨w.heap.size+1,1,none⟩=some (aF aG g.co)∧w'.cell? ⟨w.heap.size+1,2,none⟩=some (aF aG g.dir)∧w'.cell? ⟨w.heap.size+1,3,none⟩=some (aA S2)∧w'.cell? ⟨w.heap.size+1,4,none⟩=some (aA T2)))) (by kernel_rfl) (by kernel_rfl) ?_ (fun wF=>?_)
    ·(try dsimp only);go_keep
    refine tH 0 rfl ?_
    refine tH 1 rfl ?_
    refine tH 3 rfl ?_
    refine tH 4 rfl ?_
    try simp only[eC,bC,bA,aZ,aU,bK,bG]
    refine xY (rs:=[2]) (by kernel_rfl) (by simp) ?_
    refine mH rfl (fun K hK=>?_) nG
    go_simp
    (with_reducible refine(YO.out _ gD.out.drew).mono ?_)
    rintro e v1⟨rfl,vU⟩
    have My:=zq (aT (aI _ W2).drew vU)
    have:=ck vU w.heap.size 0 (aM up);have:=ck vU w.heap.size 1 (aF aG f.co);have:=ck vU w.heap.size 2 (aF aG f.dir);have:=ck vU w.heap.size 3 (aA S1);have:=ck vU w.heap.size 4 (aA T1);have:=ck vU (w.heap.size+1) 0 (aM up);have:=ck vU (w.heap.size+1) 1 (aF aG g.co);have:=ck vU (w.heap.size+1) 2 (aF aG g.dir);have:=ck vU (w.heap.size+1) 3 (aA S2);have:=ck vU (w.heap.size+1) 4 (aA T2)
    show K _ _
    refine hK.out _ _ ?_ (fun wF=>?_)
    ·(try dsimp only);go_keep
    clear hK K
    try simp only[eC,bC,bA,aZ,aU,bK,bG]
    refine xY (rs:=[5]) (by kernel_rfl) (by simp) ?_
    refine mH rfl (fun K hK=>?_) nG
    go_simp
    (with_reducible refine(Xb.out _ (aT gD.out My.out)).mono ?_)
    rintro e v2⟨rfl,AA⟩
    have XR:=zq (aT My.out AA)
    have:=ck AA w.heap.size 0 (aM up);have:=ck AA w.heap.size 1 (aF aG f.co);have:=ck AA w.heap.size 2 (aF aG f.dir);have:=ck AA w.heap.size 3 (aA S1);have:=ck AA w.heap.size 4 (aA T1);have:=ck AA (w.heap.size+1) 0 (aM up);have:=ck AA (w.heap.size+1) 1 (aF aG g.co);have:=ck AA (w.heap.size+1) 2 (aF aG g.dir);have:=ck AA (w.heap.size+1) 3 (aA S2);have:=ck AA (w.heap.size+1) 4 (aA T2)
    show K _ _
    refine hK.out _ _ ?_ (fun wF=>?_)
    ·(try dsimp only);go_keep
    clear hK K
    refine tH 6 rfl ?_
    refine tH 7 rfl ?_
    refine tH 8 rfl ?_
    refine tH 9 rfl ?_
    refine tH 10 rfl ?_
    refine tH 11 rfl ?_
    refine sH 12 rfl ?_
    refine sH 13 rfl ?_
    refine sH 14 rfl ?_
    refine tH 15 rfl ?_
    refine tH 16 rfl ?_
    try simp only[eC,bC,bA,aZ,aU,bK,bG]
    refine MN (by kernel_rfl) ?_ _
    refine Cf.normal ?_
    gi_wp2
    gi_meet
    case rel=>exact⟨⟨true,rfl,⟨fun _=>R.out,fun _=>rfl⟩⟩,XR.out⟩
   have hvb2:(LF.toList==LG.toList)=true:=by rw[e2.out];exact decide_eq_true g2
   have R:aY ((!decide (f.high z=g.high z))=true↔eU f g z):=by
    show _↔_
    rw[HMt.out,Bool.not_eq_true',decide_eq_false_iff_not]
    exact⟨fun h=>⟨g1,.inr h⟩,fun h=>h.2.resolve_left (fun k=>k g2)⟩
   have hvb3:=e3.out
   obtain⟨r3,hr3⟩:∃r,decide (f.high z=g.high z)=r:=⟨_,rfl⟩
   rw[hr3]at R hvb3
   clear g1 g2 hr3
   refine zE (S:=(fun w'=>(w'.cell? ⟨w.heap.size,0,none⟩=some (aM up)∧w'.cell? ⟨w.heap.size,1,none⟩=some (aF aG f.co)∧w'.cell? ⟨w.heap.size,2,none⟩=some (aF aG f.dir)∧w'.cell? ⟨w.heap.size,3,none⟩=some (aA S1)∧w'.cell? ⟨w.heap.size,4,none⟩=some (aA T1))∧(w'.cell? ⟨w.heap.size+1,0,none⟩=some (aM up)∧w'.cell? ⟨w.heap.size+1,1,none⟩=some (aF aG g.co)∧w'.cell? ⟨w.heap.size+1,2,none⟩=some (aF aG g.dir)∧w'.cell? ⟨w.heap.size+1,3,none⟩=some (aA S2)∧w'.cell? ⟨w.heap.size+1,4,none⟩=some (aA T2)))) (by kernel_rfl) (by kernel_rfl) ?_ (fun wF=>?_)
   ·(try dsimp only);go_keep
   refine tH 0 rfl ?_
   refine tH 1 rfl ?_
   refine tH 3 rfl ?_
   refine tH 4 rfl ?_
   try simp only[eC,bC,bA,aZ,aU,bK,bG]
   refine xY (rs:=[2]) (by kernel_rfl) (by simp) ?_
   refine mH rfl (fun K hK=>?_) nG
   go_simp
   (with_reducible refine(YO.out _ gD.out.drew).mono ?_)
   rintro e v1⟨rfl,vU⟩
   have My:=zq (aT (aI _ W2).drew vU)
   have:=ck vU w.heap.size 0 (aM up);have:=ck vU w.heap.size 1 (aF aG f.co);have:=ck vU w.heap.size 2 (aF aG f.dir);have:=ck vU w.heap.size 3 (aA S1);have:=ck vU w.heap.size 4 (aA T1);have:=ck vU (w.heap.size+1) 0 (aM up);have:=ck vU (w.heap.size+1) 1 (aF aG g.co);have:=ck vU (w.heap.size+1) 2 (aF aG g.dir);have:=ck vU (w.heap.size+1) 3 (aA S2);have:=ck vU (w.heap.size+1) 4 (aA T2)
   show K _ _
   refine hK.out _ _ ?_ (fun wF=>?_)
   ·(try dsimp only);go_keep
   clear hK K
   try simp only[eC,bC,bA,aZ,aU,bK,bG]
   refine xY (rs:=[5]) (by kernel_rfl) (by simp) ?_
   refine mH rfl (fun K hK=>?_) nG
   go_simp
   (with_reducible refine(Xb.out _ (aT gD.out My.out)).mono ?_)
   rintro e v2⟨rfl,AA⟩
   have XR:=zq (aT My.out AA)
   have:=ck AA w.heap.size 0 (aM up);have:=ck AA w.heap.size 1 (aF aG f.co);have:=ck AA w.heap.size 2 (aF aG f.dir);have:=ck AA w.heap.size 3 (aA S1);have:=ck AA w.heap.size 4 (aA T1);have:=ck AA (w.heap.size+1) 0 (aM up);have:=ck AA (w.heap.size+1) 1 (aF aG g.co);have:=ck AA (w.heap.size+1) 2 (aF aG g.dir);have:=ck AA (w.heap.size+1) 3 (aA S2);have:=ck AA (w.heap.size+1) 4 (aA T2)
   show K _ _
   refine hK.out _ _ ?_ (fun wF=>?_)
   ·(try dsimp only);go_keep
   clear hK K
   refine tH 6 rfl ?_
   refine tH 7 rfl ?_
   refine tH 8 rfl ?_
   refine tH 9 rfl ?_
   refine tH 10 rfl ?_
   refine tH 11 rfl ?_
   refine tH 12 rfl ?_
   refine tH 13 rfl ?_
   refine tH 14 rfl ?_
   refine tH 15 rfl ?_
   refine tH 16 rfl ?_
   try simp only[eC,bC,bA,aZ,aU,bK,bG]
   refine MN (by kernel_rfl) ?_ _
   refine Cf.normal ?_
   gi_wp2
   gi_meet
   case rel=>exact⟨⟨_,by rfl,R.out⟩,XR.out⟩
  case rest=>
  obtain⟨⟨r,rfl,HR⟩,HB3⟩:=hcut
  rename aE=>W3
  have Ad:=zq (aT gD.out HB3.out)
  have HAx:=zq (aT HA2.out HB3.out)
  have B1c:=zq (B1b.out.below HB3.out B1b.out.lt)
  have B2c:=zq (B2b.out.below HB3.out B2b.out.lt)
  clear c0 c1 c2 c3 c4 d0 d1 d2 d3 d4 l1 l2 e1 e2 e3 HMt YO Xb gD HA2 HB3 B1b B2b
  obtain⟨oB,a,n,cap,L,i1,i2,i3,i4⟩:=HI.out
  have hszW:O+3≤W.heap.size:=by omega
  have hszX:W0.heap.size≤W3.heap.size:=cC oB HAx.out.size
  have O3:=zq (i1.below HAx.out i1.lt)
  have R3:=zq (cT i2 HAx.out)
  have hn5:n≤5:=by rw[←i3];exact cC i4.1 (by omega)
  have HL:=zq i3
  cases r with
  |false=>
   have hF:=zq (HNo.out L i4 (fun h=>(by have:=HR.out.2 h;cases this)))
   clear i1 i2 i3 i4
   gi_wp2
   exact⟨(qB HAx.out).from _,mF.call HAx.out HB.out.size (by omega) (by omega),⟨⟨hszX,a,n,cap,L,O3.out,R3.out,HL.out,hF.out⟩,B1c.out,B2c.out⟩,Ad.out⟩
  |true=>
   have hF:=zq (HYes.out L i4 (HR.out.1 rfl))
   have hown:=i2
   clear i1 i2 i3 i4
   have hown:=R3.out
   have k0:W3.cell? ⟨O,0,none⟩=some (aB a n cap):=O3.out.cell 0
   have f0:=O3.out.fz 0
   have lO:=O3.out.lt
   have hb0:w.heap.size+1<W0.heap.size:=by omega
   have hbO:O+1+1<W0.heap.size:=by omega
   have Ke:∀j,j<W0.heap.size→(aB a n cap).ownBlock≠some j:=fun j hj e=>by have:=(hown.lt j e).1;omega
   have hrowO:=zq (Ke O (by omega))
   gi_wp2_with (gi_at_builtin;refine ZS rfl _ _ rfl W0.heap.size (aB a n cap) n _ rfl hown ZT rfl (by omega) hszX ?_;intro g5 Tr w5 qT hg5 Dk;have O5:=zq (show bZ w5 O #[aB a n cap] 47 from(Dk.block O lO (fun e=>hrowO.out e.symm)).trans O3.out);have k5:w5.cell? ⟨O,0,none⟩=some (aB a n cap):=O5.out.cell 0;have f5:=O5.out.fz 0)
   have F5:=zq (show bZ w5 w.heap.size #[aM up,aF aG f.co,aF aG f.dir,aA S1,aA T1] 44 from(Dk.block _ B1c.out.lt (fun e=>Ke _ (by omega) e.symm)).trans B1c.out)
   have G5:=zq (show bZ w5 (w.heap.size+1) #[aM up,aF aG g.co,aF aG g.dir,aA S2,aA T2] 44 from(Dk.block _ B2c.out.lt (fun e=>Ke _ (by omega) e.symm)).trans B2c.out)
   have BW5:=zq (dB Ad.out Dk hown (by omega) Ad.out.size)
   have BA5:=zq (dB (HAx.out.mono HB.out.size) Dk hown (by omega) Ad.out.size)
   have KO5:=zq ((qB HAx.out).trans (KeepsOthers.of_grownBy Dk (fun j o hj ho=>Ow hown hj ho)))
   have SA5:=zq (show dA (fun k=>k=O+1∨k=O+1+1) W w5 from dA.trans (dA.below HAx.out (by rintro k (rfl|rfl)<;>omega)) (fun k hk=>Dk.block k (by rcases hk with rfl|rfl<;>omega) (fun e=>Ke k (by rcases hk with rfl|rfl<;>omega) e.symm)))
   have S5:=zq Dk.size
   have hg5':O≠g5:=by omega
   have e5:strs (L.map aV)++[aA ZT]=strs ((L++[z]).map aV):=by rw[←HZT.out];simp[strs]
   rw[e5]at qT
   have Hown5:=zq qT
   exact⟨(KO5.out.trans (cE _ _ _)).from _,⟨BA5.out.setCell (by show w.heap.size≤O;omega) _,SA5.out.trans (dA.setCell (by rintro k (rfl|rfl)<;>(show _≠O;omega)) _)⟩,
    ⟨⟨cC hszX (cC S5.out (by simp)),_,n+1,Tr,L++[z],O5.out.set 0 _,Hown5.out.kept (grownBy_setCell' _ _ _) (.inr (show some g5≠some O from fun e=>hg5' (vI e).symm)),by rw[cU,HL.out];rfl,hF.out⟩,
     F5.out.other _ (by show w.heap.size≠O;omega),G5.out.other _ (by show w.heap.size+1≠O;omega)⟩,BW5.out.setCell (by show w.heap.size≤O;omega) _⟩
 case done=>
  rintro D W hD⟨⟨hI,b1,b2⟩,hB⟩hK
  obtain⟨oB,a,n,cap,L,i1,i2,i3,i4⟩:=hI
  have hn5:n≤5:=by rw[←i3];exact cC i4.1 (Ov f g)
  have P7:=zq i4.all
  have HHq:=zq (fun z(h:z∈L)=>HHQ.out z (ZU (P7.out z|>.1 h)))
  have O1:=zq i1
  have R1:=zq i2
  have HL:=zq i3
  have HB:=zq hB
  have HK:=zq hK
  have k0:W.cell? ⟨O,0,none⟩=some (aB a n cap):=O1.out.cell 0
  have hO:=O1.out.lt
  have lK:w.heap.size≤W0.heap.size:=fP.size
  have Ke:∀j,j<W0.heap.size→(aB a n cap).ownBlock≠some j:=fun j hj e=>by have:=(i2.lt j e).1;omega
  clear i1 i2 i3 i4 hB hK b1 b2 F0 G0 O0 M1 M2 HPf HPg HVf HVg
  rcases VW R1.out with⟨rfl,rfl,rfl⟩|⟨gq,rfl⟩
  ·have HS:=zq (oe W)
   have HC:=zq (Tp W)
   go_wp2_with fail
   refine HS.out.mono ?_
   rintro e w'⟨⟨v,rfl⟩,rfl⟩
   go_wp2_with fail
   refine HC.out.mono ?_
   rintro e w'⟨rfl,rfl⟩
   go_wp2
   have hL0:L=[]:=List.length_eq_zero_iff.1 HL.out
   refine⟨by simp,.inl ⟨_,_,rfl,gE HK.out,?_⟩⟩
   refine⟨_,Af Tryz.results96 _ _,?_⟩
   exact⟨⟨none,0,0,[],rfl,rfl,by decide,fun i hi=>absurd hi (by simp[strs]),fun z=>by rw[←P7.out z,hL0],fun z h=>absurd h (by simp)⟩,HB.out.trans (iG (cC lK hD) HK.out)⟩
  ·have hgq:W0.heap.size≤gq:=by
    rcases fC gq W0.heap.size with h|h
    ·exact absurd rfl (Ke gq h)
    ·exact h
   have hDg:D≠gq:=fun e=>by
    have:=Ow R1.out (j:=gq) rfl (by rw[←e];exact HK.out)
    cases this
   have HS:=zq (Zw W0.heap.size gq n cap (L.map aV) w W (ZD.out w (aI _ _)) HB.out lK hn5 (by rw[cG];exact HL.out) (fun t ht=>by
    obtain⟨z,hz,rfl⟩:=List.mem_map.1 ht
    have:=mS (HHq.out z hz) (by decide)
    rwa[bU]at this) R1.out)
   have hOg:O≠gq:=by omega
   clear Ke R1
   go_wp2_with fail
   refine HS.out.mono ?_
   rintro e W1⟨⟨v,rfl⟩,ds',k1,k2,k3,k4⟩
   have fK:=zq (HB.out.grown k4 HB.out.size (fun k e=>by cases e;exact cC lK hgq))
   have HK1:=zq ((k4.block D (Array.getElem?_eq_some_iff.1 HK.out).1 (fun e=>hDg (by cases e;rfl))).trans HK.out)
   have O2:bZ W1 O #[aB (some ⟨gq,0,none⟩) n cap] 47:=(k4.block O hO (fun e=>hOg (by cases e;rfl))).trans O1.out
   have k0:W1.cell? ⟨O,0,none⟩=some (aB (some ⟨gq,0,none⟩) n cap):=O2.cell 0
   have HC:=zq (PP W0.heap.size gq n cap ds' W1 (by omega) k1 k3)
   have K2:=zq k2
   clear k1 k2 k3 k4 O1 O2 hO HS HK HB
   go_wp2_with fail
   refine HC.out.mono ?_
   rintro e W2⟨m,L2,rfl,j1,j2,j3,j4,j5⟩
   have gD:=zq (fK.out.grown j5 fK.out.size (fun k e=>by cases e;exact cC lK hgq))
   have Zz:=zq ((j5.block D (Array.getElem?_eq_some_iff.1 HK1.out).1 (fun e=>hDg (by cases e;rfl))).trans HK1.out)
   have J1:=zq j1
   have J3:=zq j3
   have J4:=zq j4
   clear j1 j3 j4 j5 HC HK1 fK k0
   go_wp2
   have ht:∀t∈L2,∃z∈L,t=aV z:=fun t ht=>by
    obtain⟨z,hz,e⟩:=List.mem_map.1 ((K2.out t).1 ((J3.out t).1 ht))
    exact⟨z,hz,e.symm⟩
   have hmap:(L2.map cF).map aV=L2:=by
    rw[List.map_map]
    conv=>rhs;rw[←List.map_id L2]
    refine List.map_congr_left (fun t h=>?_)
    obtain⟨z,-,rfl⟩:=ht t h
    show aV (cF (aV z))=_
    rw[kT];rfl
   have mj:∀z,z∈L2.map cF↔z∈L:=fun z=>by
    constructor
    ·intro h
     obtain⟨t,h1,rfl⟩:=List.mem_map.1 h
     obtain⟨y,hy,rfl⟩:=ht t h1
     rw[kT];exact hy
    ·intro h
     refine List.mem_map.2 ⟨aV z,(J3.out _).2 ((K2.out _).2 (List.mem_map.2 ⟨z,h,rfl⟩)),kT z⟩
   have hDW:D<W2.heap.size:=(Array.getElem?_eq_some_iff.1 Zz.out).1
   refine⟨by simp,.inl ⟨_,_,rfl,gE Zz.out,?_⟩⟩
   refine⟨_,Af Tryz.results96 _ _,?_⟩
   refine⟨⟨some ⟨gq,0,none⟩,m,cap,L2.map cF,rfl,by rw[cG];exact J1.out,by omega,?_,fun z=>(mj z).trans (P7.out z),fun z h=>HHq.out z ((mj z).1 h)⟩,gD.out.trans (iG (cC lK hD) Zz.out)⟩
   rw[hmap]
   intro i hi
   obtain⟨b,off,e1,e2⟩:=J4.out i hi
   cases e1
   refine⟨gq,0,rfl,?_⟩
   rw[jW (show(W2.putObj D _).heap[gq]? =W2.heap[gq]? from cH (fun e=>hDg e.symm))]
   exact e2
 case stop=>
  rintro D c k W hD hk hF
  exact hF.elim
end
end
section
open Go Go.RowKit
section
def SeqH{β:Type}(F:Fence)(n:Nat)(P:Program)(gf:Nat)(lb:Array bB)(enc:β→Array bB)(Ok:List β→β→Prop)(Fin:List β→Prop)(Kp:aE→aE→Prop)(w:aE):Prop:=
 ∀(l:Nat)(J Jx:List β→aE→Prop)(W:aE),aJ w.heap.size w W→(∀k V V',J k V→aJ V.heap.size V V'→J k V')→
  (∀k x V,Ok k x→J k V→YieldAt F (n-1) P l (enc x) V fun e V'=>(e=aO (aM true)∧J (k++[x]) V'∧Kp V V')∨(e=aO (aM false)∧Jx (k++[x]) V'))→
  J [] W→CallsIn F n P gf (#[.func (.yield l) #[] #[]]++lb) W fun e W'=>(∃v,e=aO v)∧((∃k,Fin k∧J k W')∨∃k,Jx k W')
def Mz{β:Type}(B:Nat)(Kp:aE→aE→Prop)(I:List β→aE→Prop)(Ix:Cz→List β→aE→Prop)(k:List β)(W:aE):Exit→EI→aE→Prop
 |.normal,_,V=>kC B W V∧Kp W V∧I k V
 |.ret,_,V=>kC B W V∧Ix .ret k V
 |.exit id,_,V=>kC B W V∧Ix (.exit id) k V
 |.goto t,_,V=>kC B W V∧Ix (.goto t) k V
 |.panic _,_,_=>False
 |.outgrown,_,_=>False
variable{F:Fence}{n:Nat}{P:Program}
theorem P8{g:ut}{ps:Array Tmp}{assign body:Cz}{Q:Exit→EI→aE→Prop}{a:EI}{w:aE}
 (Ig:F.round=none)(h1:1≤n){gf:Nat}{lb:Array bB}(hg:a.eval g=.func (.func gf) #[] lb)(xm:F.fn gf)(eg:∀args w,(callFunc gf args).run P w=.ok (.enter gf args) w)
 {β:Type}{enc:β→Array bB}{Ok:List β→β→Prop}{Fin:List β→Prop}{Kp:aE→aE→Prop}{w0:aE}(BF:SeqH F (n-1) P gf lb enc Ok Fin Kp w0)(hb0:aJ w0.heap.size w0 w)
 (Kd:∀{A B C:aE},Kp A B→Kp B C→Kp A C)(KD:∀(W:aE)(l:Nat)(o o':Obj),w.heap.size≤l→W.heap[l]? =some o→o.isCells=false→o.isWalk=false→Kp W (W.putObj l o'))(rV:∀x,(enc x).size=ps.size)
 (I:List β→aE→Prop)(Ix:Cz→List β→aE→Prop)(hI:Bd w.heap.size I)(DP:∀c,Bd w.heap.size (Ix c))(h0:I [] w)(vE:β→EI)
 (kW:∀(l:Nat)(x:β)(W:aE)(K:EI→aE→Prop),K (vE x) W→
  assign.wpIn (F.inRound l) (n-1-1) P (Exit.then K (fun _ _ _=>False)) {tmps:=(ps.zip (enc x)).foldl (fun t(p,v)=>t.setIfInBounds p v) a.tmps,defers:=[]} W)
 (tS:∀(l:Nat)(k:List β)(x:β)(W:aE),Ok k x→I k W→body.wpIn (F.inRound l) (n-1-1) P (Mz w.heap.size Kp I Ix (k++[x]) W) (vE x) W)
 (pV:∀(D:Nat)(W:aE),w.heap.size≤D→(∃k,Fin k∧I k W)→W.heap[D]? =some (.deferred (some []))→Q .normal {a with defers:={target:=.collected D,args:= #[]}::a.defers} W)
 (tT:∀(D:Nat)(c:Cz)(k:List β)(W:aE),w.heap.size≤D→Ix c k W→W.heap[D]? =some (.deferred (some []))→c.wpIn F n P Q {a with defers:={target:=.collected D,args:= #[]}::a.defers} W):
 (BZ g ps assign body).wpIn F n P Q a w:=by
 refine wpIn_rangeFunc ?_
 intro fn YQ
 rw[Ig]
 have hD:=nL w (.deferred (some []))
 obtain⟨V,hV⟩:∃V,(w.alloc (.deferred (some []))).alloc (.loop (dP fn a ps assign body w.heap.size .ready none))=V:=⟨_,rfl⟩
 have kD:V.heap[w.heap.size]? =some (.deferred (some [])):=by rw[←hV];exact(Below.heap_alloc _ _ _ (by simp)).trans hD
 have kL:V.heap[w.heap.size+1]? =some (.loop (dP fn a ps assign body w.heap.size .ready none)):=by
  rw[←hV]
  have:=nL (w.alloc (.deferred (some []))) (.loop (dP fn a ps assign body w.heap.size .ready none))
  rwa[aS]at this
 have kI:I [] V:=by rw[←hV];exact hI.alloc _ (hI.alloc _ h0)
 have kB:aJ w0.heap.size w0 V:=by
  rw[←hV];exact hb0.trans ((((aI _ w).alloc (aD _) _).alloc (by simp) _).mono hb0.size)
 refine⟨w.heap.size+1,[{target:=.collected w.heap.size,args:= #[]}],V,{target:=.fn (.func gf) lb,args:= #[.func (.yield (w.heap.size+1)) #[] #[]]},V,gf,
  #[.func (.yield (w.heap.size+1)) #[] #[]]++lb,V,?_,?_,?_,?_,fun _=>h1,?_⟩
 ·rw[←hV];exact run_enterLoop_outer _ _ _ _ _
 ·simp only[resolve,hg]
  simp[go_sem]
 ·intro f hf
  simp[Target.leads]at hf
  subst hf;exact xm
 ·simp[invoke,go_sem,eg]
 ·have yR:=BF (w.heap.size+1)
   (fun k W=>I k W∧W.heap[w.heap.size+1]? =some (.loop (dP fn a ps assign body w.heap.size .ready none))∧W.heap[w.heap.size]? =some (.deferred (some [])))
   (fun k W=>∃c,Ix c k W∧W.heap[w.heap.size+1]? =some (.loop (dP fn a ps assign body w.heap.size .done (some c)))∧W.heap[w.heap.size]? =some (.deferred (some [])))
   V kB (fun k A B⟨h1,h2,h3⟩hb=>⟨hI k A B none h1 (C6 hb) (fun r e=>by cases e),(hb.block _ (Array.getElem?_eq_some_iff.1 h2).1).trans h2,(hb.block _ (Array.getElem?_eq_some_iff.1 h3).1).trans h3⟩) ?round ⟨kI,kL,kD⟩
  case round=>
   rintro k x W hk⟨hi,hl,hd⟩
   have hlt:w.heap.size+1<W.heap.size:=(Array.getElem?_eq_some_iff.1 hl).1
   have hy:=run_yield (P:=P) (args:=enc x) hl (by exact rV x)
   refine⟨fn,_,assign,body,hy,roundIn_of_wpIn YQ (kW _ x W _ ⟨_,run_beginRound hl rfl,?_⟩)⟩
   obtain⟨U,hU⟩:∃U,W.putObj (w.heap.size+1) (.loop (dP fn a ps assign body w.heap.size .busy none))=U:=⟨_,rfl⟩
   have uL:U.heap[w.heap.size+1]? =some (.loop (dP fn a ps assign body w.heap.size .busy none)):=by rw[←hU];exact mA hlt
   have uD:U.heap[w.heap.size]? =some (.deferred (some [])):=by rw[←hU];exact(cH (by omega)).trans hd
   have uK:Kp W U:=by rw[←hU];exact KD _ _ _ _ (by omega) hl rfl rfl
   have uI:I k U:=by rw[←hU];exact hI.putObj _ hi (by omega) hl rfl
   have GA:∀(j:Option Cz)(X:aE),kC w.heap.size U X→
    X.heap[w.heap.size+1]? =some (.loop (dP fn a ps assign body w.heap.size .busy none))∧
    (Instr.endRound (w.heap.size+1) j).run P X=.ok (aM j.isNone) (X.putObj (w.heap.size+1) (.loop (dP fn a ps assign body w.heap.size (if j.isNone then .ready else .done) j)))∧
    (X.putObj (w.heap.size+1) (.loop (dP fn a ps assign body w.heap.size (if j.isNone then .ready else .done) j))).heap[w.heap.size+1]? =some (.loop (dP fn a ps assign body w.heap.size (if j.isNone then .ready else .done) j))∧
    (X.putObj (w.heap.size+1) (.loop (dP fn a ps assign body w.heap.size (if j.isNone then .ready else .done) j))).heap[w.heap.size]? =some (.deferred (some [])):=by
    intro j X hX
    have xL:=hX.same _ _ (by omega) uL rfl
    exact⟨xL,run_endRound (P:=P) j xL,mA (Array.getElem?_eq_some_iff.1 xL).1,(cH (by omega)).trans (hX.same _ _ (aD _) uD rfl)⟩
   show Code.wpIn _ _ _ _ _ _ (W.putObj (w.heap.size+1) (.loop (dP fn a ps assign body w.heap.size .busy none)))
   rw[hU]
   refine wpIn_mono (tS _ k x U hk uI) ?_
   intro e a3 X hp
   have BG:∀c:Cz,kC w.heap.size U X∧Ix c (k++[x]) X→_:=fun c hc=>(GA (some c) X hc.1)
   cases e with
   |normal=>
    obtain⟨xL,xr,yL,yD⟩:=GA none X hp.1
    exact⟨_,_,xr,.inl ⟨rfl,⟨hI.putObj _ hp.2.2 (by omega) xL rfl,yL,yD⟩,Kd (Kd uK hp.2.1) (KD _ _ _ _ (by omega) xL rfl rfl)⟩⟩
   |ret=>
    obtain⟨xL,xr,yL,yD⟩:=BG .ret hp
    exact⟨_,_,xr,.inr ⟨rfl,.ret,(DP _).putObj _ hp.2 (by omega) xL rfl,yL,yD⟩⟩
   |exit id=>
    obtain⟨xL,xr,yL,yD⟩:=BG (.exit id) hp
    exact⟨_,_,xr,.inr ⟨rfl,.exit id,(DP _).putObj _ hp.2 (by omega) xL rfl,yL,yD⟩⟩
   |goto t=>
    obtain⟨xL,xr,yL,yD⟩:=BG (.goto t) hp
    exact⟨_,_,xr,.inr ⟨rfl,.goto t,(DP _).putObj _ hp.2 (by omega) xL rfl,yL,yD⟩⟩
   |panic ch=>exact hp.elim
   |outgrown=>exact hp.elim
  refine yR.mono ?_
  rintro e W2⟨⟨v,rfl⟩,(⟨k,hf,hi,hl,hd⟩|⟨k,c,hi,hl,hd⟩)⟩
  ·exact⟨none,_,run_endLoop (P:=P) hl (by simp[dP]),pV _ _ (aD _) ⟨k,hf,hI.putObj _ hi (by omega) hl rfl⟩ ((cH (by omega)).trans hd)⟩
  ·exact⟨some c,_,run_endLoop (P:=P) hl (by simp[dP]),tT _ c k _ (aD _) ((DP c).putObj _ hi (by omega) hl rfl) ((cH (by omega)).trans hd)⟩
theorem VX{g:ut}{ps:Array Tmp}{assign body:Cz}{Q:Exit→EI→aE→Prop}{a:EI}{w:aE}
 {gf:Nat}{lb:Array bB}(hg:a.eval g=.func (.func gf) #[] lb)(eg:∀args w,(callFunc gf args).run P w=.ok (.enter gf args) w)
 {β:Type}{enc:β→Array bB}{Ok:List β→β→Prop}{Fin:List β→Prop}{Kp:aE→aE→Prop}(BF:SeqH dW 8 P gf lb enc Ok Fin Kp w)
 (Kd:∀{A B C:aE},Kp A B→Kp B C→Kp A C)(KD:∀(W:aE)(l:Nat)(o o':Obj),w.heap.size≤l→W.heap[l]? =some o→o.isCells=false→o.isWalk=false→Kp W (W.putObj l o'))(rV:∀x,(enc x).size=ps.size)
 (I:List β→aE→Prop)(Ix:Cz→List β→aE→Prop)(hI:Bd w.heap.size I)(DP:∀c,Bd w.heap.size (Ix c))(h0:I [] w)(vE:β→EI)
 (kW:∀(l:Nat)(x:β)(W:aE)(K:EI→aE→Prop),K (vE x) W→
  assign.wpIn (Fence.wide.inRound l) 7 P (Exit.then K (fun _ _ _=>False)) {tmps:=(ps.zip (enc x)).foldl (fun t(p,v)=>t.setIfInBounds p v) a.tmps,defers:=[]} W)
 (tS:∀(l:Nat)(k:List β)(x:β)(W:aE),Ok k x→I k W→body.wpIn (Fence.wide.inRound l) 7 P (Mz w.heap.size Kp I Ix (k++[x]) W) (vE x) W)
 (pV:∀(D:Nat)(W:aE),w.heap.size≤D→(∃k,Fin k∧I k W)→W.heap[D]? =some (.deferred (some []))→Q .normal {a with defers:={target:=.collected D,args:= #[]}::a.defers} W)
 (tT:∀(D:Nat)(c:Cz)(k:List β)(W:aE),w.heap.size≤D→Ix c k W→W.heap[D]? =some (.deferred (some []))→c.wp P Q {a with defers:={target:=.collected D,args:= #[]}::a.defers} W):
 (BZ g ps assign body).wp P Q a w:=
 (wpIn_wide (n:=9)).1 (P8 (F:=dW) rfl (by decide) hg trivial eg BF (aI _ _) Kd KD rV I Ix hI DP h0 vE kW tS pV (fun D c k W h1 h3 h4=>wpIn_wide.2 (tT D c k W h1 h3 h4)))
end
end
section
open Go Go.RowKit Go.Shelf Go.Lib
section
attribute[local go_sem] mD
def jI(B:Nat)(V V':aE):Prop:=aJ B V V'∧∀(k:Nat)(o:Obj),V.heap[k]? =some o→o.isCells=true→V'.heap[k]? =some o
theorem jI.refl(B:Nat)(V:aE):jI B V V:=⟨aI _ _,fun _ _ h _=>h⟩
theorem jI.trans{B:Nat}{X Y Z:aE}(h:jI B X Y)(k:jI B Y Z):jI B X Z:=⟨h.1.trans k.1,fun i o hi ho=>k.2 i o (h.2 i o hi ho) ho⟩
theorem jI.call{B:Nat}{X Y:aE}(h:aJ X.heap.size X Y)(hB:B≤X.heap.size):jI B X Y:=
 ⟨h.mono hB,fun i o hi _=>(h.block i (Array.getElem?_eq_some_iff.1 hi).1).trans hi⟩
theorem jI.blk{B:Nat}{X Y:aE}(h:jI B X Y){b:Nat}{cs:Array bB}{T:TypeId}(k:bZ X b cs T):bZ Y b cs T:=h.2 b _ k rfl
theorem jI.putObj{B n:Nat}(hB:B≤n)(W:aE)(l:Nat)(o o':Obj)(hl:n≤l)(h:W.heap[l]? =some o)(ho:o.isCells=false)(_:o.isWalk=false):jI B W (W.putObj l o'):=
 ⟨iG (cC hB hl) h,fun i x hi hx=>by
  by_cases e:i=l
  ·subst e;rw[h]at hi;cases hi;rw[ho]at hx;cases hx
  ·exact(cH e).trans hi⟩
theorem jI.cell{B:Nat}{X Y:aE}(h:jI B X Y){p:dE}{v:bB}(hp:X.cell? p=some v):Y.cell? p=some v:=by
 have:Y.heap[p.block]? =X.heap[p.block]? :=by
  unfold World.cell? at hp;cases ho:X.heap[p.block]? with
  |none=>rw[ho]at hp;simp at hp
  |some o=>
   refine h.2 _ o ho ?_;rw[ho]at hp;cases o<;>first |rfl|simp at hp
 rw[jW this];exact hp
theorem jI.rdv{B:Nat}{X Y:aE}(h:jI B X Y){a:Option dE}{vs:List bB}(r:rW X a vs):rW Y a vs:=fun i hi=>by
 obtain⟨b,off,e,hc⟩:=r i hi
 exact⟨b,off,e,h.cell hc⟩
end
section
attribute[local go_sem] mD
def ui(fs:List Fr)(i j:Nat)(z:Rat):Prop:=∃k,k<j∧(fs.getD k default).up=(fs.getD i default).up∧eU (fs.getD k default).q (fs.getD i default).q z
def QV(fs:List Fr)(i:Nat)(z:Rat):Prop:=(fs.getD i default).sp≠[48]∧z=(fs.getD i default).q.t
theorem P9{fs:List Fr}{z:Rat}:mw fs z↔∃i,i<fs.length∧(QV fs i z∨ui fs i i z):=Iff.rfl
def XU(f g:FQ)(w:aE)(e:Ending)(w':aE):Prop:=
 (∃(a:Option dE)(n cap:Nat)(c:Int)(L:List Rat),e=aO (bO #[aB a n cap,aF aG c])∧L.length=n∧n≤1000∧rW w' a (strs (L.map aV))∧(∀z,z∈L↔f.up=g.up∧eU f g z)∧∀z∈L,HQ 198 z)∧aJ w.heap.size w w'
theorem Ts(f g:FQ)(hf:f.Good)(hg:g.Good)(hup:f.up≠g.up)(w:aE)(hE:eZ w):
 aQ aC 96 #[f.fr.v,g.fr.v] w (Rt (bO #[aB none 0 0,aF aG 9]) w):=by
 have ug:=zq (fun(W:aE)(h:aJ w.heap.size w W)=>rM f hf W (hE.below h));have uh:=zq (fun(W:aE)(h:aJ w.heap.size w W)=>rM g hg W (hE.below h));have evf:f.fr.v=dM (AF f.up f.co f.dir (bs (aV f.v)) (bs (aV f.t))):=rfl;have evg:g.fr.v=dM (AF g.up g.co g.dir (bs (aV g.v)) (bs (aV g.t))):=rfl;rw[evf]at ug⊢;rw[evg]at uh⊢;clear evf evg hf hg hE;have fP:aJ w.heap.size w ((w.alloc (aL (AF f.up f.co f.dir (bs (aV f.v)) (bs (aV f.t))) 44)).alloc (aL (AF g.up g.co g.dir (bs (aV g.v)) (bs (aV g.t))) 44)):=((aI _ w).alloc (aD _) _).alloc (by simp) _;have q1:bZ ((w.alloc (aL (AF f.up f.co f.dir (bs (aV f.v)) (bs (aV f.t))) 44)).alloc (aL (AF g.up g.co g.dir (bs (aV g.v)) (bs (aV g.t))) 44)) w.heap.size (AF f.up f.co f.dir (bs (aV f.v)) (bs (aV f.t))) 44:=(bZ.new w _ _).alloc _;have q2:bZ ((w.alloc (aL (AF f.up f.co f.dir (bs (aV f.v)) (bs (aV f.t))) 44)).alloc (aL (AF g.up g.co g.dir (bs (aV g.v)) (bs (aV g.t))) 44)) (w.heap.size+1) (AF g.up g.co g.dir (bs (aV g.v)) (bs (aV g.t))) 44:=by
  have:=bZ.new (w.alloc (aL (AF f.up f.co f.dir (bs (aV f.v)) (bs (aV f.t))) 44)) (AF g.up g.co g.dir (bs (aV g.v)) (bs (aV g.t))) 44;rwa[aS]at this
 unfold AF at *;obtain⟨u1,h1⟩:∃u,f.up=u:=⟨_,rfl⟩;obtain⟨u2,h2⟩:∃u,g.up=u:=⟨_,rfl⟩;rw[h1]at ug hup fP q1 q2⊢;rw[h2]at uh hup fP q1 q2⊢;clear h1 h2;generalize bs (aV f.v)=S1 at *;generalize bs (aV f.t)=T1 at *;generalize bs (aV g.v)=S2 at *;generalize bs (aV g.t)=T2 at *;have mE:=zq fP;have Q1:=zq q1;have Q2:=zq q2;clear fP q1 q2;cases u1<;>cases u2<;>(try(exact absurd rfl hup))<;>clear hup;all_goals
  go_enter func96,ntmps96;go_wp2_with fail
  refine(ug.out _ mE.out).mono ?_;rintro e W1⟨rfl,hb1⟩;have fK:=zq (aT mE.out hb1);have Q1:=zq (Q1.out.below hb1 Q1.out.lt);have Q2:=zq (Q2.out.below hb1 Q2.out.lt);clear hb1 mE;obtain⟨d0,d1,d2,d3,d4⟩:=Q2.out.front;have l2:=Q2.out.lt;go_wp2_with fail
  refine(uh.out _ fK.out).mono ?_;rintro e W2⟨rfl,hb2⟩;have gD:=zq (aT fK.out hb2);have Q1:=zq (Q1.out.below hb2 Q1.out.lt);have Q2:=zq (Q2.out.below hb2 Q2.out.lt);clear hb2 fK d0 d1 d2 d3 d4 l2;obtain⟨c0,c1,c2,c3,c4⟩:=Q1.out.front;obtain⟨d0,d1,d2,d3,d4⟩:=Q2.out.front;go_wp2;go_ret2;exact⟨rfl,gD.out⟩
theorem og(f g:FQ)(hf:f.Good)(hg:g.Good)(w:aE)(hE:eZ w):aQ aC 96 #[f.fr.v,g.fr.v] w (XU f g w):=by
 by_cases hup:f.up=g.up
 ·refine(Tq f g hf hg hup w hE).mono ?_;rintro e w'⟨⟨a,n,cap,L,h1,h2,h3,h4,h5,h6⟩,hb⟩;exact⟨⟨a,n,cap,0,L,h1,h2,h3,h4,fun z=>⟨fun h=>⟨hup,(h5 z).1 h⟩,fun h=>(h5 z).2 h.2⟩,h6⟩,hb⟩
 ·refine(Ts f g hf hg hup w hE).mono ?_;rintro e w'⟨h1,hb⟩;exact⟨⟨none,0,0,9,[],h1,rfl,by decide,fun i hi=>absurd hi (by simp[strs]),fun z=>⟨fun h=>absurd h (by simp),fun h=>absurd h.1 hup⟩,fun z h=>absurd h (by simp)⟩,hb⟩
def VY(fs:List Fr)(k j:Nat)(L0 L:List Rat):Prop:=(∀z∈L0,z∈L)∧(∀z,QV fs k z→z∈L)∧∀z,ui fs k j z→z∈L
theorem VY.more{fs:List Fr}{k j:Nat}{L0 L:List Rat}(h:VY fs k j L0 L)(x:Rat):VY fs k j L0 (L++[x]):=
 ⟨fun z hz=>kM _ (h.1 z hz),fun z hz=>kM _ (h.2.1 z hz),fun z hz=>kM _ (h.2.2 z hz)⟩
theorem VY.next{fs:List Fr}{k j:Nat}{L0 L Lq:List Rat}(h:VY fs k j L0 L)(hq:∀z∈Lq,z∈L)(hm:∀z,z∈Lq↔(fs.getD j default).q.up=(fs.getD k default).q.up∧eU (fs.getD j default).q (fs.getD k default).q z):VY fs k (j+1) L0 L:=by
 refine⟨h.1,h.2.1,fun z hz=>?_⟩;obtain⟨i,hi,h1,h2⟩:=hz;rcases fC i j with c|c
 ·exact h.2.2 z ⟨i,c,h1,h2⟩
 ·obtain rfl:i=j:=by omega
  exact hq z ((hm z).2 ⟨h1,h2⟩)
theorem fr_st{f:Fr}(h:f.Ok):bs f.st=bs (aV f.q.t):=by
 have:=congrArg Fr.st h.good.2;rw[←this];rfl
theorem ev_seq (heq:∀ (f g:FQ),f.Good→g.Good→∀ W,eZ W→aQ aC 96 #[f.fr.v,g.fr.v] W (XU f g W)) (Bf B:Nat) (a:Option dE) (nf ca:Nat) (fs:List Fr) (hf:fs.length=nf) (hn:nf≤24) (ZM:∀ f∈fs,f.Ok) (w:aE) (hB:B≤w.heap.size) (hBl:Bf < w.heap.size)
 (hE:∀ V,aJ B w V→eZ V) (hc:∀ V,aJ B w V→wP V a fs) (MB:nf≤ca) (hBs:bZ w Bf #[aB a nf ca] 22) :
 SeqH dW 8 aC 95 #[cB (some ⟨Bf,0,none⟩)] (fun z:Rat=> #[aA (bs (aV z))]) (fun _ z=> HQ 198 z∧mw fs z) (fun k=> ∀ z,mw fs z→z∈k) (jI B) w:=by
 intro l J Jx W hW hJ hY h0;have K0:jI B w W:=jI.call hW hB;have hBs:=K0.blk hBs;have HE:=zq (fun V (h:aJ B W V)=> hE V (K0.1.trans h));have Hc:=zq (fun V (h:aJ B W V)=> hc V (K0.1.trans h));have Zg:B≤W.heap.size:=cC hB hW.size;have Hf:=zq hf;have QL:aY (∀ i,i < nf→(fs.getD i default).Ok):=fun i hi=> ZM _ (cP (by rw [hf];exact hi) default);have HEq:aY (∀ i j,i < nf→j < nf→∀ V,aJ B W V→aQ aC 96 #[(fs.getD j default).v,(fs.getD i default).v] V (XU (fs.getD j default).q (fs.getD i default).q V)):=fun i j hi hj V hV=> by
  obtain⟨g1,e1⟩:=(QL.out i hi).good;obtain⟨g2,e2⟩:=(QL.out j hj).good;have:=heq _ _ g2 g1 V (HE.out V hV);rwa [e1,e2] at this
 have HBs:=zq hBs;have HJ0:=zq h0;have HJ:=zq hJ;have HY:=zq hY;clear hf ZM hE hc hBs K0 hW hB hBl heq h0 hJ hY;refine callsIn_of_wp func95 rfl trivial ?_ rfl;simp only [ntmps95,gA,cO,eW,jX,jY,eR,eT,gC,fJ,iC,fX];have k0:=HBs.out.cell 0;simp only [List.getElem?_toArray,List.getElem?_cons_zero] at k0;have kl:=HBs.out.lt;gi_wp2;gi_loopw [13] (fun i wr=> ∃ (k:Nat) (L:List Rat),i=aF aG (k:Int)∧k≤nf∧aY (J L wr)∧aY (jI B W wr)∧aY (∀ i,i < k→∀ z,QV fs i z∨ui fs i i z→z∈L))
  (fun i _=> nf - (aK i).toNat)
 case atStart=> exact⟨0, [],rfl,bR _,HJ0.out,jI.refl _ _,fun i hi=> by omega⟩
 case round=>
  obtain⟨k,L,rfl,hk,HJk,HK,HL⟩:=hrel;by_cases hlt:k < nf
  ·have HKk:=zq HK.out.1;obtain⟨fb,fo,rfl,c0,c1,c2,c3,c4⟩:=(Hc.out _ HKk.out).at (i:=k) (by rw [Hf.out];exact hlt) rfl;have Hfs:aY (∀ V,aJ B W V→wP V (some ⟨fb,fo,none⟩) fs):=Hc;have Io:=fr_st (QL.out k hlt);have hz30:=(QL.out k hlt).good.1.t;have HQt:aY (HQ 198 (fs.getD k default).q.t):=hz30.mono (by decide);have Qa:=zq (fun j hj V hV=> HEq.out k j hlt hj V hV);have Mh:aY (QV fs k (fs.getD k default).q.t↔(fs.getD k default).sp≠ [48]):=⟨fun h=> h.1,fun h=> ⟨h,rfl⟩⟩;have HSu:aY (∀ z,QV fs k z→z=(fs.getD k default).q.t):=fun z h=> h.2;have Tt:((bs (fs.getD k default).sp).toList== [48])=decide ((fs.getD k default).sp= [48]):=by
    rw [cI,aX];rw [Bool.eq_iff_iff];simp
   have HSp:=zq Tt;have VZ:aY (∀ z,QV fs k z∨ui fs k k z→mw fs z):=fun z h=> P9.2 ⟨k,by rw [Hf.out];exact hlt,h⟩;have HCov:aY (∀ L2,VY fs k k L L2→∀ i,i < k + 1→∀ z,QV fs i z∨ui fs i i z→z∈L2):=fun L2 h i hi z hz=> by
    rcases fC i k with c | c
    ·exact h.1 z (HL.out i c z hz)
    ·obtain rfl:i=k:=by omega
     exact hz.elim (h.2.1 z) (h.2.2 z)
   have HC0:aY (∀ L2,(∀ z∈L,z∈L2)→(∀ z,QV fs k z→z∈L2)→VY fs k 0 L L2):=fun L2 h1 h2=> ⟨h1,h2,fun z ⟨i,hi,_⟩=> absurd hi (Nat.not_lt_zero _)⟩;have ml:aY (∀ j L2 Lq,VY fs k j L L2→(∀ z∈Lq,z∈L2)→(∀ z,z∈Lq↔(fs.getD j default).q.up=(fs.getD k default).q.up∧eU (fs.getD j default).q (fs.getD k default).q z)→VY fs k (j + 1) L L2):=fun j L2 Lq h1 h2 h3=> h1.next h2 h3;have HEvJ:aY (∀ j,j < k→∀ z,((fs.getD j default).q.up=(fs.getD k default).q.up∧eU (fs.getD j default).q (fs.getD k default).q z)→mw fs z):=fun j hj z h=> VZ.out z (.inr ⟨j,hj,h.1,h.2⟩);have k0' :=k0;have k0:wr.cell? ⟨Bf,0,none⟩=some (aB (some ⟨fb,fo,none⟩) nf ca):=HK.out.cell k0';have kl2:Bf < wr.heap.size:=bF wr ⟨Bf,0,none⟩ k0;have WK:fb < wr.heap.size:=bF wr ⟨fb,fo + k * 5,none⟩ c0;have hB4:=(aI wr.heap.size wr).alloc (aD _) (aL #[aM (fs.getD k default).up,aF aG (fs.getD k default).co,aF aG (fs.getD k default).dir,aA (bs (fs.getD k default).sp),aA (bs (fs.getD k default).st)] 44);have Q4:=zq (bZ.new wr #[aM (fs.getD k default).up,aF aG (fs.getD k default).co,aF aG (fs.getD k default).dir,aA (bs (fs.getD k default).sp),aA (bs (fs.getD k default).st)] 44);have vG:=zq hB4;clear hz30 Tt hB4 HL;have Qa:aY (∀ (j:Nat),j < nf→∀ (V:aE),aJ B W V→aQ aC 96 #[(fs.getD j default).v,dM #[aM (fs.getD k default).up,aF aG (fs.getD k default).co,aF aG (fs.getD k default).dir,aA (bs (fs.getD k default).sp),aA (bs (fs.getD k default).st)]] V (XU (fs.getD j default).q (fs.getD k default).q V)):=Qa;have HQ48:aY ((fs.getD k default).sp≠ [48]→mw fs (fs.getD k default).q.t):=fun h=> VZ.out _ (.inl (Mh.out.2 h));have HSn:aY ((fs.getD k default).sp= [48]→∀ z,¬ QV fs k z):=fun h z hz=> hz.1 h;have HFT:aY (∀ (L2:List Rat) (V:aE),J L2 V→mw fs (fs.getD k default).q.t→YieldAt dW 7 aC l #[aA (bs (aV (fs.getD k default).q.t))] V fun e V' => (e=aO (aM true)∧J (L2 ++ [(fs.getD k default).q.t]) V' ∧jI B V V')∨(e=aO (aM false)∧Jx (L2 ++ [(fs.getD k default).q.t]) V')):=fun L2 V h hz=> HY.out L2 _ V ⟨HQt.out,hz⟩ h;have HSu2:aY (∀ z,QV fs k z→z=(fs.getD k default).q.t):=HSu;generalize (fs.getD k default).q=fq at *;generalize fs.getD k default=f at *;obtain⟨uM,yX,kX,DX,KI⟩:=f;simp only [] at *;rw [Io] at Qa Q4 vG c4;clear Io Mh HSu VZ HEq HQt;generalize fq.t=ft at *;generalize bs (aV ft)=FT at *;gi_upto_region 3 with (fail);obtain⟨wb,hwb⟩:∃ wb,wr.alloc (aL #[aM uM,aF aG yX,aF aG kX,aA (bs DX),aA FT] 44)=wb:=⟨_,rfl⟩;rw [hwb] at Q4 vG ⊢;have HKb:=zq (HK.out.trans (jI.call vG.out (cC Zg HKk.out.size)));have HJb:=zq (HJ.out _ _ _ HJk.out vG.out);have k1:=bV vG.out k0;have hsb:wr.heap.size < wb.heap.size:=Q4.out.lt;clear k0 kl2 WK c0 c1 c2 c3 c4 hwb vG HKk;generalize wr.heap.size=b4 at *;obtain⟨d0,d1,d2,d3,d4⟩:=Q4.out.front;gi_cut [27] from 14 (fun v V=> (v=aM false∧aY (∃ L1,J L1 V∧jI B wb V∧VY fs k 0 L L1))∨(v=aM true∧aY (∃ L1,Jx L1 V)));case first=>
    have hsp:=HSp.out;by_cases h48:DX= [48]
    ·rw [decide_eq_true h48] at hsp;have R:aY (∃ L1,J L1 wb∧jI B wb wb∧VY fs k 0 L L1):=⟨L,HJb.out,jI.refl _ _,HC0.out L (fun z h=> h) (fun z h=> absurd h (HSn.out h48 z))⟩;clear h48;generalize bs DX=Fsq at *;gi_wp2;repeat (refine⟨fun _ h=> (by cases h), ?_⟩;gi_wp2)
     gi_meet;case rel=> exact .inl ⟨rfl,R.out⟩
    ·rw [decide_eq_false h48] at hsp;obtain⟨fny,tmy,asy,boy,hy,hR⟩:=HFT.out L wb HJb.out (HQ48.out h48);clear h48;generalize bs DX=Fsq at *;gi_wp2;refine hR.mono ?_;rintro e W1 (⟨rfl,hJ1,hK1⟩ | ⟨rfl,hx⟩)
     ·have R:aY (∃ L1,J L1 W1∧jI B wb W1∧VY fs k 0 L L1):=⟨_,hJ1,hK1,HC0.out _ (fun z h=> kM _ h) (fun z h=> by rw [HSu2.out z h];exact UK _ (List.mem_singleton.2 rfl))⟩;gi_wp2;gi_meet;case rel=> exact .inl ⟨rfl,R.out⟩
     ·have R:aY (∃ L1,Jx L1 W1):=⟨_,hx⟩;gi_wp2;gi_meet;case rel=> exact .inr ⟨rfl,R.out⟩
   case rest=>
   rcases hcut with ⟨rfl,HX⟩ | ⟨rfl,HX⟩;case inr=>
    gi_wp2;refine cD (Bh rfl _ _ _) rfl ?_;exact⟨⟨_,rfl⟩, .inr HX.out⟩
   obtain⟨L1,hJ1,hK1,hC1⟩:=HX.out;rename aE=> wc;have HJ1:=zq hJ1;have HKc:=zq hK1;have HCv:=zq hC1;clear hJ1 hK1 hC1 HX d0 d1 d2 d3 d4 HJb HSn HQ48 HSu2 HC0 HFT HSp;have k2:=HKc.out.cell k1;have kl2:=bF wc ⟨Bf,0,none⟩ k2;have hnca:(k:Int)≤(ca:Int):=by omega
   gi_wp2;gi_loopw [32] (fun i wr2=> ∃ (j:Nat) (L2:List Rat),i=aF aG (j:Int)∧j≤k∧aY (J L2 wr2)∧aY (jI B wb wr2)∧aY (VY fs k j L L2))
    (fun i _=> k - (aK i).toNat)
   case atStart=> exact⟨0,L1,rfl,bR _,HJ1.out,HKc.out,HCv.out⟩
   case round=>
    obtain⟨j,L2,rfl,hj,HJ2,Zz,Tc⟩:=hrel;have HKw:=zq (HKb.out.trans Zz.out);have rO:=zq HKw.out.1;by_cases hlt2:j < k
    ·obtain⟨fb',fo',e1,c0,c1,c2,c3,c4⟩:=(Hfs.out _ rO.out).at (i:=j) (by rw [Hf.out];omega) rfl;injection e1 with e1;injection e1 with e1 e2;subst e1 e2;have Tu:=zq (Qa.out j (by omega));have HEvj:=zq (HEvJ.out j hlt2);have HNxj:=zq (ml.out j);unfold Fr.v Fr.cells at Tu;generalize (fs.getD j default).q=gq at *;generalize fs.getD j default=g at *;obtain⟨Fi,PL,Au,kw,lf⟩:=g;simp only [] at *;have Q4j:=zq (Zz.out.blk Q4.out);have k3:=Zz.out.cell k1;obtain⟨d0,d1,d2,d3,d4⟩:=Q4j.out.front;have hl4:=Q4j.out.lt;generalize bs DX=Fsq at *;generalize bs kw=GS at *;generalize bs lf=GT at *;have Cu:=(aI wr.heap.size wr).alloc (aD _) (aL #[aM Fi,aF aG PL,aF aG Au,aA GS,aA GT] 44);have pF:=zq Cu;have Ad:=zq (rO.out.trans (Cu.mono (cC Zg rO.out.size)));clear Cu;gi_wp2_with fail;refine⟨trivial,(callsIn_wide.2 (Tu.out _ Ad.out)).mono ?_⟩;rintro e W6 ⟨⟨a',n',F3,cc,Lq,rfl,hl,hn',hr,hm,hq⟩,hb6⟩;have HB66:=zq (aT pF.out hb6);have HK6:=zq (Zz.out.trans (jI.call HB66.out (cC Zg rO.out.size)));have HJ6:=zq (HJ.out _ _ _ HJ2.out HB66.out);have Hl:=zq hl;have Hr:=zq hr;have Hm:=zq hm;have Hq:=zq hq;clear hl hr hm hq hb6 pF Ad Tu c0 c1 c2 c3 c4 d0 d1 d2 d3 d4 k3 hl4 Q4j HJ2 Zz HKw rO HB66;gi_wp2;gi_loopw [44] (fun i wr3=> ∃ (m:Nat) (L3:List Rat),i=aF aG (m:Int)∧m≤n' ∧aY (J L3 wr3)∧aY (jI B wb wr3)∧aY (jI B W6 wr3)∧aY (VY fs k j L L3)∧aY (∀ z∈Lq.take m,z∈L3))
      (fun i _=> n' - (aK i).toNat)
     case atStart=> exact⟨0,L2,rfl,bR _,HJ6.out,HK6.out,jI.refl _ _,Tc.out,fun z h=> absurd h (by simp)⟩
     case round=>
      obtain⟨m,L3,rfl,hm',HJ3,HK3,HK63,HC3,ZV⟩:=hrel;by_cases hlt3:m < n'
      ·obtain⟨ab,ao,rfl,x0⟩:=(HK63.out.rdv Hr.out) m (by rw [lS,cG,Hl.out];exact hlt3);have zW:m < Lq.length:=by rw [Hl.out];exact hlt3
       have hxz:(strs (Lq.map aV)).getD m undef=aA (bs (aV (Lq.getD m 0))):=by simp [strs,aN,zW]
       rw [hxz] at x0;have hzm:Lq.getD m 0∈Lq:=cP zW 0;have HLt:aY (Lq.take (m + 1)=Lq.take m ++ [Lq.getD m 0]):=by
        show _=_;rw [dQ zW];simp [aN,zW]
       obtain⟨fny,tmy,asy,boy,hy,hR⟩:=HY.out L3 (Lq.getD m 0) wr ⟨Hq.out _ hzm,HEvj.out _ ((Hm.out _).1 hzm)⟩ HJ3.out;clear hxz zW hzm;generalize Lq.getD m 0=z at *;generalize bs (aV z)=ZT at *;gi_wp2;refine hR.mono ?_;rintro e W7 (⟨rfl,hJ7,hK7⟩ | ⟨rfl,hx⟩)
       ·have HJ7:=zq hJ7;have HK7:=zq (HK3.out.trans hK7);have HK67:=zq (HK63.out.trans hK7);have HC7:=zq (HC3.out.more z);have HL7:aY (∀ x∈Lq.take (m + 1),x∈L3 ++ [z]):=fun x hx=> by
         rw [HLt.out] at hx;rcases List.mem_append.1 hx with h | h
         ·exact kM _ (ZV.out x h)
         ·exact UK _ h
        clear hJ7 hK7;gi_wp2;go_roundw;case rel=> exact⟨m + 1,L3 ++ [z],by go_num,by omega,HJ7.out,HK7.out,HK67.out,HC7.out,HL7.out⟩
        case measure=> simp only [aK];omega
       ·have R:aY (∃ L1,Jx L1 W7):=⟨_,hx⟩;gi_wp2;refine cD (Bh rfl _ _ _) rfl ?_;exact⟨⟨_,rfl⟩, .inr R.out⟩
      ·obtain rfl:n' =m:=by omega
       have HC4:=zq (HNxj.out L3 Lq HC3.out (fun z hz=> ZV.out z (by rw [List.take_of_length_le (by rw [Hl.out];exact aD _)];exact hz)) Hm.out);clear ZV HNxj;gi_wp2;go_roundw;case rel=> exact⟨j + 1,L3,by go_num,by omega,HJ3.out,HK3.out,HC4.out⟩
       case measure=> simp only [aK];omega
    ·obtain rfl:k=j:=by omega
     have QR:=zq (HCov.out L2 Tc.out);clear HCov Tc;gi_wp2;go_roundw;case rel=> exact⟨k + 1,L2,by go_num,by omega,HJ2.out,HKw.out,QR.out⟩
     case measure=> simp only [aK];omega
  ·obtain rfl:nf=k:=by omega
   gi_wp2;go_end0;exact⟨⟨_,rfl⟩, .inl ⟨L,fun z hz=> by
    obtain⟨i,hi,h⟩:=P9.1 hz;exact HL.out i (by rw [← Hf.out];exact hi) z h,HJk.out⟩⟩
end
end
end Go.Proofs.YtcimoodjlopdaaaGreatDoor
