import Derived.StillTailTactics
import Derived.Laws.StructEq
import Derived.Shelf.Spec.SlicesGrow
import Derived.Test.YtkchhginppjaiaaGreatDoorZ0
import Derived.Test.YtkchhginppjaiaaGreatDoorZ1
import Derived.Test.YtkchhginppjaiaaGreatDoorZ2
namespace Go.Proofs.YtkchhginppjaiaaGreatDoor
set_option maxRecDepth 100000
set_option maxHeartbeats 8000000
set_option linter.all false
open Go.Proofs.Tryz
open _root_.Array renaming replicate_succ->cA,replicate_zero->cB,size_append->mS
open _root_.Bool renaming eq_iff_iff->pI
open _root_.Go renaming World->aF,Value->aP,Calls->bE,Addr->cO,TypeId->dT,bodyPost_ret->dU,wpAnyH_ready->fC,Oper->fX,KeepsFrom->kR,Act->mI,info_parts->lI,run_takeDeferred->nD,Operand->tE,OwnFrom->xZ,size_zeroCells->zS,Exit->A5,Code->D4,maxLen->Cm,results_none->Do,wpAnyH_done->EI,wpList->NE,run_endLoop->N9,builtin->YH
open Go.Act renaming put->cS
open Go.AllReadyH renaming cons->dJ,nil->dX
open Go.ByteArray renaming toList_eq->dV
open Go.Code renaming rangeFunc->zM
open Go.Ending renaming returned->bA
open Go.Fence renaming wide->eP
open Go.IntKind renaming i64->aB
open Go.IntWalk renaming i64_in->bI
open Go.KeepsOthers renaming setCell->dG,of_grownBy->R7
open Go.Obj renaming cells->aN
open Go.Op renaming equalIn->Dn
open Go.Oper renaming semAt_some->gM
open Go.OwnFrom renaming and->eO
open Go.Program renaming fieldsOf->G6
open Go.Proofs.Lays8 renaming n4->zY
open Go.Proofs.Tryz renaming prog->aE,underlying3->dL,sizeOf3->iB,isAgg3->jG,underlying9->jN,sizeOf9->oJ,isAgg9->pY,underlying169->pq
open Go.RowKit renaming intOf->aK,Hid->bK
open Go.RowKit.Below renaming refl->aL
open Go.Shelf renaming Ren->iK
open Go.Value renaming string->aA,int->aC,slice->aD,bool->aV,pointer->aY,agg->cF,tuple->cK,oneCell'->kA
open Go.World renaming block_lt_of_cell?->bB,size_alloc->bH,putObj_heap_other->dH,alloc_heap_new->jR,putObj_heap_same->nW,cell?_of_block->We
open Go.World.ownsRow renaming cellAt->dZ
open _root_.Int renaming add_zero->lJ,mul_nonneg->nE,mul_le_mul->vO
open _root_.List renaming getD_eq_getElem?_getD->aG,getElem?_cons_zero->aI,getElem?_toArray->aJ,setIfInBounds_toArray->aM,getElem_cons_succ->aR,getElem_cons_zero->aS,set_cons_zero->aT,set_cons_succ->aW,getElem_toArray->aX,length_map->aZ,getElem?_cons_succ->bC,length_cons->bD,length_append->bO,length_nil->bV,size_toArray->cD,append_toArray->cH,cons_append->cJ,take_succ_eq_append_getElem->cN,push_toArray->cR,range->dD,nil_append->dF,mem_singleton->eJ,take_of_length_le->eM,map_append->eV,length_drop->eZ,length_take->fU,getElem?_append_right->gA,mem_append_left->iL,flatMap_append->lK,mem_append->nG,getD_cons_succ->nR,mem_append_right->vP,reverse_cons->Js,length_reverse->bm
open _root_.Nat renaming le_refl->aH,le_trans->aU,zero_le->bM,mod_eq_of_lt->bY,zero_add->cC,mod_lt->dB,reduceAdd->dQ,reduceSub->dR,lt_or_ge->fP,lt_of_le_of_lt->jZ,add_mod_right->pL,mul_le_mul_right->pX,not_lt_zero->NF,succ_mul->PW
open _root_.Option.some renaming inj->eG,injEq->vY
open _root_.Prod.mk renaming injEq->KG
open _root_.Rat renaming intCast_mul->lX
section
open Go Go.RowKit Go.Shelf Go.Lib
section
attribute[local go_sem] gM
abbrev Gw(up:Bool)(co dir:Int)(S T:ByteArray):Array aP:= #[aV up,aC aB co,aC aB dir,aA S,aA T]
theorem OQ(f g:FQ):(iP f g).length≤5:=by
 unfold iP;by_cases a:f.vel≠0<;>by_cases b:g.vel≠0<;>by_cases c:f.vel≠g.vel<;>simp[a,b,c]
def uM(f g:FQ)(k:Nat)(L:List Rat):Prop:=L.length≤k∧∀z,z∈L↔z∈(iP f g).take k∧kG f g z
theorem uM.no{f g:FQ}{k:Nat}{L:List Rat}(h:uM f g k L)(hk:k<(iP f g).length)(hn:¬kG f g ((iP f g).getD k 0)):uM f g (k+1) L:=by
 refine⟨by have:=h.1;omega,fun z=>?_⟩;rw[h.2,cN hk,nG,eJ];rw[show(iP f g).getD k 0=(iP f g)[k] by simp[aG,hk]]at hn;constructor
 ·rintro⟨a,b⟩;exact⟨.inl a,b⟩
 ·rintro⟨a|rfl,b⟩
  ·exact⟨a,b⟩
  ·exact absurd b hn
theorem uM.yes{f g:FQ}{k:Nat}{L:List Rat}(h:uM f g k L)(hk:k<(iP f g).length)(hn:kG f g ((iP f g).getD k 0)):uM f g (k+1) (L++[(iP f g).getD k 0]):=by
 refine⟨by rw[bO];have:=h.1;simp;omega,fun z=>?_⟩;rw[cN hk,nG,nG,eJ,eJ,h.2];rw[show(iP f g).getD k 0=(iP f g)[k] by simp[aG,hk]]at hn⊢;constructor
 ·rintro(⟨a,b⟩|rfl)
  ·exact⟨.inl a,b⟩
  ·exact⟨.inr rfl,hn⟩
 ·rintro⟨a|rfl,b⟩
  ·exact .inl ⟨a,b⟩
  ·exact .inr rfl
theorem uM.all{f g:FQ}{L:List Rat}(h:uM f g (iP f g).length L):∀z,z∈L↔kG f g z:=fun z=>by
 rw[h.2,List.take_length]
 exact⟨fun h=>h.2,fun h=>⟨OC h,h⟩⟩
theorem TL(F G:Array aP)(a1 a2 a3 a4 a5 b1 b2 b3 b4 b5:aP)(hF:F= #[a1,a2,a3,a4,a5])(hG:G= #[b1,b2,b3,b4,b5])(w:aF):
 bE aE 145 #[cF F,cF G] w fun e w'=>e=bA (.func (.func 191) #[] #[aY (some ⟨w.heap.size,0,none⟩),aY (some ⟨w.heap.size+1,0,none⟩)])∧w'=(w.alloc (aN F 58)).alloc (aN G 58):=by
 subst hF hG;go_enter func145,ntmps145;go_wp2;go_ret;exact⟨rfl,rfl⟩
theorem fl{F:Fence}{m:Nat}{w:aF}{cM:Array fX}{rest:List fX}{o:fX}{a:mI}{Q:A5→mI→aF→Prop}(FN:o.guard=none)(s x:tE)
 (ho:o.op=.call {callee:=.builtin .append,args:= #[s,x],argTypes:= #[62,62]})(cL:Nat)
 (v:aP)(n:Nat)(xs:List aP)(hs:a.eval s=v)(dI:w.ownsRow cL 34 1 v n xs)
 (y:ByteArray)(hx:a.eval x=aD (some ⟨w.heap.size,0,none⟩) 1 1)
 (Np:n+1≤2147483648)(jH:cL≤w.heap.size)
 (h:∀g cap w',w'.ownsRow cL 34 1 (aD (some ⟨g,0,none⟩) (n+1) cap) (n+1) (xs++[aA y])→cL≤g→w.grownBy w' v.ownBlock→
  wpListIn F m aE cM Q rest (a.put o.dst (aD (some ⟨g,0,none⟩) (n+1) cap)) w'):
 wpListIn F m aE cM Q (o::rest) a (w.alloc (aN #[aA y] 34)):=by
 obtain⟨i0,hi,yH,zB,sS⟩:=lI CE;refine wpListIn_append_own _ FN s x 62 ho cL 34 i0 (aA ⟨#[]⟩) 1 16 underlying62 hi yH zB sS rfl (by decide) v n xs hs (dI.alloc _) ⟨w.heap.size,0,none⟩ 1 1 [aA y] hx rfl (Is w [aA y] 34) (by simp[kA])
  (by simp only[Cm];omega) (by omega) (by simp;omega) ?_
 intro v' w' lL hg Iu;obtain⟨g',FO,rfl⟩:=It lL;exact h g' FO w' lL (kU lL).1 (zA (World.grownBy_alloc w _ none) hg)
theorem mG{fn:Func}{p q:Tmp}(h:fn.results= #[.tmp p,.tmp q])(tmps:Array aP)(w:aF):(results fn tmps).run aE w=.ok (cK #[tmps.getD p undef,tmps.getD q undef]) w:=by
 simp[results,h,go_sem]
theorem fw{f g:FQ}{z:Rat}(h:kG f g z):z∈iP f g:=OC h
theorem Xa{w:aF}{cL e size n cap k:Nat}{a:Option cO}{xs:List aP}(h:w.ownsRow cL e size (aD a n cap) k xs):(a=none∧n=0∧cap=0)∨∃g,a=some ⟨g,0,none⟩:=by
 rcases h.2 with⟨h1,_⟩|⟨g,c,oL,hv,_⟩
 ·cases h1;exact .inl ⟨rfl,rfl,rfl⟩
 ·cases hv;exact .inr ⟨g,rfl⟩
theorem OR{w:aF}{cL e size n:Nat}{v:aP}{xs:List aP}(h:w.ownsRow cL e size v n xs){j:Nat}{o:Obj}(hj:v.ownBlock=some j)(ho:w.heap[j]? =some o):o.isCells=true:=by
 rcases h.2 with⟨h1,_⟩|⟨g,c,oL,hv,_,hg,_⟩
 ·rw[h1]at hj;cases hj
 ·rw[hv]at hj;simp only[Value.ownBlock,vY]at hj;subst hj;rw[hg]at ho;cases ho;rfl
theorem Xb(w:aF):bE aE 220 #[aC .u64 0] w fun e w'=>(∃c:Int,e=bA (aC aB c))∧w=w':=by
 go_enter func220,ntmps220;go_wp2;go_ret;exact⟨⟨_,rfl⟩,rfl⟩
theorem ze(w:aF):bE aE 166 #[aC .u64 0] w fun e w'=>(∃c:Int,e=bA (aC aB c))∧w=w':=by
 have H:=zq (Xb w);go_enter func166,ntmps166;go_wp2_with fail
 refine H.out.mono ?_;rintro e w'⟨⟨c,rfl⟩,rfl⟩;go_wp2;go_ret;exact⟨⟨_,rfl⟩,rfl⟩
theorem ins_nil(f:aP)(w:aF):bE aE 211 #[aD none 0 0,aC aB 0,aC aB 0,f] w fun e w'=>(∃v,e=bA v)∧w=w':=by
 go_enter func211,ntmps211;go_wp2;go_loop [8] (fun i=>i=aC aB 1) (fun _=>0);case atStart=>rfl
 case round=>
  subst hrel;go_wp2;go_end0;exact⟨⟨_,rfl⟩,rfl⟩
theorem pdq_nil(c:Int)(f:aP)(w:aF):bE aE 165 #[aD none 0 0,aC aB 0,aC aB 0,aC aB c,f] w fun e w'=>(∃v,e=bA v)∧w=w':=by
 have H:=zq (ins_nil f w);go_enter func165,ntmps165;go_wp2;go_loop [1,2] (fun a b=>a=aC aB 0∧b=aC aB 0) (fun _ _=>0);case atStart=>exact⟨rfl,rfl⟩
 case round=>
  obtain⟨rfl,rfl⟩:=hrel;go_wp2_with fail
  refine H.out.mono ?_;rintro e w'⟨⟨v,rfl⟩,rfl⟩;go_wp2;refine dU (Do rfl _ _ _) rfl ?_;exact⟨⟨_,rfl⟩,rfl⟩
theorem zf(w:aF):bE aE 101 #[aD none 0 0,.func (.func 110) #[] #[]] w fun e w'=>(∃v,e=bA v)∧w=w':=by
 have H:=zq (fun c=>pdq_nil c (.func (.func 110) #[] #[]) w);have HL:=zq (ze w);go_enter func101,ntmps101;go_wp2_with fail
 refine HL.out.mono ?_;rintro e w'⟨⟨c,rfl⟩,rfl⟩;go_wp2_with fail
 refine(H.out _).mono ?_;rintro e w'⟨⟨v,rfl⟩,rfl⟩;go_wp2;go_end0;exact⟨⟨_,rfl⟩,rfl⟩
theorem TM(w:aF):bE aE 102 #[aD none 0 0] w fun e w'=>e=bA (aD none 0 0)∧w=w':=by
 go_enter func102,ntmps102;go_wp2;go_ret;exact⟨rfl,rfl⟩
def Zq(O cL:Nat)(f g:FQ)(k:Nat)(W:aF):Prop:=
 cL≤W.heap.size∧∃(a:Option cO)(n cap:Nat)(L:List Rat),bT W O #[aD a n cap] 62∧W.ownsRow cL 34 1 (aD a n cap) n (dK (L.map bG))∧L.length=n∧uM f g k L
theorem Zq.own{O cL:Nat}{f g:FQ}{k:Nat}{A B:aF}{row:Option Nat}(h:Zq O cL f g k A)(hg:A.grownBy B row)(hr:∀r,row=some r→∃o:Obj,A.heap[r]? =some o∧o.isCells=false):Zq O cL f g k B:=by
 obtain⟨h0,a,n,cap,L,h1,h2,h3,h4⟩:=h;exact⟨aU h0 hg.size,a,n,cap,L,h1.own hg hr,kV h2 hg hr,h3,h4⟩
theorem JM(f g:FQ)(hf:f.Good)(hg:g.Good)(hup:f.up=g.up)(w:aF)(hE:mN w):
 bE aE 74 #[f.fr.v,g.fr.v] w fun e w'=>(∃(a:Option cO)(n cap:Nat)(L:List Rat),e=bA (cK #[aD a n cap,aC aB 0])∧L.length=n∧n≤5∧KO w' a (dK (L.map bG))∧(∀z,z∈L↔kG f g z)∧(∀z∈L,Ce z)∧∀p,a=some p→w.heap.size≤p.block)∧Below w.heap.size w w':=by
 have HCf:=zq (fun(W:aF)(h:Below w.heap.size w W)=>Ap f hf W (hE.below h))
 have HCg:=zq (fun(W:aF)(h:Below w.heap.size w W)=>Ap g hg W (hE.below h))
 have HPf:=zq (fun(z:Rat)(hz:Ce z)(W:aF)(h:Below w.heap.size w W)=>CD f hf z hz W (hE.below h))
 have HPg:=zq (fun(z:Rat)(hz:Ce z)(W:aF)(h:Below w.heap.size w W)=>CD g hg z hz W (hE.below h))
 have HVf:=zq (fun(z:Rat)(hz:Ce z)(W:aF)(h:Below w.heap.size w W)=>En f hf z hz W (hE.below h))
 have HVg:=zq (fun(z:Rat)(hz:Ce z)(W:aF)(h:Below w.heap.size w W)=>En g hg z hz W (hE.below h))
 have qu:=zq (fun(W:aF)(h:Below w.heap.size w W)=>hE.below h)
 have HHQ:=zq (fe hf hg)
 have Hf:=zq hf
 have Hg:=zq hg
 have evf:f.fr.v=cF (Gw f.up f.co f.dir (bs (bG f.v)) (bs (bG f.t))):=rfl
 have evg:g.fr.v=cF (Gw g.up g.co g.dir (bs (bG g.v)) (bs (bG g.t))):=rfl
 rw[evf]at HCf HPf HVf⊢
 rw[evg,←hup]at HCg HPg HVg⊢
 have fE:Below w.heap.size w ((w.alloc (aN (Gw f.up f.co f.dir (bs (bG f.v)) (bs (bG f.t))) 58)).alloc (aN (Gw f.up g.co g.dir (bs (bG g.v)) (bs (bG g.t))) 58)):=((aL _ w).alloc (aH _) _).alloc (by simp) _
 have q1:bT ((w.alloc (aN (Gw f.up f.co f.dir (bs (bG f.v)) (bs (bG f.t))) 58)).alloc (aN (Gw f.up g.co g.dir (bs (bG g.v)) (bs (bG g.t))) 58)) w.heap.size (Gw f.up f.co f.dir (bs (bG f.v)) (bs (bG f.t))) 58:=(bT.new w _ _).alloc _
 have q2:bT ((w.alloc (aN (Gw f.up f.co f.dir (bs (bG f.v)) (bs (bG f.t))) 58)).alloc (aN (Gw f.up g.co g.dir (bs (bG g.v)) (bs (bG g.t))) 58)) (w.heap.size+1) (Gw f.up g.co g.dir (bs (bG g.v)) (bs (bG g.t))) 58:=by
  have:=bT.new (w.alloc (aN (Gw f.up f.co f.dir (bs (bG f.v)) (bs (bG f.t))) 58)) (Gw f.up g.co g.dir (bs (bG g.v)) (bs (bG g.t))) 58
  rwa[bH]at this
 have yt:bK (∀W,bT W w.heap.size (Gw f.up f.co f.dir (bs (bG f.v)) (bs (bG f.t))) 58→bT W w.heap.size f.fr.cells 58):=fun W h=>h
 have hgup:g.up=f.up:=hup.symm
 have HMS:bK (∀B1 B2 W,Below w.heap.size w W→B1<W.heap.size→B2<W.heap.size→bT W B1 (Gw f.up f.co f.dir (bs (bG f.v)) (bs (bG f.t))) 58→bT W B2 (Gw f.up g.co g.dir (bs (bG g.v)) (bs (bG g.t))) 58→
  Qc eP 8 aE 191 #[aY (some ⟨B1,0,none⟩),aY (some ⟨B2,0,none⟩)] (fun k=> #[aA (bs (bG (LN f g k)))]) (mO w.heap.size B1 B2) (iP f g).length W):=fun B1 B2 W h h1 h2 k1 k2=>
  yq B1 B2 w.heap.size f g hf hg W h.size h1 h2 (fun V hV=>hE.below (h.trans hV)) k1 (by rw[hup]at k2;exact k2)
 clear evf evg hf hg hE hup hgup yt
 unfold Gw at *
 generalize f.up=up at *
 generalize bs (bG f.v)=S1 at *
 generalize bs (bG f.t)=T1 at *
 generalize bs (bG g.v)=S2 at *
 generalize bs (bG g.t)=T2 at *
 refine dM func74 rfl ?_
 simp only[ntmps74,cD,bD,bV,dQ,dR,cA,cB,cR,cH,dF,cJ]
 go_wp2_with fail
 refine(HCf.out _ fE).mono ?_
 rintro e W1⟨rfl,hb1⟩
 have FD:=cI fE hb1 fE.size
 have q1:=q1.below hb1 q1.lt
 have q2:=q2.below hb1 q2.lt
 clear hb1 fE
 obtain⟨d0,d1,d2,d3,d4⟩:=q2.front
 have l2:=q2.lt
 go_wp2_with fail
 refine(HCg.out _ FD).mono ?_
 rintro e W2⟨rfl,hb2⟩
 have lM:=cI FD hb2 FD.size
 have q1:=q1.below hb2 q1.lt
 have q2:=q2.below hb2 q2.lt
 clear hb2 FD d0 d1 d2 d3 d4 l2
 obtain⟨c0,c1,c2,c3,c4⟩:=q1.front
 obtain⟨d0,d1,d2,d3,d4⟩:=q2.front
 have l1:=q1.lt
 have l2:=q2.lt
 have Q1:=zq q1
 have Q2:=zq q2
 have eT:=zq lM
 clear q1 q2 lM
 go_wp2_with fail
 refine(TL _ _ _ _ _ _ _ _ _ _ _ _ rfl rfl _).mono ?_
 rintro e w'⟨rfl,rfl⟩
 go_wp2_with fail
 obtain⟨W0,eY⟩:∃W0,((W2.alloc (aN #[aD none 0 0] 62)).alloc (aN #[aV up,aC aB f.co,aC aB f.dir,aA S1,aA T1] 58)).alloc (aN #[aV up,aC aB g.co,aC aB g.dir,aA S2,aA T2] 58)=W0:=⟨_,rfl⟩
 have F0:bT W0 w.heap.size #[aV up,aC aB f.co,aC aB f.dir,aA S1,aA T1] 58:=by rw[←eY];exact((Q1.out.alloc _).alloc _).alloc _
 have G0:bT W0 (w.heap.size+1) #[aV up,aC aB g.co,aC aB g.dir,aA S2,aA T2] 58:=by rw[←eY];exact((Q2.out.alloc _).alloc _).alloc _
 have O0:bT W0 W2.heap.size #[aD none 0 0] 62:=by rw[←eY];exact((bT.new W2 _ _).alloc _).alloc _
 have M1:bT W0 (W2.heap.size+1) #[aV up,aC aB f.co,aC aB f.dir,aA S1,aA T1] 58:=by
  rw[←eY]
  have:=(bT.new (W2.alloc (aN #[aD none 0 0] 62)) #[aV up,aC aB f.co,aC aB f.dir,aA S1,aA T1] 58).alloc (aN #[aV up,aC aB g.co,aC aB g.dir,aA S2,aA T2] 58)
  rwa[bH]at this
 have M2:bT W0 (W2.heap.size+1+1) #[aV up,aC aB g.co,aC aB g.dir,aA S2,aA T2] 58:=by
  rw[←eY]
  have:=bT.new ((W2.alloc (aN #[aD none 0 0] 62)).alloc (aN #[aV up,aC aB f.co,aC aB f.dir,aA S1,aA T1] 58)) #[aV up,aC aB g.co,aC aB g.dir,aA S2,aA T2] 58
  rwa[bH,bH]at this
 have Zf:W0.heap.size=W2.heap.size+3:=by rw[←eY];simp
 have fE:Below w.heap.size w W0:=by rw[←eY];exact((eT.out.alloc eT.out.size _).alloc (by simp;omega) _).alloc (by simp;omega) _
 rw[eY]
 clear eY Q1 Q2 eT c0 c1 c2 c3 c4 d0 d1 d2 d3 d4 l1
 have IL:w.heap.size+1<W2.heap.size:=l2
 clear l2
 generalize W2.heap.size=O at *
 have hs0':O+3≤W0.heap.size:=by omega
 clear Zf
 refine Ll (gf:=191) (lb:= #[aY (some ⟨O+1,0,none⟩),aY (some ⟨O+1+1,0,none⟩)]) rfl (enters_of func191 (by kernel_rfl) rfl)
  (HMS.out (O+1) (O+1+1) W0 fE (by omega) (by omega) M1 M2)
  mO.trans (fun W l o o' hl h ho _=>⟨iH (by omega) h,fun k hk=>dH (by rcases hk with rfl|rfl<;>omega)⟩) (fun _=>rfl)
  (fun k W=>(Zq O W0.heap.size f g k W∧bT W w.heap.size #[aV up,aC aB f.co,aC aB f.dir,aA S1,aA T1] 58∧bT W (w.heap.size+1) #[aV up,aC aB g.co,aC aB g.dir,aA S2,aA T2] 58)∧Below w.heap.size w W)
  (fun _ _ _=>False)
  (eO (Own.from (fun s A B row hs hg hr=>⟨hs.1.own hg hr,hs.2.1.own hg hr,hs.2.2.own hg hr⟩) _) (ownFrom_below (aH _) (by omega)))
  (fun c s A B row hs _ _=>hs)
  ⟨⟨⟨aH _,none,0,0,[],O0,⟨rfl,.inl ⟨rfl,rfl⟩⟩,rfl,aH _,fun z=>by simp⟩,F0,G0⟩,fE⟩
  ?frm ?assign ?body ?done ?stop
 case assign=>
  intro l k W K hK
  gi_wp2
  exact hK
 case body=>
  rintro l k W hk⟨⟨hI,b1,b2⟩,hB⟩
  have hz:=HHQ.out _ (bU hk 0)
  have HNo:bK (∀L,uM f g k L→¬kG f g ((iP f g).getD k 0)→uM f g (k+1) L):=fun L h hn=>h.no hk hn
  have HYes:bK (∀L,uM f g k L→kG f g ((iP f g).getD k 0)→uM f g (k+1) (L++[(iP f g).getD k 0])):=fun L h hn=>h.yes hk hn
  have hk5:k<5:=Nat.lt_of_lt_of_le hk (OQ f g)
  have HNo:bK (∀L,uM f g k L→¬kG f g (LN f g k)→uM f g (k+1) L):=HNo
  have HYes:bK (∀L,uM f g k L→kG f g (LN f g k)→uM f g (k+1) (L++[LN f g k])):=HYes
  have hz:Ce (LN f g k):=hz
  generalize LN f g k=z at *
  have HP1:=zq (HPf.out z hz)
  have HP2:=zq (HPg.out z hz)
  have OM:=zq (HVf.out z hz)
  have NU:=zq (HVg.out z hz)
  have HMt:bK (kG f g z↔f.pos z=g.pos z∧(f.low z≠g.low z∨f.high z≠g.high z)):=Iff.rfl
  have e1:=zq (TA (f.pos z) (g.pos z))
  have e2:=zq (TA (f.low z) (g.low z))
  have e3:=zq (TA (f.high z) (g.high z))
  obtain⟨ZT,hZT⟩:∃ZT,bs (bG z)=ZT:=⟨_,rfl⟩
  rw[hZT]at HP1 HP2 OM NU
  rw[hZT]
  have HZT:=zq hZT
  clear hZT HPf HPg HVf HVg hz HHQ hk
  generalize bs (bG (f.pos z))=PF at *
  generalize bs (bG (g.pos z))=PG at *
  generalize bs (bG (f.low z))=LF at *
  generalize bs (bG (g.low z))=LG at *
  generalize bs (bG (f.high z))=UF at *
  generalize bs (bG (g.high z))=UG at *
  have B1:=zq b1
  have B2:=zq b2
  have HB:=zq hB
  have HI:=zq hI
  clear b1 b2 hB hI F0 G0 O0 M1 M2
  obtain⟨c0,c1,c2,c3,c4⟩:=B1.out.front
  have l1:=B1.out.lt
  gi_wp2_with fail
  refine⟨trivial,(Calls.round (OM.out _ HB.out) _ _).mono ?_⟩
  rintro e W1⟨rfl,hb1⟩
  have eC:=zq (aQ HB.out hb1)
  have Sj:=zq hb1
  have B1a:=zq (B1.out.below hb1 B1.out.lt)
  have B2a:=zq (B2.out.below hb1 B2.out.lt)
  clear c0 c1 c2 c3 c4 l1 hb1 OM
  obtain⟨c0,c1,c2,c3,c4⟩:=B2a.out.front
  have l1:=B2a.out.lt
  gi_wp2_with fail
  refine⟨trivial,(Calls.round (NU.out _ eC.out) _ _).mono ?_⟩
  rintro e W2⟨rfl,hb2⟩
  have eT:=zq (aQ eC.out hb2)
  have NX:=zq (aQ Sj.out hb2)
  have B1b:=zq (B1a.out.below hb2 B1a.out.lt)
  have B2b:=zq (B2a.out.below hb2 B2a.out.lt)
  clear c0 c1 c2 c3 c4 l1 hb2 NU eC Sj B1a B2a
  obtain⟨c0,c1,c2,c3,c4⟩:=B1b.out.front
  obtain⟨d0,d1,d2,d3,d4⟩:=B2b.out.front
  have l1:=B1b.out.lt
  have l2:=B2b.out.lt
  gi_wp2
  gi_cut [57]from 29 (fun v V=>(∃r:Bool,v=aV r∧bK (r=true↔kG f g z))∧bK (Below W2.heap.size W2 V))
  case first =>
   by_cases g1:f.pos z=g.pos z
   case neg=>
    have WW:(PF.toList==PG.toList)=false:=by rw[e1.out];exact decide_eq_false g1
    have R:bK (¬kG f g z):=fun h=>g1 (HMt.out.1 h).1
    clear g1
    refine rY (S:=(fun w'=>(w'.cell? ⟨w.heap.size,0,none⟩=some (aV up)∧w'.cell? ⟨w.heap.size,1,none⟩=some (aC aB f.co)∧w'.cell? ⟨w.heap.size,2,none⟩=some (aC aB f.dir)∧w'.cell? ⟨w.heap.size,3,none⟩=some (aA S1)∧w'.cell? ⟨w.heap.size,4,none⟩=some (aA T1))∧(w'.cell? ⟨w.heap.size+1,0,none⟩=some (aV up)∧w'.cell? ⟨w.heap.size+1,1,none⟩=some (aC aB g.co)∧w'.cell? ⟨w.heap.size+1,2,none⟩=some (aC aB g.dir)∧w'.cell? ⟨w.heap.size+1,3,none⟩=some (aA S2)∧w'.cell? ⟨w.heap.size+1,4,none⟩=some (aA T2)))) (by kernel_rfl) (by kernel_rfl) ?_ (fun jP=>?_)
    ·(try dsimp only);go_keep
    refine tH 0 rfl ?_
    refine tH 1 rfl ?_
    refine tH 3 rfl ?_
    refine tH 4 rfl ?_
    try simp only[cS,aX,aR,aS,aM,aT,aW]
    refine fC (rs:=[2]) (by kernel_rfl) (by simp) ?_
    refine dJ rfl (fun K hK=>?_) dX
    go_simp
    (with_reducible refine(HP1.out _ eT.out.drew).mono ?_)
    rintro e v1⟨rfl,CI⟩
    have OM:=zq (aQ (aL _ W2).drew CI)
    have:=ck CI w.heap.size 0 (aV up);have:=ck CI w.heap.size 1 (aC aB f.co);have:=ck CI w.heap.size 2 (aC aB f.dir);have:=ck CI w.heap.size 3 (aA S1);have:=ck CI w.heap.size 4 (aA T1);have:=ck CI (w.heap.size+1) 0 (aV up);have:=ck CI (w.heap.size+1) 1 (aC aB g.co);have:=ck CI (w.heap.size+1) 2 (aC aB g.dir);have:=ck CI (w.heap.size+1) 3 (aA S2);have:=ck CI (w.heap.size+1) 4 (aA T2)
    show K _ _
    refine hK.out _ _ ?_ (fun jP=>?_)
    ·(try dsimp only);go_keep
    clear hK K
    try simp only[cS,aX,aR,aS,aM,aT,aW]
    refine fC (rs:=[5]) (by kernel_rfl) (by simp) ?_
    refine dJ rfl (fun K hK=>?_) dX
    go_simp
    (with_reducible refine(HP2.out _ (aQ eT.out OM.out)).mono ?_)
    rintro e v2⟨rfl,CJ⟩
    have NU:=zq (aQ OM.out CJ)
    have:=ck CJ w.heap.size 0 (aV up);have:=ck CJ w.heap.size 1 (aC aB f.co);have:=ck CJ w.heap.size 2 (aC aB f.dir);have:=ck CJ w.heap.size 3 (aA S1);have:=ck CJ w.heap.size 4 (aA T1);have:=ck CJ (w.heap.size+1) 0 (aV up);have:=ck CJ (w.heap.size+1) 1 (aC aB g.co);have:=ck CJ (w.heap.size+1) 2 (aC aB g.dir);have:=ck CJ (w.heap.size+1) 3 (aA S2);have:=ck CJ (w.heap.size+1) 4 (aA T2)
    show K _ _
    refine hK.out _ _ ?_ (fun jP=>?_)
    ·(try dsimp only);go_keep
    clear hK K
    refine tH 6 rfl ?_
    refine tH 7 rfl ?_
    refine sH 8 rfl ?_
    refine sH 9 rfl ?_
    refine sH 10 rfl ?_
    refine sH 11 rfl ?_
    refine sH 12 rfl ?_
    refine sH 13 rfl ?_
    refine sH 14 rfl ?_
    refine sH 15 rfl ?_
    refine tH 16 rfl ?_
    try simp only[cS,aX,aR,aS,aM,aT,aW]
    refine EI (by kernel_rfl) ?_ _
    refine iM.normal ?_
    gi_wp2
    gi_meet
    case rel=>exact⟨⟨false,rfl,⟨fun h=>(by cases h),fun h=>absurd h R.out⟩⟩,NU.out⟩
   have WW:(PF.toList==PG.toList)=true:=by rw[e1.out];exact decide_eq_true g1
   by_cases g2:f.low z=g.low z
   case neg=>
    have hvb2:(LF.toList==LG.toList)=false:=by rw[e2.out];exact decide_eq_false g2
    have R:bK (kG f g z):=HMt.out.2 ⟨g1,.inl g2⟩
    clear g1 g2
    refine rY (S:=(fun w'=>(w'.cell? ⟨w.heap.size,0,none⟩=some (aV up)∧w'.cell? ⟨w.heap.size,1,none⟩=some (aC aB f.co)∧w'.cell? ⟨w.heap.size,2,none⟩=some (aC aB f.dir)∧w'.cell? ⟨w.heap.size,3,none⟩=some (aA S1)∧w'.cell? ⟨w.heap.size,4,none⟩=some (aA T1))∧(w'.cell? ⟨w.heap.size+1,0,none⟩=some (aV up)∧w'.cell? ⟨w.heap.size+1,1,none⟩=some (aC aB g.co)∧w'.cell? ⟨w.heap.size+1,2,none⟩=some (aC aB g.dir)∧w'.cell? ⟨w.heap.size+1,3,none⟩=some (aA S2)∧w'.cell? ⟨w.heap.size+1,4,none⟩=some (aA T2)))) (by kernel_rfl) (by kernel_rfl) ?_ (fun jP=>?_)
    ·(try dsimp only);go_keep
    refine tH 0 rfl ?_
    refine tH 1 rfl ?_
    refine tH 3 rfl ?_
    refine tH 4 rfl ?_
    try simp only[cS,aX,aR,aS,aM,aT,aW]
    refine fC (rs:=[2]) (by kernel_rfl) (by simp) ?_
    refine dJ rfl (fun K hK=>?_) dX
    go_simp
    (with_reducible refine(HP1.out _ eT.out.drew).mono ?_)
    rintro e v1⟨rfl,CI⟩
    have OM:=zq (aQ (aL _ W2).drew CI)
    have:=ck CI w.heap.size 0 (aV up);have:=ck CI w.heap.size 1 (aC aB f.co);have:=ck CI w.heap.size 2 (aC aB f.dir);have:=ck CI w.heap.size 3 (aA S1);have:=ck CI w.heap.size 4 (aA T1);have:=ck CI (w.heap.size+1) 0 (aV up);have:=ck CI (w.heap.size+1) 1 (aC aB g.co);have:=ck CI (w.heap.size+1) 2 (aC aB g.dir);have:=ck CI (w.heap.size+1) 3 (aA S2);have:=ck CI (w.heap.size+1) 4 (aA T2)
    show K _ _
    refine hK.out _ _ ?_ (fun jP=>?_)
    ·(try dsimp only);go_keep
    clear hK K
    try simp only[cS,aX,aR,aS,aM,aT,aW]
    refine fC (rs:=[5]) (by kernel_rfl) (by simp) ?_
    refine dJ rfl (fun K hK=>?_) dX
    go_simp
    (with_reducible refine(HP2.out _ (aQ eT.out OM.out)).mono ?_)
    rintro e v2⟨rfl,CJ⟩
    have NU:=zq (aQ OM.out CJ)
    have:=ck CJ w.heap.size 0 (aV up);have:=ck CJ w.heap.size 1 (aC aB f.co);have:=ck CJ w.heap.size 2 (aC aB f.dir);have:=ck CJ w.heap.size 3 (aA S1);have:=ck CJ w.heap.size 4 (aA T1);have:=ck CJ (w.heap.size+1) 0 (aV up);have:=ck CJ (w.heap.size+1) 1 (aC aB g.co);have:=ck CJ (w.heap.size+1) 2 (aC aB g.dir);have:=ck CJ (w.heap.size+1) 3 (aA S2);have:=ck CJ (w.heap.size+1) 4 (aA T2)
    show K _ _
    refine hK.out _ _ ?_ (fun jP=>?_)
    ·(try dsimp only);go_keep
    clear hK K
    refine tH 6 rfl ?_
    refine tH 7 rfl ?_
    refine tH 8 rfl ?_
    refine tH 9 rfl ?_
    refine tH 10 rfl ?_
    refine tH 11 rfl ?_
    refine sH 12 rfl ?_
    refine sH 13 rfl ?_
    refine sH 14 rfl ?_
    refine tH 15 rfl ?_
    refine tH 16 rfl ?_
    try simp only[cS,aX,aR,aS,aM,aT,aW]
    refine EI (by kernel_rfl) ?_ _
    refine iM.normal ?_
    gi_wp2
    gi_meet
    case rel=>exact⟨⟨true,rfl,⟨fun _=>R.out,fun _=>rfl⟩⟩,NU.out⟩
   have hvb2:(LF.toList==LG.toList)=true:=by rw[e2.out];exact decide_eq_true g2
   have R:bK ((!decide (f.high z=g.high z))=true↔kG f g z):=by
    show _↔_
    rw[HMt.out,Bool.not_eq_true',decide_eq_false_iff_not]
    exact⟨fun h=>⟨g1,.inr h⟩,fun h=>h.2.resolve_left (fun k=>k g2)⟩
   have hvb3:=e3.out
   obtain⟨r3,hr3⟩:∃r,decide (f.high z=g.high z)=r:=⟨_,rfl⟩
   rw[hr3]at R hvb3
   clear g1 g2 hr3
   refine rY (S:=(fun w'=>(w'.cell? ⟨w.heap.size,0,none⟩=some (aV up)∧w'.cell? ⟨w.heap.size,1,none⟩=some (aC aB f.co)∧w'.cell? ⟨w.heap.size,2,none⟩=some (aC aB f.dir)∧w'.cell? ⟨w.heap.size,3,none⟩=some (aA S1)∧w'.cell? ⟨w.heap.size,4,none⟩=some (aA T1))∧(w'.cell? ⟨w.heap.size+1,0,none⟩=some (aV up)∧w'.cell? ⟨w.heap.size+1,1,none⟩=some (aC aB g.co)∧w'.cell? ⟨w.heap.size+1,2,none⟩=some (aC aB g.dir)∧w'.cell? ⟨w.heap.size+1,3,none⟩=some (aA S2)∧w'.cell? ⟨w.heap.size+1,4,none⟩=some (aA T2)))) (by kernel_rfl) (by kernel_rfl) ?_ (fun jP=>?_)
   ·(try dsimp only);go_keep
   refine tH 0 rfl ?_
   refine tH 1 rfl ?_
   refine tH 3 rfl ?_
   refine tH 4 rfl ?_
   try simp only[cS,aX,aR,aS,aM,aT,aW]
   refine fC (rs:=[2]) (by kernel_rfl) (by simp) ?_
   refine dJ rfl (fun K hK=>?_) dX
   go_simp
   (with_reducible refine(HP1.out _ eT.out.drew).mono ?_)
   rintro e v1⟨rfl,CI⟩
   have OM:=zq (aQ (aL _ W2).drew CI)
   have:=ck CI w.heap.size 0 (aV up);have:=ck CI w.heap.size 1 (aC aB f.co);have:=ck CI w.heap.size 2 (aC aB f.dir);have:=ck CI w.heap.size 3 (aA S1);have:=ck CI w.heap.size 4 (aA T1);have:=ck CI (w.heap.size+1) 0 (aV up);have:=ck CI (w.heap.size+1) 1 (aC aB g.co);have:=ck CI (w.heap.size+1) 2 (aC aB g.dir);have:=ck CI (w.heap.size+1) 3 (aA S2);have:=ck CI (w.heap.size+1) 4 (aA T2)
   show K _ _
   refine hK.out _ _ ?_ (fun jP=>?_)
   ·(try dsimp only);go_keep
   clear hK K
   try simp only[cS,aX,aR,aS,aM,aT,aW]
   refine fC (rs:=[5]) (by kernel_rfl) (by simp) ?_
   refine dJ rfl (fun K hK=>?_) dX
   go_simp
   (with_reducible refine(HP2.out _ (aQ eT.out OM.out)).mono ?_)
   rintro e v2⟨rfl,CJ⟩
   have NU:=zq (aQ OM.out CJ)
   have:=ck CJ w.heap.size 0 (aV up);have:=ck CJ w.heap.size 1 (aC aB f.co);have:=ck CJ w.heap.size 2 (aC aB f.dir);have:=ck CJ w.heap.size 3 (aA S1);have:=ck CJ w.heap.size 4 (aA T1);have:=ck CJ (w.heap.size+1) 0 (aV up);have:=ck CJ (w.heap.size+1) 1 (aC aB g.co);have:=ck CJ (w.heap.size+1) 2 (aC aB g.dir);have:=ck CJ (w.heap.size+1) 3 (aA S2);have:=ck CJ (w.heap.size+1) 4 (aA T2)
   show K _ _
   refine hK.out _ _ ?_ (fun jP=>?_)
   ·(try dsimp only);go_keep
   clear hK K
   refine tH 6 rfl ?_
   refine tH 7 rfl ?_
   refine tH 8 rfl ?_
   refine tH 9 rfl ?_
   refine tH 10 rfl ?_
   refine tH 11 rfl ?_
   refine tH 12 rfl ?_
   refine tH 13 rfl ?_
   refine tH 14 rfl ?_
   refine tH 15 rfl ?_
   refine tH 16 rfl ?_
   try simp only[cS,aX,aR,aS,aM,aT,aW]
   refine EI (by kernel_rfl) ?_ _
   refine iM.normal ?_
   gi_wp2
   gi_meet
   case rel=>exact⟨⟨_,by rfl,R.out⟩,NU.out⟩
  case rest=>
  obtain⟨⟨r,rfl,HR⟩,HB3⟩:=hcut
  rename aF=>W3
  have JL:=zq (aQ eT.out HB3.out)
  have HAx:=zq (aQ NX.out HB3.out)
  have B1c:=zq (B1b.out.below HB3.out B1b.out.lt)
  have B2c:=zq (B2b.out.below HB3.out B2b.out.lt)
  clear c0 c1 c2 c3 c4 d0 d1 d2 d3 d4 l1 l2 e1 e2 e3 HMt HP1 HP2 eT NX HB3 B1b B2b
  obtain⟨BX,a,n,cap,L,i1,i2,i3,i4⟩:=HI.out
  have hszW:O+3≤W.heap.size:=by omega
  have hszX:W0.heap.size≤W3.heap.size:=aU BX HAx.out.size
  have O3:=zq (i1.below HAx.out i1.lt)
  have R3:=zq (bJ i2 HAx.out)
  have hn5:n≤5:=by rw[←i3];exact aU i4.1 (by omega)
  have HL:=zq i3
  cases r with
  |false=>
   have hF:=zq (HNo.out L i4 (fun h=>(by have:=HR.out.2 h;cases this)))
   clear i1 i2 i3 i4
   gi_wp2
   exact⟨(fQ HAx.out).from _,mO.call HAx.out HB.out.size (by omega) (by omega),⟨⟨hszX,a,n,cap,L,O3.out,R3.out,HL.out,hF.out⟩,B1c.out,B2c.out⟩,JL.out⟩
  |true=>
   have hF:=zq (HYes.out L i4 (HR.out.1 rfl))
   have dI:=i2
   clear i1 i2 i3 i4
   have dI:=R3.out
   have k0:W3.cell? ⟨O,0,none⟩=some (aD a n cap):=O3.out.cell 0
   have f0:=O3.out.fz 0
   have lO:=O3.out.lt
   have Ib:w.heap.size+1<W0.heap.size:=by omega
   have hbO:O+1+1<W0.heap.size:=by omega
   have zF:∀j,j<W0.heap.size→(aD a n cap).ownBlock≠some j:=fun j hj e=>by have:=(dI.lt j e).1;omega
   have hrowO:=zq (zF O (by omega))
   gi_wp2_with (gi_at_builtin;refine fl rfl _ _ rfl W0.heap.size (aD a n cap) n _ rfl dI ZT rfl (by omega) hszX ?_;intro g5 LR w5 iV Zr oS;have O5:=zq (show bT w5 O #[aD a n cap] 62 from(oS.block O lO (fun e=>hrowO.out e.symm)).trans O3.out);have k5:w5.cell? ⟨O,0,none⟩=some (aD a n cap):=O5.out.cell 0;have f5:=O5.out.fz 0)
   have F5:=zq (show bT w5 w.heap.size #[aV up,aC aB f.co,aC aB f.dir,aA S1,aA T1] 58 from(oS.block _ B1c.out.lt (fun e=>zF _ (by omega) e.symm)).trans B1c.out)
   have G5:=zq (show bT w5 (w.heap.size+1) #[aV up,aC aB g.co,aC aB g.dir,aA S2,aA T2] 58 from(oS.block _ B2c.out.lt (fun e=>zF _ (by omega) e.symm)).trans B2c.out)
   have BW5:=zq (dO JL.out oS dI (by omega) JL.out.size)
   have BA5:=zq (dO (HAx.out.mono HB.out.size) oS dI (by omega) JL.out.size)
   have KO5:=zq ((fQ HAx.out).trans (R7 oS (fun j o hj ho=>OR dI hj ho)))
   have SA5:=zq (show dW (fun k=>k=O+1∨k=O+1+1) W w5 from dW.trans (dW.below HAx.out (by rintro k (rfl|rfl)<;>omega)) (fun k hk=>oS.block k (by rcases hk with rfl|rfl<;>omega) (fun e=>zF k (by rcases hk with rfl|rfl<;>omega) e.symm)))
   have S5:=zq oS.size
   have hg5':O≠g5:=by omega
   have e5:dK (L.map bG)++[aA ZT]=dK ((L++[z]).map bG):=by rw[←HZT.out];simp[dK]
   rw[e5]at iV
   have Hown5:=zq iV
   exact⟨(KO5.out.trans (dG _ _ _)).from _,⟨BA5.out.setCell (by show w.heap.size≤O;omega) _,SA5.out.trans (dW.setCell (by rintro k (rfl|rfl)<;>(show _≠O;omega)) _)⟩,
    ⟨⟨aU hszX (aU S5.out (by simp)),_,n+1,LR,L++[z],O5.out.set 0 _,Hown5.out.kept (grownBy_setCell' _ _ _) (.inr (show some g5≠some O from fun e=>hg5' (eG e).symm)),by rw[bO,HL.out];rfl,hF.out⟩,
     F5.out.other _ (by show w.heap.size≠O;omega),G5.out.other _ (by show w.heap.size+1≠O;omega)⟩,BW5.out.setCell (by show w.heap.size≤O;omega) _⟩
 case done=>
  rintro D W hD⟨⟨hI,b1,b2⟩,hB⟩hK
  obtain⟨BX,a,n,cap,L,i1,i2,i3,i4⟩:=hI
  have hn5:n≤5:=by rw[←i3];exact aU i4.1 (OQ f g)
  have pF:=zq i4.all
  have HHq:=zq (fun z(h:z∈L)=>HHQ.out z (fw (pF.out z|>.1 h)))
  have O1:=zq i1
  have R1:=zq i2
  have HL:=zq i3
  have HB:=zq hB
  have HK:=zq hK
  have k0:W.cell? ⟨O,0,none⟩=some (aD a n cap):=O1.out.cell 0
  have hO:=O1.out.lt
  have jH:w.heap.size≤W0.heap.size:=fE.size
  have zF:∀j,j<W0.heap.size→(aD a n cap).ownBlock≠some j:=fun j hj e=>by have:=(i2.lt j e).1;omega
  clear i1 i2 i3 i4 hB hK b1 b2 F0 G0 O0 M1 M2 HPf HPg HVf HVg
  rcases Xa R1.out with⟨rfl,rfl,rfl⟩|⟨gq,rfl⟩
  ·have HS:=zq (zf W)
   have HC:=zq (TM W)
   go_wp2_with fail
   refine HS.out.mono ?_
   rintro e w'⟨⟨v,rfl⟩,rfl⟩
   go_wp2_with fail
   refine HC.out.mono ?_
   rintro e w'⟨rfl,rfl⟩
   go_wp2
   have hL0:L=[]:=List.length_eq_zero_iff.1 HL.out
   refine⟨by simp,.inl ⟨_,_,rfl,nD HK.out,?_⟩⟩
   refine⟨_,mG Tryz.results74 _ _,?_⟩
   exact⟨⟨none,0,0,[],rfl,rfl,by decide,fun i hi=>absurd hi (by simp[dK]),fun z=>by rw[←pF.out z,hL0],fun z h=>absurd h (by simp),fun p e=>by cases e⟩,HB.out.trans (iH (aU jH hD) HK.out)⟩
  ·have hgq:W0.heap.size≤gq:=by
    rcases fP gq W0.heap.size with h|h
    ·exact absurd rfl (zF gq h)
    ·exact h
   have hDg:D≠gq:=fun e=>by
    have:=OR R1.out (j:=gq) rfl (by rw[←e];exact HK.out)
    cases this
   have HS:=zq (TK 110 (enters_of func110 (by kernel_rfl) rfl) (fun x y W hE hx hy=>by
    have:=Bj _ _ W hE (hx.cr hy)
    rwa[hx.eq,hy.eq,show nH (cT x) (cT y)=(fH x y).1 by rw[hx.cmp hy]]at this) W0.heap.size gq n cap (L.map bG) w W (qu.out w (aL _ _)) HB.out jH (by omega) (by rw[aZ];exact HL.out) (fun t ht=>by
    obtain⟨z,hz,rfl⟩:=List.mem_map.1 ht
    exact(Lz.of (HHq.out z hz)).sm) R1.out)
   have hOg:O≠gq:=by omega
   clear zF R1
   go_wp2_with fail
   refine HS.out.mono ?_
   rintro e W1⟨⟨v,rfl⟩,k3,k4⟩
   have k1:((L.map bG).mergeSort leQ).length=n:=by rw[List.length_mergeSort,aZ];exact HL.out
   have k2:∀z,z∈(L.map bG).mergeSort leQ↔z∈L.map bG:=fun z=>List.mem_mergeSort
   generalize(L.map bG).mergeSort leQ=ds' at *
   have eC:=zq (HB.out.grown k4 HB.out.size (fun k e=>by cases e;exact aU jH hgq))
   have HK1:=zq ((k4.block D (Array.getElem?_eq_some_iff.1 HK.out).1 (fun e=>hDg (by cases e;rfl))).trans HK.out)
   have O2:bT W1 O #[aD (some ⟨gq,0,none⟩) n cap] 62:=(k4.block O hO (fun e=>hOg (by cases e;rfl))).trans O1.out
   have k0:W1.cell? ⟨O,0,none⟩=some (aD (some ⟨gq,0,none⟩) n cap):=O2.cell 0
   have HC:=zq (Qv W0.heap.size gq n cap ds' W1 (by omega) k1 k3)
   have K2:=zq k2
   clear k1 k2 k3 k4 O1 O2 hO HS HK HB
   go_wp2_with fail
   refine HC.out.mono ?_
   rintro e W2⟨m,L2,rfl,j1,j2,j3,j4,j5⟩
   have eT:=zq (eC.out.grown j5 eC.out.size (fun k e=>by cases e;exact aU jH hgq))
   have Kj:=zq ((j5.block D (Array.getElem?_eq_some_iff.1 HK1.out).1 (fun e=>hDg (by cases e;rfl))).trans HK1.out)
   have J1:=zq j1
   have J3:=zq j3
   have J4:=zq j4
   clear j1 j3 j4 j5 HC HK1 eC k0
   go_wp2
   have ht:∀t∈L2,∃z∈L,t=bG z:=fun t ht=>by
    obtain⟨z,hz,e⟩:=List.mem_map.1 ((K2.out t).1 ((J3.out t).1 ht))
    exact⟨z,hz,e.symm⟩
   have zg:(L2.map cT).map bG=L2:=by
    rw[List.map_map]
    conv=>rhs;rw[←List.map_id L2]
    refine List.map_congr_left (fun t h=>?_)
    obtain⟨z,-,rfl⟩:=ht t h
    show bG (cT (bG z))=_
    rw[gG];rfl
   have qv:∀z,z∈L2.map cT↔z∈L:=fun z=>by
    constructor
    ·intro h
     obtain⟨t,h1,rfl⟩:=List.mem_map.1 h
     obtain⟨y,hy,rfl⟩:=ht t h1
     rw[gG];exact hy
    ·intro h
     refine List.mem_map.2 ⟨bG z,(J3.out _).2 ((K2.out _).2 (List.mem_map.2 ⟨z,h,rfl⟩)),gG z⟩
   have hDW:D<W2.heap.size:=(Array.getElem?_eq_some_iff.1 Kj.out).1
   refine⟨by simp,.inl ⟨_,_,rfl,nD Kj.out,?_⟩⟩
   refine⟨_,mG Tryz.results74 _ _,?_⟩
   refine⟨⟨some ⟨gq,0,none⟩,m,cap,L2.map cT,rfl,by rw[aZ];exact J1.out,by omega,?_,fun z=>(qv z).trans (pF.out z),fun z h=>HHq.out z ((qv z).1 h),fun p e=>by cases e;exact aU jH hgq⟩,eT.out.trans (iH (aU jH hD) Kj.out)⟩
   rw[zg]
   intro i hi
   obtain⟨b,off,e1,e2⟩:=J4.out i hi
   cases e1
   refine⟨gq,0,rfl,?_⟩
   rw[We (show(W2.putObj D _).heap[gq]? =W2.heap[gq]? from dH (fun e=>hDg e.symm))]
   exact e2
 case stop=>
  rintro D c k W hD hk hF
  exact hF.elim
end
end
section
open Go Go.RowKit Go.Lib
def Iz(s:List UInt8):Prop:=∃n:Int,0≤n∧n≤65536∧s=bG (n:Rat)
theorem Iz.hb{s:List UInt8}(h:Iz s):HB 5 1 (cT s)∧bG (cT s)=s:=by
 obtain⟨n,h1,h2,rfl⟩:=h;rw[gG];exact⟨HB.int (by omega),rfl⟩
def OS(p q:Po):Rat:=cT p.x*cT q.y-cT q.x*cT p.y
def lU(ps:List Po):List Rat:=(dD ps.length).map fun k=>OS (ps.getD k default) (ps.getD ((k+1)%ps.length) default)
def jT(Gr:List (List Po)):List Rat:=Gr.flatMap lU
def TN(Gr:List (List Po)):Rat:=sR (jT Gr) (jT Gr).length/((2:Int):Rat)
theorem TO{Gr:List (List Po)}{i:Nat}(hi:i<Gr.length):jT (Gr.take (i+1))=jT (Gr.take i)++lU (Gr.getD i []):=by
 unfold jT;rw[cN hi,lK];simp[aG,hi]
theorem LU(ps:List Po):(lU ps).length=ps.length:=by simp[lU]
theorem TP{ps:List Po}{k:Nat}(hk:k<ps.length):(lU ps).take (k+1)=(lU ps).take k++[OS (ps.getD k default) (ps.getD ((k+1)%ps.length) default)]:=by
 rw[cN (by rw[LU];exact hk)];simp[lU]
def IzP(Gr:List (List Po)):Prop:=∀ps∈Gr,∀p∈ps,Iz p.x∧Iz p.y
theorem fx{p q:Po}(hp:Iz p.x∧Iz p.y)(hq:Iz q.x∧Iz q.y):∃n:Int,OS p q=(n:Rat)∧n.natAbs≤4294967296:=by
 obtain⟨⟨a,a1,a2,ha⟩,⟨b,b1,b2,hb⟩⟩:=hp;obtain⟨⟨c,c1,c2,hc⟩,⟨d,d1,d2,hd⟩⟩:=hq;refine⟨a*d-c*b,?_,?_⟩
 ·unfold OS;rw[ha,hb,hc,hd,gG,gG,gG,gG,Rat.intCast_sub,lX,lX]
 ·have e1:a*d≤65536*65536:=vO a2 d2 d1 (by decide);have e2:c*b≤65536*65536:=vO c2 b2 b1 (by decide);have e3:=nE a1 d1;have e4:=nE c1 b1;omega
theorem LV{Gr:List (List Po)}(h:IzP Gr):∀x∈jT Gr,∃n:Int,x=(n:Rat)∧n.natAbs≤4294967296:=by
 intro x hx;unfold jT at hx;obtain⟨ps,h1,h2⟩:=List.mem_flatMap.1 hx;unfold lU at h2;obtain⟨i,hi,h3⟩:=List.mem_map.1 h2;have hi:=List.mem_range.1 hi;rw[←h3];exact fx (h ps h1 _ (bU hi default)) (h ps h1 _ (bU (dB _ (by omega)) default))
theorem Xc{qs:List Rat}{B:Nat}(h:∀x∈qs,∃n:Int,x=(n:Rat)∧n.natAbs≤B):∀k,k≤qs.length→∃n:Int,sR qs k=(n:Rat)∧n.natAbs≤k*B
 |0,_=>⟨0,rfl,by simp⟩
 |k+1,hk=>by
  obtain⟨n,h1,h2⟩:=Xc h k (by omega)
  obtain⟨m,h3,h4⟩:=h _ (bU (i:=k) (by omega) 0)
  exact⟨n+m,by rw[sR,h1,h3,Rat.intCast_add],by rw[PW];omega⟩
theorem sR_cr{qs:List Rat}(h:∀x∈qs,∃n:Int,x=(n:Rat)∧n.natAbs≤4294967296)(hl:qs.length≤4096):∀k,k<qs.length→Cr 16 14 1 10 1 (sR qs k) (qs.getD k 0):=by
 intro k hk;obtain⟨n,h1,h2⟩:=Xc h k (by omega);obtain⟨m,h3,h4⟩:=h _ (bU hk 0);refine⟨?_,?_,by decide⟩
 ·rw[h1];refine HB.int (jZ (aU h2 (pX _ (by omega:k≤4096))) (by decide))
 ·rw[h3];exact HB.int (by omega)
theorem sR_hb{qs:List Rat}(h:∀x∈qs,∃n:Int,x=(n:Rat)∧n.natAbs≤4294967296)(hl:qs.length≤4096):HB 14 1 (sR qs qs.length):=by
 obtain⟨n,h1,h2⟩:=Xc h qs.length (aH _);rw[h1];exact HB.int (jZ (aU h2 (pX _ hl)) (by decide))
def DW(k j N:Nat):Prop:=N≤k*96+j
theorem DW.zero:DW 0 0 0:=bM _
theorem DW.step{k j N:Nat}(h:DW k j N):DW k (j+1) (N+1):=by unfold DW at *;omega
theorem DW.next{k j N:Nat}(h:DW k j N)(hj:j≤96):DW (k+1) 0 N:=by unfold DW at *;omega
theorem DW.lt{k j N:Nat}(h:DW k j N)(hk:k≤24)(hj:j≤96):N+1≤4096:=by unfold DW at h;omega
theorem eqPo(A B C D:ByteArray)(w:aF):(Dn 10000 53 (cF #[aA A,aA B]) (cF #[aA C,aA D])).run aE w=.ok (A.toList==C.toList&&B.toList==D.toList) w:=by
 have u3:=jN;have a3:=pY;have z3:=oJ;have hS:Tryz.prog.underlying 53=some (.struct (Tryz.prog.fieldsOf 53)):=by kernel_rfl
 have hp:Tryz.prog.stoodInHeld 53=false:=by kernel_rfl
 rw[show(10000:Nat)=9999+1 from rfl,run_equalIn_agg w 9999 53 _ _ hS hp];simp only[G6,underlying53];go_simp;by_cases h1:A.toList=C.toList<;>by_cases h2:B.toList=D.toList<;>simp[h1,h2]
theorem eqPart (a c : Int) (A B C D : ByteArray) (w : aF) : (Dn 10000 68 (cF #[aC aB a, aA A, aA B]) (cF #[aC aB c, aA C, aA D])).run aE w = .ok (a == c && (A.toList == C.toList && B.toList == D.toList)) w := by
  have u3 := dL
  have a3 := jG
  have z3 := iB
  have u4 := underlying34
  have a4 := isAgg34
  have z4 := sizeOf34
  have hS : Tryz.prog.underlying 68 = some (.struct (Tryz.prog.fieldsOf 68)) := by kernel_rfl
  have hp : Tryz.prog.stoodInHeld 68 = false := by kernel_rfl
  rw [show (10000 : Nat) = 9999 + 1 from rfl, run_equalIn_agg w 9999 68 _ _ hS hp]
  simp only [G6, underlying68]
  go_simp
  by_cases h : a = c <;> by_cases h1 : A.toList = C.toList <;> by_cases h2 : B.toList = D.toList <;> simp [h, h1, h2]
deriving instance DecidableEq for Pt
def CK(xs ys:List Lp):Bool:=decide (xs.map Lp.ps=ys.map Lp.ps)
theorem Xd{xs ys:List Lp}(h:xs.length≠ys.length):CK xs ys=false:=by
 apply decide_eq_false;intro e;have:=congrArg List.length e;rw[aZ,aZ]at this;exact h this
theorem fy{xs ys:List Lp}{i:Nat}(h:(xs.getD i default).ps≠(ys.getD i default).ps):CK xs ys=false:=by
 apply decide_eq_false;intro e;apply h;have h1:∀zs:List Lp,(zs.getD i default).ps=(zs.map Lp.ps).getD i []:=fun zs=>by
  rw[aG,aG,List.getElem?_map];cases zs[i]? <;>rfl
 rw[h1,h1,e]
theorem Xe{xs ys:List Lp}(h:xs.length=ys.length)(h2:∀i,i<xs.length→(xs.getD i default).ps=(ys.getD i default).ps):CK xs ys=true:=by
 apply decide_eq_true;apply List.ext_getElem
 ·rw[aZ,aZ,h]
 ·intro i h3 h4;rw[aZ]at h3 h4;have:=h2 i h3;simpa[aG,h3,h4]using this
theorem Qy{xs ys:List Pt}(h:xs.length=ys.length)(h2:∀i,i<xs.length→xs.getD i default=ys.getD i default):xs=ys:=by
 apply List.ext_getElem h;intro i h3 h4;have:=h2 i h3;simpa[aG,h3,h4]using this
theorem eqPt(p q:Pt)(w:aF):(Dn 10000 68 (cF #[aC aB p.side,aA (bs p.fr),aA (bs p.en)]) (cF #[aC aB q.side,aA (bs q.fr),aA (bs q.en)])).run aE w=.ok (decide (p=q)) w:=by
 rw[eqPart];obtain⟨a,x,y⟩:=p;obtain⟨c,z,t⟩:=q;show Result.ok (a==c&&((bs x).toList==(bs z).toList&&(bs y).toList==(bs t).toList)) w=_;simp only[dV,fY];congr 1;rw[pI];simp
theorem NY (a b:Option cO) (n m ca cb:Nat) (xs ys:List Lp) (w:aF) (hx:xs.length=n) (hy:ys.length=m) (hn:n≤1000000) (hm:m≤1000000)
 (nL:∀ l∈xs,l.ps.length≤1000000) (Tw:∀ l∈ys,l.ps.length≤1000000) (ra:E5 w a xs) (rb:E5 w b ys) :
 bE aE 12 #[aD a n ca,aD b m cb] w (Rt (aV (CK xs ys)) w):=by
 by_cases hnm:n=m;case neg=>
  have R:=zq (Xd (xs:=xs) (ys:=ys) (by rw [hx,hy];exact hnm));have h' :(n==m)=false:=by simpa using hnm
  have hni:¬ ((n:Int)=(m:Int)):=by omega
  clear ra rb hx hy;go_enter func12,ntmps12;go_wp2;go_ret;exact⟨by rw [R.out] <;> rfl,aL _ w⟩
 subst hnm;have R2:bK (∀ i,(xs.getD i default).ps≠(ys.getD i default).ps→CK xs ys=false):=fun i h=> fy h;have R3:bK ((∀ i,i < n→(xs.getD i default).ps=(ys.getD i default).ps)→CK xs ys=true):=fun h=> Xe (by rw [hx,hy]) (by rw [hx];exact h);have Ra:=zq ra;have Rb:=zq rb;have Hx:=zq hx;have Hy:=zq hy;have yh:bK (∀ i,i < n→(xs.getD i default).ps.length≤1000000):=fun i hi=> nL _ (bU (by rw [hx];exact hi) default);have Hqs:bK (∀ i,i < n→(ys.getD i default).ps.length≤1000000):=fun i hi=> Tw _ (bU (by rw [hy];exact hi) default);clear nL Tw ra rb hx hy;generalize CK xs ys=RR at *;go_enter func12,ntmps12;go_wp2;go_loopw [5] (fun i wr=> ∃ k:Nat,i=aC aB k∧k≤n∧bK (∀ i,i < k→(xs.getD i default).ps=(ys.getD i default).ps)∧bK (Below w.heap.size w wr)) (fun i _=> n - (aK i).toNat);case atStart=> exact⟨0,rfl,bM _,fun i h=> absurd h (NF _),aL _ w⟩
 case round=>
  obtain⟨k,rfl,hk,HE,HB⟩:=hrel;by_cases hlt:k < n
  ·obtain⟨xb,xo,rfl,x0,rx⟩:=(Ra.out.below HB.out).at (i:=k) (by rw [Hx.out];exact hlt) rfl;obtain⟨yb,yo,rfl,y0,ry⟩:=(Rb.out.below HB.out).at (i:=k) (by rw [Hy.out];exact hlt) rfl;have Rx:=zq rx;have Ry:=zq ry;have hp:=yh.out k hlt;have hq:=Hqs.out k hlt;have Rk:=zq (R2.out k);have HEk:bK ((xs.getD k default).ps=(ys.getD k default).ps→∀ i,i < k + 1→(xs.getD i default).ps=(ys.getD i default).ps):=fun h i hi=> by
    rcases fP i k with h1 | h1
    ·exact HE.out i h1
    ·obtain rfl:i=k:=by omega
     exact h
   clear rx ry HE;generalize xs.getD k default=X at *;generalize ys.getD k default=Y at *;obtain⟨xa,xc,xp⟩:=X;obtain⟨ya,yc,yp⟩:=Y;simp only [] at *;obtain⟨p,Er⟩:∃ p,xp.length=p:=⟨_,rfl⟩;obtain⟨q,hql⟩:∃ q,yp.length=q:=⟨_,rfl⟩;rw [Er] at hp x0;rw [hql] at hq y0;have hki:(k:Int) < (n:Int):=by omega
   by_cases hpq:p=q;case neg=>
    have R:=zq (Rk.out (fun h=> hpq (by rw [← Er,← hql,h])));have h' :(p==q)=false:=by simpa using hpq
    have hni:¬ ((p:Int)=(q:Int)):=by omega
    clear Er hql;go_wp2;go_region;all_goals
     go_wp2;go_ret;exact⟨by rw [R.out] <;> rfl,HB.out.drew⟩
   subst hpq;have Hpl:=zq Er;have Hql:=zq hql;clear Er hql;go_wp2;go_region;go_wp2;rename aF=> wo;go_loopw [6] (fun i wr=> ∃ j:Nat,i=aC aB j∧j≤p∧bK (∀ i,i < j→xp.getD i default=yp.getD i default)∧bK (Below wo.heap.size wo wr)) (fun i _=> p - (aK i).toNat);case atStart=> exact⟨0,rfl,bM _,fun i h=> absurd h (NF _),(aL _ wo).drew⟩
   case round=>
    obtain⟨j,rfl,hj,HEj,HBj⟩:=hrel;by_cases hjp:j < p
    ·obtain⟨pb,po,rfl,c0,c1,c2⟩:=(Rx.out.below HBj.out).at (i:=j) (by rw [Hpl.out];exact hjp) rfl;obtain⟨qb,qo,rfl,d0,d1,d2⟩:=(Ry.out.below HBj.out).at (i:=j) (by rw [Hql.out];exact hjp) rfl;have x0' :=bR HBj.out x0;have y0' :=bR HBj.out y0;have hji:(j:Int) < (p:Int):=by omega
     by_cases hpt:xp.getD j default=yp.getD j default;case neg=>
      have R:=zq (Rk.out (fun h=> hpt (by rw [h])));have Q:∀ W,(Dn 10000 68 (cF #[aC aB (xp.getD j default).side,aA (bs (xp.getD j default).fr),aA (bs (xp.getD j default).en)]) (cF #[aC aB (yp.getD j default).side,aA (bs (yp.getD j default).fr),aA (bs (yp.getD j default).en)])).run aE W= .ok false W:=fun W=> by rw [eqPt,decide_eq_false hpt]
      clear hpt x0 y0;generalize xp.getD j default=P1 at *;generalize yp.getD j default=P2 at *;obtain⟨ps,pf,pe⟩:=P1;obtain⟨qs,qf,qe⟩:=P2;simp only [] at *;generalize bs pf=PF at *;generalize bs pe=PE at *;generalize bs qf=QF at *;generalize bs qe=QE at *;go_wp2;go_region;all_goals
       go_wp2;go_ret;exact⟨by rw [R.out] <;> rfl,(aQ HB.out HBj.out).drew⟩
     have HEj2:bK (∀ i,i < j + 1→xp.getD i default=yp.getD i default):=fun i hi=> by
      rcases fP i j with h1 | h1
      ·exact HEj.out i h1
      ·obtain rfl:i=j:=by omega
       exact hpt
     have Q:∀ W,(Dn 10000 68 (cF #[aC aB (xp.getD j default).side,aA (bs (xp.getD j default).fr),aA (bs (xp.getD j default).en)]) (cF #[aC aB (yp.getD j default).side,aA (bs (yp.getD j default).fr),aA (bs (yp.getD j default).en)])).run aE W= .ok true W:=fun W=> by rw [eqPt,decide_eq_true hpt]
     clear hpt x0 y0 HEj;generalize xp.getD j default=P1 at *;generalize yp.getD j default=P2 at *;obtain⟨ps,pf,pe⟩:=P1;obtain⟨qs,qf,qe⟩:=P2;simp only [] at *;generalize bs pf=PF at *;generalize bs pe=PE at *;generalize bs qf=QF at *;generalize bs qe=QE at *;go_wp2;go_region;go_wp2;go_roundw;case rel=> exact⟨j + 1,rfl,by omega,HEj2.out,HBj.out.drew⟩
     case measure=> simp only [aK];omega
    ·obtain rfl:j=p:=by omega
     have x0' :=bR HBj.out x0;have qu:=zq (HEk.out (Qy (by rw [Hpl.out,Hql.out]) (by rw [Hpl.out];exact HEj.out)));clear x0 y0 HEk HEj;go_wp2;go_roundw;case rel=> exact⟨k + 1,rfl,by omega,qu.out,aQ HB.out HBj.out⟩
     case measure=> simp only [aK];omega
  ·obtain rfl:k=n:=by omega
   have R:=zq (R3.out HE.out);go_wp2;go_ret;exact⟨by rw [R.out] <;> rfl,HB.out⟩
def vU(fs:List Fr)(p:Pt):Bool:=(fs.getD p.side.toNat default).up
def Xf(fs:List Fr)(at':List (List UInt8))(p q r:Pt):Pt:=
 ⟨q.side,if vU fs p=vU fs q then q.fr else at'.getD p.side.toNat [],if vU fs q=vU fs r then q.en else at'.getD r.side.toNat []⟩
def xG(fs:List Fr)(at':List (List UInt8))(ps:List Pt):List Pt:=
 (dD ps.length).map fun k=>Xf fs at' (ps.getD ((k+ps.length-1)%ps.length) default) (ps.getD k default) (ps.getD ((k+1)%ps.length) default)
def kH(fs:List Fr)(at':List (List UInt8))(ls:List Lp):List (List Pt):=ls.map fun l=>xG fs at' l.ps
theorem E8(fs:List Fr)(at':List (List UInt8))(ps:List Pt):(xG fs at' ps).length=ps.length:=by simp[xG]
theorem OT{fs:List Fr}{at':List (List UInt8)}{ps:List Pt}{k:Nat}(hk:k<ps.length):
 (xG fs at' ps).getD k default=Xf fs at' (ps.getD ((k+ps.length-1)%ps.length) default) (ps.getD k default) (ps.getD ((k+1)%ps.length) default):=by
 simp[xG,aG,hk]
def Es(fs:List Fr)(at':List (List UInt8))(ps:List Pt)(i:Nat):List Pt:=
 if vU fs (ps.getD i default)=vU fs (ps.getD ((i+1)%ps.length) default)then ps else
  let qs:=ps.set i {ps.getD i default with en:=at'.getD (ps.getD ((i+1)%ps.length) default).side.toNat []}
  qs.set ((i+1)%ps.length) {qs.getD ((i+1)%ps.length) default with fr:=at'.getD (ps.getD i default).side.toNat []}
def E9(fs:List Fr)(at':List (List UInt8))(ps:List Pt):Nat→List Pt
 |0=>ps
 |i+1=>Es fs at' (E9 fs at' ps i) i
theorem gb(fs:List Fr)(at':List (List UInt8))(ps:List Pt)(i:Nat):(Es fs at' ps i).length=ps.length:=by
 unfold Es;split <;>simp
theorem CL(fs:List Fr)(at':List (List UInt8))(ps:List Pt):∀i,(E9 fs at' ps i).length=ps.length
 |0=>rfl
 |i+1=>by rw[E9,gb,CL]
theorem Et{α:Type}{xs:List α}{i:Nat}(h:i<xs.length)(x d:α):(xs.set i x).getD i d=x:=by simp[aG,h]
theorem IS{α:Type}{xs:List α}{i j:Nat}(h:i≠j)(x d:α):(xs.set i x).getD j d=xs.getD j d:=by simp[aG,List.getElem?_set_ne h]
theorem zh{fs:List Fr}{at':List (List UInt8)}{ps:List Pt}{i:Nat}(h2:2≤ps.length)(hi:i<ps.length)(k:Nat)(hk:k<ps.length):
 (Es fs at' ps i).getD k default=
  ⟨(ps.getD k default).side,
   if(i+1)%ps.length=k∧vU fs (ps.getD i default)≠vU fs (ps.getD k default)then at'.getD (ps.getD i default).side.toNat []else(ps.getD k default).fr,
   if i=k∧vU fs (ps.getD i default)≠vU fs (ps.getD ((i+1)%ps.length) default)then at'.getD (ps.getD ((i+1)%ps.length) default).side.toNat []else(ps.getD k default).en⟩:=by
 have hq:(i+1)%ps.length<ps.length:=dB _ (by omega);have iC:i≠(i+1)%ps.length:=by
  rcases Tt hi with⟨_,e⟩|⟨_,e⟩<;>omega
 unfold Es;generalize(i+1)%ps.length=q at *;by_cases hu:vU fs (ps.getD i default)=vU fs (ps.getD q default)
 ·rw[ip hu,iN,iN]
  ·rintro⟨rfl,h⟩;exact h hu
  ·rintro⟨rfl,h⟩;exact h hu
 ·rw[iN hu];show((ps.set i _).set q _).getD k default=_;by_cases e1:q=k
  ·subst e1;rw[Et (by simpa using hk),IS iC,ip (show q=q∧vU fs (ps.getD i default)≠vU fs (ps.getD q default)from⟨rfl,hu⟩),iN (show¬(i=q∧vU fs (ps.getD i default)≠vU fs (ps.getD q default))from fun h=>iC h.1)]
  ·rw[IS e1];by_cases e2:i=k
   ·subst e2;rw[Et hk,ip (show i=i∧vU fs (ps.getD i default)≠vU fs (ps.getD q default)from⟨rfl,hu⟩),iN (show¬(q=i∧vU fs (ps.getD i default)≠vU fs (ps.getD i default))from fun h=>e1 h.1)]
   ·rw[IS e2,iN (fun h=>e1 h.1),iN (fun h=>e2 h.1)]
theorem zi{fs:List Fr}{p q:Pt}(h:p.side=q.side):vU fs p=vU fs q:=by unfold vU;rw[h]
theorem Qz{fs:List Fr}{at':List (List UInt8)}{ps:List Pt}(h2:2≤ps.length):∀(i:Nat),i≤ps.length→∀k,k<ps.length→
 (E9 fs at' ps i).getD k default=
  ⟨(ps.getD k default).side,
   if(k+ps.length-1)%ps.length<i∧vU fs (ps.getD ((k+ps.length-1)%ps.length) default)≠vU fs (ps.getD k default)then at'.getD (ps.getD ((k+ps.length-1)%ps.length) default).side.toNat []else(ps.getD k default).fr,
   if k<i∧vU fs (ps.getD k default)≠vU fs (ps.getD ((k+1)%ps.length) default)then at'.getD (ps.getD ((k+1)%ps.length) default).side.toNat []else(ps.getD k default).en⟩
 |0,_,k,hk=>by
  rw[E9,iN (by omega),iN (by omega)]
 |i+1,hi,k,hk=>by
  have hl:=CL fs at' ps i
  have hq:(i+1)%ps.length<ps.length:=dB _ (by omega)
  have hpk:(k+ps.length-1)%ps.length<ps.length:=dB _ (by omega)
  have ih:=fun k hk=>Qz (fs:=fs) (at':=at') h2 i (by omega) k hk
  have hs:∀j,j<ps.length→((E9 fs at' ps i).getD j default).side=(ps.getD j default).side:=fun j hj=>by rw[ih j hj]
  have hu:∀j,j<ps.length→vU fs ((E9 fs at' ps i).getD j default)=vU fs (ps.getD j default):=fun j hj=>zi (hs j hj)
  rw[E9,zh (by rw[hl];exact h2) (by rw[hl];omega) k (by rw[hl];exact hk),hl,hs k hk,hu i (by omega),hu k hk,hu _ hq,hs i (by omega),hs _ hq,ih k hk]
  have hprev:(i+1)%ps.length=k↔(k+ps.length-1)%ps.length=i:=by
   rcases Tt (show i<ps.length by omega)with⟨a,e⟩|⟨a,e⟩
   ·rw[e];constructor
    ·rintro rfl;rw[show i+1+ps.length-1=i+ps.length by omega,pL,bY (by omega)]
    ·intro h;by_cases k0:k=0
     ·subst k0;rw[show 0+ps.length-1=ps.length-1 by omega,bY (by omega)]at h;omega
     ·rw[show k+ps.length-1=(k-1)+ps.length by omega,pL,bY (by omega)]at h;omega
   ·rw[e];constructor
    ·rintro rfl;rw[show 0+ps.length-1=ps.length-1 by omega,bY (by omega)];omega
    ·intro h;by_cases k0:k=0
     ·exact k0.symm
     ·rw[show k+ps.length-1=(k-1)+ps.length by omega,pL,bY (by omega)]at h;omega
  refine Pt.mk.injEq .. |>.mpr ⟨rfl,?_,?_⟩
  ·generalize(k+ps.length-1)%ps.length=m at *;by_cases e:(i+1)%ps.length=k
   ·have e':=hprev.1 e;subst e';generalize vU fs (ps.getD m default)=um;generalize vU fs (ps.getD k default)=uk;generalize at'.getD (ps.getD m default).side.toNat []=A;generalize(ps.getD k default).fr=F;by_cases hup:um=uk<;>simp[e,hup]
   ·have e':m≠i:=fun h=>e (hprev.2 h);have hlt:m<i+1↔m<i:=by omega
    simp only[e,false_and,if_false,hlt]
  ·by_cases e:i=k
   ·subst e;generalize vU fs (ps.getD ((i+1)%ps.length) default)=um;generalize vU fs (ps.getD i default)=uk;generalize at'.getD (ps.getD ((i+1)%ps.length) default).side.toNat []=A;generalize(ps.getD i default).en=F;by_cases hup:uk=um<;>simp[hup]
   ·have hlt:k<i+1↔k<i:=by omega
    simp only[e,false_and,if_false,hlt]
theorem zj{fs:List Fr}{at':List (List UInt8)}{ps:List Pt}(h2:2≤ps.length):E9 fs at' ps ps.length=xG fs at' ps:=by
 apply Qy (by rw[CL,E8]);intro k hk;rw[CL]at hk;have hpk:(k+ps.length-1)%ps.length<ps.length:=dB _ (by omega);rw[Qz h2 _ (aH _) k hk,OT hk];unfold Xf;refine Pt.mk.injEq .. |>.mpr ⟨rfl,?_,?_⟩
 ·by_cases h:vU fs (ps.getD ((k+ps.length-1)%ps.length) default)=vU fs (ps.getD k default)
  ·rw[ip h,iN (fun x=>x.2 h)]
  ·rw[iN h,ip ⟨hpk,h⟩]
 ·by_cases h:vU fs (ps.getD k default)=vU fs (ps.getD ((k+1)%ps.length) default)
  ·rw[ip h,iN (fun x=>x.2 h)]
  ·rw[iN h,ip ⟨hk,h⟩]
def zk(fs:List Fr)(z:Rat):Prop:=
 ∃i,i<fs.length∧(((fs.getD i default).sp≠[48]∧z=(fs.getD i default).q.t)∨∃k,k<i∧(fs.getD k default).up=(fs.getD i default).up∧kG (fs.getD k default).q (fs.getD i default).q z)
def evB(fs:List Fr)(x y:List UInt8):Prop:=∃z,zk fs z∧cT x<z∧z<cT y
def Eu(fs:List Fr)(p:Pt):Bool:=decide (zC fs p<0)
open Classical in
noncomputable def pO (fs:List Fr) (ls:List Lp) (x y:List UInt8):Int:=
 if(fH y x).1<0∨evB fs x y then 2 else if((kH fs (fR fs y) ls).flatten.any (Eu fs))=true then 2 else 0
open Classical in
noncomputable def tP (fs:List Fr) (ls:List Lp) (x y:List UInt8):List (List Pt):=if pO fs ls x y=0 then kH fs (fR fs y) ls else[]
end
section
open Go Go.RowKit
section
def zl{β:Type}(F:Fence)(n:Nat)(P:Program)(gf:Nat)(lb:Array aP)(enc:β→Array aP)(Ok:List β→β→Prop)(Fin:List β→Prop)(Kp:aF→aF→Prop)(w:aF):Prop:=
 ∀(l:Nat)(J Jx:List β→aF→Prop)(W:aF),Below w.heap.size w W→(∀k V V',J k V→Below V.heap.size V V'→J k V')→
  (∀k x V,Ok k x→J k V→YieldAt F (n-1) P l (enc x) V fun e V'=>(e=bA (aV true)∧J (k++[x]) V'∧Kp V V')∨(e=bA (aV false)∧Jx (k++[x]) V'))→
  J [] W→CallsIn F n P gf (#[.func (.yield l) #[] #[]]++lb) W fun e W'=>(∃v,e=bA v)∧((∃k,Fin k∧J k W')∨∃k,Jx k W')
def LW{β:Type}(B:Nat)(Kp:aF→aF→Prop)(I:List β→aF→Prop)(Ix:D4→List β→aF→Prop)(k:List β)(W:aF):A5→mI→aF→Prop
 |.normal,_,V=>kR B W V∧Kp W V∧I k V
 |.ret,_,V=>kR B W V∧Ix .ret k V
 |.exit id,_,V=>kR B W V∧Ix (.exit id) k V
 |.goto t,_,V=>kR B W V∧Ix (.goto t) k V
 |.panic _,_,_=>False
 |.outgrown,_,_=>False
variable{F:Fence}{n:Nat}{P:Program}
theorem QB{g:tE}{ps:Array Tmp}{assign body:D4}{Q:A5→mI→aF→Prop}{a:mI}{w:aF}
 (hro:F.round=none)(h1:1≤n){gf:Nat}{lb:Array aP}(hg:a.eval g=.func (.func gf) #[] lb)(hFg:F.fn gf)(eg:∀args w,(callFunc gf args).run P w=.ok (.enter gf args) w)
 {β:Type}{enc:β→Array aP}{Ok:List β→β→Prop}{Fin:List β→Prop}{Kp:aF→aF→Prop}{w0:aF}(Lj:zl F (n-1) P gf lb enc Ok Fin Kp w0)(Ib:Below w0.heap.size w0 w)
 (Ws:∀{A B C:aF},Kp A B→Kp B C→Kp A C)(YO:∀(W:aF)(l:Nat)(o o':Obj),w.heap.size≤l→W.heap[l]? =some o→o.isCells=false→o.isWalk=false→Kp W (W.putObj l o'))(nL:∀x,(enc x).size=ps.size)
 (I:List β→aF→Prop)(Ix:D4→List β→aF→Prop)(hI:xZ w.heap.size I)(No:∀c,xZ w.heap.size (Ix c))(h0:I [] w)(Ir:β→mI)
 (pC:∀(l:Nat)(x:β)(W:aF)(K:mI→aF→Prop),K (Ir x) W→
  assign.wpIn (F.inRound l) (n-1-1) P (Exit.then K (fun _ _ _=>False)) {tmps:=(ps.zip (enc x)).foldl (fun t(p,v)=>t.setIfInBounds p v) a.tmps,defers:=[]} W)
 (Ab:∀(l:Nat)(k:List β)(x:β)(W:aF),Ok k x→I k W→body.wpIn (F.inRound l) (n-1-1) P (LW w.heap.size Kp I Ix (k++[x]) W) (Ir x) W)
 (Ac:∀(D:Nat)(W:aF),w.heap.size≤D→(∃k,Fin k∧I k W)→W.heap[D]? =some (.deferred (some []))→Q .normal {a with defers:={target:=.collected D,args:= #[]}::a.defers} W)
 (Ad:∀(D:Nat)(c:D4)(k:List β)(W:aF),w.heap.size≤D→Ix c k W→W.heap[D]? =some (.deferred (some []))→c.wpIn F n P Q {a with defers:={target:=.collected D,args:= #[]}::a.defers} W):
 (zM g ps assign body).wpIn F n P Q a w:=by
 refine wpIn_rangeFunc ?_
 intro fn hfn
 rw[hro]
 have hD:=jR w (.deferred (some []))
 obtain⟨V,hV⟩:∃V,(w.alloc (.deferred (some []))).alloc (.loop (fZ fn a ps assign body w.heap.size .ready none))=V:=⟨_,rfl⟩
 have kD:V.heap[w.heap.size]? =some (.deferred (some [])):=by rw[←hV];exact(Below.heap_alloc _ _ _ (by simp)).trans hD
 have kL:V.heap[w.heap.size+1]? =some (.loop (fZ fn a ps assign body w.heap.size .ready none)):=by
  rw[←hV]
  have:=jR (w.alloc (.deferred (some []))) (.loop (fZ fn a ps assign body w.heap.size .ready none))
  rwa[bH]at this
 have kI:I [] V:=by rw[←hV];exact hI.alloc _ (hI.alloc _ h0)
 have kB:Below w0.heap.size w0 V:=by
  rw[←hV];exact Ib.trans ((((aL _ w).alloc (aH _) _).alloc (by simp) _).mono Ib.size)
 refine⟨w.heap.size+1,[{target:=.collected w.heap.size,args:= #[]}],V,{target:=.fn (.func gf) lb,args:= #[.func (.yield (w.heap.size+1)) #[] #[]]},V,gf,
  #[.func (.yield (w.heap.size+1)) #[] #[]]++lb,V,?_,?_,?_,?_,fun _=>h1,?_⟩
 ·rw[←hV];exact run_enterLoop_outer _ _ _ _ _
 ·simp only[resolve,hg]
  simp[go_sem]
 ·intro f hf
  simp[Target.leads]at hf
  subst hf;exact hFg
 ·simp[invoke,go_sem,eg]
 ·have wW:=Lj (w.heap.size+1)
   (fun k W=>I k W∧W.heap[w.heap.size+1]? =some (.loop (fZ fn a ps assign body w.heap.size .ready none))∧W.heap[w.heap.size]? =some (.deferred (some [])))
   (fun k W=>∃c,Ix c k W∧W.heap[w.heap.size+1]? =some (.loop (fZ fn a ps assign body w.heap.size .done (some c)))∧W.heap[w.heap.size]? =some (.deferred (some [])))
   V kB (fun k A B⟨h1,h2,h3⟩hb=>⟨hI k A B none h1 (rZ hb) (fun r e=>by cases e),(hb.block _ (Array.getElem?_eq_some_iff.1 h2).1).trans h2,(hb.block _ (Array.getElem?_eq_some_iff.1 h3).1).trans h3⟩) ?round ⟨kI,kL,kD⟩
  case round=>
   rintro k x W hk⟨hi,hl,hd⟩
   have hlt:w.heap.size+1<W.heap.size:=(Array.getElem?_eq_some_iff.1 hl).1
   have hy:=run_yield (P:=P) (args:=enc x) hl (by exact nL x)
   refine⟨fn,_,assign,body,hy,roundIn_of_wpIn hfn (pC _ x W _ ⟨_,run_beginRound hl rfl,?_⟩)⟩
   obtain⟨U,hU⟩:∃U,W.putObj (w.heap.size+1) (.loop (fZ fn a ps assign body w.heap.size .busy none))=U:=⟨_,rfl⟩
   have uL:U.heap[w.heap.size+1]? =some (.loop (fZ fn a ps assign body w.heap.size .busy none)):=by rw[←hU];exact nW hlt
   have uD:U.heap[w.heap.size]? =some (.deferred (some [])):=by rw[←hU];exact(dH (by omega)).trans hd
   have uK:Kp W U:=by rw[←hU];exact YO _ _ _ _ (by omega) hl rfl rfl
   have uI:I k U:=by rw[←hU];exact hI.putObj _ hi (by omega) hl rfl
   have SH:∀(j:Option D4)(X:aF),kR w.heap.size U X→
    X.heap[w.heap.size+1]? =some (.loop (fZ fn a ps assign body w.heap.size .busy none))∧
    (Instr.endRound (w.heap.size+1) j).run P X=.ok (aV j.isNone) (X.putObj (w.heap.size+1) (.loop (fZ fn a ps assign body w.heap.size (if j.isNone then .ready else .done) j)))∧
    (X.putObj (w.heap.size+1) (.loop (fZ fn a ps assign body w.heap.size (if j.isNone then .ready else .done) j))).heap[w.heap.size+1]? =some (.loop (fZ fn a ps assign body w.heap.size (if j.isNone then .ready else .done) j))∧
    (X.putObj (w.heap.size+1) (.loop (fZ fn a ps assign body w.heap.size (if j.isNone then .ready else .done) j))).heap[w.heap.size]? =some (.deferred (some [])):=by
    intro j X hX
    have xL:=hX.same _ _ (by omega) uL rfl
    exact⟨xL,run_endRound (P:=P) j xL,nW (Array.getElem?_eq_some_iff.1 xL).1,(dH (by omega)).trans (hX.same _ _ (aH _) uD rfl)⟩
   show Code.wpIn _ _ _ _ _ _ (W.putObj (w.heap.size+1) (.loop (fZ fn a ps assign body w.heap.size .busy none)))
   rw[hU]
   refine wpIn_mono (Ab _ k x U hk uI) ?_
   intro e a3 X hp
   have Lk:∀c:D4,kR w.heap.size U X∧Ix c (k++[x]) X→_:=fun c hc=>(SH (some c) X hc.1)
   cases e with
   |normal=>
    obtain⟨xL,xr,yL,yD⟩:=SH none X hp.1
    exact⟨_,_,xr,.inl ⟨rfl,⟨hI.putObj _ hp.2.2 (by omega) xL rfl,yL,yD⟩,Ws (Ws uK hp.2.1) (YO _ _ _ _ (by omega) xL rfl rfl)⟩⟩
   |ret=>
    obtain⟨xL,xr,yL,yD⟩:=Lk .ret hp
    exact⟨_,_,xr,.inr ⟨rfl,.ret,(No _).putObj _ hp.2 (by omega) xL rfl,yL,yD⟩⟩
   |exit id=>
    obtain⟨xL,xr,yL,yD⟩:=Lk (.exit id) hp
    exact⟨_,_,xr,.inr ⟨rfl,.exit id,(No _).putObj _ hp.2 (by omega) xL rfl,yL,yD⟩⟩
   |goto t=>
    obtain⟨xL,xr,yL,yD⟩:=Lk (.goto t) hp
    exact⟨_,_,xr,.inr ⟨rfl,.goto t,(No _).putObj _ hp.2 (by omega) xL rfl,yL,yD⟩⟩
   |panic ch=>exact hp.elim
   |outgrown=>exact hp.elim
  refine wW.mono ?_
  rintro e W2⟨⟨v,rfl⟩,(⟨k,hf,hi,hl,hd⟩|⟨k,c,hi,hl,hd⟩)⟩
  ·exact⟨none,_,N9 (P:=P) hl (by simp[fZ]),Ac _ _ (aH _) ⟨k,hf,hI.putObj _ hi (by omega) hl rfl⟩ ((dH (by omega)).trans hd)⟩
  ·exact⟨some c,_,N9 (P:=P) hl (by simp[fZ]),Ad _ c k _ (aH _) ((No c).putObj _ hi (by omega) hl rfl) ((dH (by omega)).trans hd)⟩
theorem LZ{g:tE}{ps:Array Tmp}{assign body:D4}{Q:A5→mI→aF→Prop}{a:mI}{w:aF}
 {gf:Nat}{lb:Array aP}(hg:a.eval g=.func (.func gf) #[] lb)(eg:∀args w,(callFunc gf args).run P w=.ok (.enter gf args) w)
 {β:Type}{enc:β→Array aP}{Ok:List β→β→Prop}{Fin:List β→Prop}{Kp:aF→aF→Prop}(Lj:zl eP 8 P gf lb enc Ok Fin Kp w)
 (Ws:∀{A B C:aF},Kp A B→Kp B C→Kp A C)(YO:∀(W:aF)(l:Nat)(o o':Obj),w.heap.size≤l→W.heap[l]? =some o→o.isCells=false→o.isWalk=false→Kp W (W.putObj l o'))(nL:∀x,(enc x).size=ps.size)
 (I:List β→aF→Prop)(Ix:D4→List β→aF→Prop)(hI:xZ w.heap.size I)(No:∀c,xZ w.heap.size (Ix c))(h0:I [] w)(Ir:β→mI)
 (pC:∀(l:Nat)(x:β)(W:aF)(K:mI→aF→Prop),K (Ir x) W→
  assign.wpIn (Fence.wide.inRound l) 7 P (Exit.then K (fun _ _ _=>False)) {tmps:=(ps.zip (enc x)).foldl (fun t(p,v)=>t.setIfInBounds p v) a.tmps,defers:=[]} W)
 (Ab:∀(l:Nat)(k:List β)(x:β)(W:aF),Ok k x→I k W→body.wpIn (Fence.wide.inRound l) 7 P (LW w.heap.size Kp I Ix (k++[x]) W) (Ir x) W)
 (Ac:∀(D:Nat)(W:aF),w.heap.size≤D→(∃k,Fin k∧I k W)→W.heap[D]? =some (.deferred (some []))→Q .normal {a with defers:={target:=.collected D,args:= #[]}::a.defers} W)
 (Ad:∀(D:Nat)(c:D4)(k:List β)(W:aF),w.heap.size≤D→Ix c k W→W.heap[D]? =some (.deferred (some []))→c.wp P Q {a with defers:={target:=.collected D,args:= #[]}::a.defers} W):
 (zM g ps assign body).wp P Q a w:=
 (wpIn_wide (n:=9)).1 (QB (F:=eP) rfl (by decide) hg trivial eg Lj (aL _ _) Ws YO nL I Ix hI No h0 Ir pC Ab Ac (fun D c k W h1 h3 h4=>wpIn_wide.2 (Ad D c k W h1 h3 h4)))
end
end
section
open Go Go.RowKit Go.Shelf Go.Lib
section
attribute[local go_sem] gM
def iW(B:Nat)(V V':aF):Prop:=Below B V V'∧∀(k:Nat)(o:Obj),V.heap[k]? =some o→o.isCells=true→V'.heap[k]? =some o
theorem iW.refl(B:Nat)(V:aF):iW B V V:=⟨aL _ _,fun _ _ h _=>h⟩
theorem iW.trans{B:Nat}{X Y Z:aF}(h:iW B X Y)(k:iW B Y Z):iW B X Z:=⟨h.1.trans k.1,fun i o hi ho=>k.2 i o (h.2 i o hi ho) ho⟩
theorem iW.call{B:Nat}{X Y:aF}(h:Below X.heap.size X Y)(hB:B≤X.heap.size):iW B X Y:=
 ⟨h.mono hB,fun i o hi _=>(h.block i (Array.getElem?_eq_some_iff.1 hi).1).trans hi⟩
theorem iW.blk{B:Nat}{X Y:aF}(h:iW B X Y){b:Nat}{cs:Array aP}{T:dT}(k:bT X b cs T):bT Y b cs T:=h.2 b _ k rfl
theorem iW.putObj{B n:Nat}(hB:B≤n)(W:aF)(l:Nat)(o o':Obj)(hl:n≤l)(h:W.heap[l]? =some o)(ho:o.isCells=false)(_:o.isWalk=false):iW B W (W.putObj l o'):=
 ⟨iH (aU hB hl) h,fun i x hi hx=>by
  by_cases e:i=l
  ·subst e;rw[h]at hi;cases hi;rw[ho]at hx;cases hx
  ·exact(dH e).trans hi⟩
theorem iW.cell{B:Nat}{X Y:aF}(h:iW B X Y){p:cO}{v:aP}(hp:X.cell? p=some v):Y.cell? p=some v:=by
 have:Y.heap[p.block]? =X.heap[p.block]? :=by
  unfold World.cell? at hp;cases ho:X.heap[p.block]? with
  |none=>rw[ho]at hp;simp at hp
  |some o=>
   refine h.2 _ o ho ?_;rw[ho]at hp;cases o<;>first |rfl|simp at hp
 rw[We this];exact hp
theorem iW.rdv{B:Nat}{X Y:aF}(h:iW B X Y){a:Option cO}{vs:List aP}(r:KO X a vs):KO Y a vs:=fun i hi=>by
 obtain⟨b,off,e,hc⟩:=r i hi
 exact⟨b,off,e,h.cell hc⟩
end
section
attribute[local go_sem] gM
def evJ(fs:List Fr)(i j:Nat)(z:Rat):Prop:=∃k,k<j∧(fs.getD k default).up=(fs.getD i default).up∧kG (fs.getD k default).q (fs.getD i default).q z
def evS(fs:List Fr)(i:Nat)(z:Rat):Prop:=(fs.getD i default).sp≠[48]∧z=(fs.getD i default).q.t
theorem zm{fs:List Fr}{z:Rat}:zk fs z↔∃i,i<fs.length∧(evS fs i z∨evJ fs i i z):=Iff.rfl
def Zs(f g:FQ)(w:aF)(e:Ending)(w':aF):Prop:=
 (∃(a:Option cO)(n cap:Nat)(c:Int)(L:List Rat),e=bA (cK #[aD a n cap,aC aB c])∧L.length=n∧n≤5∧KO w' a (dK (L.map bG))∧(∀z,z∈L↔f.up=g.up∧kG f g z)∧∀z∈L,Ce z)∧Below w.heap.size w w'
theorem TQ(f g:FQ)(hf:f.Good)(hg:g.Good)(hup:f.up≠g.up)(w:aF)(hE:mN w):
 bE aE 74 #[f.fr.v,g.fr.v] w (Rt (cK #[aD none 0 0,aC aB 9]) w):=by
 have HCf:=zq (fun(W:aF)(h:Below w.heap.size w W)=>Ap f hf W (hE.below h));have HCg:=zq (fun(W:aF)(h:Below w.heap.size w W)=>Ap g hg W (hE.below h));have evf:f.fr.v=cF (Gw f.up f.co f.dir (bs (bG f.v)) (bs (bG f.t))):=rfl;have evg:g.fr.v=cF (Gw g.up g.co g.dir (bs (bG g.v)) (bs (bG g.t))):=rfl;rw[evf]at HCf⊢;rw[evg]at HCg⊢;clear evf evg hf hg hE;have fE:Below w.heap.size w ((w.alloc (aN (Gw f.up f.co f.dir (bs (bG f.v)) (bs (bG f.t))) 58)).alloc (aN (Gw g.up g.co g.dir (bs (bG g.v)) (bs (bG g.t))) 58)):=((aL _ w).alloc (aH _) _).alloc (by simp) _;have q1:bT ((w.alloc (aN (Gw f.up f.co f.dir (bs (bG f.v)) (bs (bG f.t))) 58)).alloc (aN (Gw g.up g.co g.dir (bs (bG g.v)) (bs (bG g.t))) 58)) w.heap.size (Gw f.up f.co f.dir (bs (bG f.v)) (bs (bG f.t))) 58:=(bT.new w _ _).alloc _;have q2:bT ((w.alloc (aN (Gw f.up f.co f.dir (bs (bG f.v)) (bs (bG f.t))) 58)).alloc (aN (Gw g.up g.co g.dir (bs (bG g.v)) (bs (bG g.t))) 58)) (w.heap.size+1) (Gw g.up g.co g.dir (bs (bG g.v)) (bs (bG g.t))) 58:=by
  have:=bT.new (w.alloc (aN (Gw f.up f.co f.dir (bs (bG f.v)) (bs (bG f.t))) 58)) (Gw g.up g.co g.dir (bs (bG g.v)) (bs (bG g.t))) 58;rwa[bH]at this
 unfold Gw at *;obtain⟨u1,h1⟩:∃u,f.up=u:=⟨_,rfl⟩;obtain⟨u2,h2⟩:∃u,g.up=u:=⟨_,rfl⟩;rw[h1]at HCf hup fE q1 q2⊢;rw[h2]at HCg hup fE q1 q2⊢;clear h1 h2;generalize bs (bG f.v)=S1 at *;generalize bs (bG f.t)=T1 at *;generalize bs (bG g.v)=S2 at *;generalize bs (bG g.t)=T2 at *;have fV:=zq fE;have Q1:=zq q1;have Q2:=zq q2;clear fE q1 q2;cases u1<;>cases u2<;>(try(exact absurd rfl hup))<;>clear hup;all_goals
  go_enter func74,ntmps74;go_wp2_with fail
  refine(HCf.out _ fV.out).mono ?_;rintro e W1⟨rfl,hb1⟩;have eC:=zq (aQ fV.out hb1);have Q1:=zq (Q1.out.below hb1 Q1.out.lt);have Q2:=zq (Q2.out.below hb1 Q2.out.lt);clear hb1 fV;obtain⟨d0,d1,d2,d3,d4⟩:=Q2.out.front;have l2:=Q2.out.lt;go_wp2_with fail
  refine(HCg.out _ eC.out).mono ?_;rintro e W2⟨rfl,hb2⟩;have eT:=zq (aQ eC.out hb2);have Q1:=zq (Q1.out.below hb2 Q1.out.lt);have Q2:=zq (Q2.out.below hb2 Q2.out.lt);clear hb2 eC d0 d1 d2 d3 d4 l2;obtain⟨c0,c1,c2,c3,c4⟩:=Q1.out.front;obtain⟨d0,d1,d2,d3,d4⟩:=Q2.out.front;go_wp2;go_ret2;exact⟨rfl,eT.out⟩
theorem zo(f g:FQ)(hf:f.Good)(hg:g.Good)(w:aF)(hE:mN w):bE aE 74 #[f.fr.v,g.fr.v] w (Zs f g w):=by
 by_cases hup:f.up=g.up
 ·refine(JM f g hf hg hup w hE).mono ?_;rintro e w'⟨⟨a,n,cap,L,h1,h2,h3,h4,h5,h6,-⟩,hb⟩;exact⟨⟨a,n,cap,0,L,h1,h2,h3,h4,fun z=>⟨fun h=>⟨hup,(h5 z).1 h⟩,fun h=>(h5 z).2 h.2⟩,h6⟩,hb⟩
 ·refine(TQ f g hf hg hup w hE).mono ?_;rintro e w'⟨h1,hb⟩;exact⟨⟨none,0,0,9,[],h1,rfl,by decide,fun i hi=>absurd hi (by simp[dK]),fun z=>⟨fun h=>absurd h (by simp),fun h=>absurd h.1 hup⟩,fun z h=>absurd h (by simp)⟩,hb⟩
def Xg(fs:List Fr)(k j:Nat)(L0 L:List Rat):Prop:=(∀z∈L0,z∈L)∧(∀z,evS fs k z→z∈L)∧∀z,evJ fs k j z→z∈L
theorem Xg.more{fs:List Fr}{k j:Nat}{L0 L:List Rat}(h:Xg fs k j L0 L)(x:Rat):Xg fs k j L0 (L++[x]):=
 ⟨fun z hz=>iL _ (h.1 z hz),fun z hz=>iL _ (h.2.1 z hz),fun z hz=>iL _ (h.2.2 z hz)⟩
theorem Xg.next{fs:List Fr}{k j:Nat}{L0 L Lq:List Rat}(h:Xg fs k j L0 L)(hq:∀z∈Lq,z∈L)(hm:∀z,z∈Lq↔(fs.getD j default).q.up=(fs.getD k default).q.up∧kG (fs.getD j default).q (fs.getD k default).q z):Xg fs k (j+1) L0 L:=by
 refine⟨h.1,h.2.1,fun z hz=>?_⟩;obtain⟨i,hi,h1,h2⟩:=hz;rcases fP i j with c|c
 ·exact h.2.2 z ⟨i,c,h1,h2⟩
 ·obtain rfl:i=j:=by omega
  exact hq z ((hm z).2 ⟨h1,h2⟩)
theorem fr_st{f:Fr}(h:f.Ok):bs f.st=bs (bG f.q.t):=by
 have:=congrArg Fr.st h.good.2;rw[←this];rfl
theorem ev_seq (heq:∀ (f g:FQ),f.Good→g.Good→∀ W,mN W→bE aE 74 #[f.fr.v,g.fr.v] W (Zs f g W)) (Bf B:Nat) (a:Option cO) (nf ca:Nat) (fs:List Fr) (hf:fs.length=nf) (hn:nf≤24) (hOk:∀ f∈fs,f.Ok) (w:aF) (hB:B≤w.heap.size) (hBl:Bf < w.heap.size)
 (hE:∀ V,Below B w V→mN V) (hc:∀ V,Below B w V→vT V a fs) (IT:nf≤ca) (hBs:bT w Bf #[aD a nf ca] 27) :
 zl eP 8 aE 118 #[aY (some ⟨Bf,0,none⟩)] (fun z:Rat=> #[aA (bs (bG z))]) (fun _ z=> Ce z∧zk fs z) (fun k=> ∀ z,zk fs z→z∈k) (iW B) w:=by
 intro l J Jx W hW hJ hY h0;have K0:iW B w W:=iW.call hW hB;have hBs:=K0.blk hBs;have HE:=zq (fun V (h:Below B W V)=> hE V (K0.1.trans h));have Hc:=zq (fun V (h:Below B W V)=> hc V (K0.1.trans h));have WK:B≤W.heap.size:=aU hB hW.size;have Hf:=zq hf;have Hok:bK (∀ i,i < nf→(fs.getD i default).Ok):=fun i hi=> hOk _ (bU (by rw [hf];exact hi) default);have HEq:bK (∀ i j,i < nf→j < nf→∀ V,Below B W V→bE aE 74 #[(fs.getD j default).v,(fs.getD i default).v] V (Zs (fs.getD j default).q (fs.getD i default).q V)):=fun i j hi hj V hV=> by
  obtain⟨g1,e1⟩:=(Hok.out i hi).good;obtain⟨g2,e2⟩:=(Hok.out j hj).good;have:=heq _ _ g2 g1 V (HE.out V hV);rwa [e1,e2] at this
 have HBs:=zq hBs;have HJ0:=zq h0;have HJ:=zq hJ;have HY:=zq hY;clear hf hOk hE hc hBs K0 hW hB hBl heq h0 hJ hY;refine callsIn_of_wp func118 rfl trivial ?_ rfl;simp only [ntmps118,cD,bD,bV,dQ,dR,cA,cB,cR,cH,dF,cJ];have k0:=HBs.out.cell 0;simp only [aJ,aI] at k0;have kl:=HBs.out.lt;gi_wp2;gi_loopw [13] (fun i wr=> ∃ (k:Nat) (L:List Rat),i=aC aB (k:Int)∧k≤nf∧bK (J L wr)∧bK (iW B W wr)∧bK (∀ i,i < k→∀ z,evS fs i z∨evJ fs i i z→z∈L))
  (fun i _=> nf - (aK i).toNat)
 case atStart=> exact⟨0, [],rfl,bM _,HJ0.out,iW.refl _ _,fun i hi=> by omega⟩
 case round=>
  obtain⟨k,L,rfl,hk,HJk,HK,HL⟩:=hrel;by_cases hlt:k < nf
  ·have HKk:=zq HK.out.1;obtain⟨fb,fo,rfl,c0,c1,c2,c3,c4⟩:=(Hc.out _ HKk.out).at (i:=k) (by rw [Hf.out];exact hlt) rfl;have Hfs:bK (∀ V,Below B W V→vT V (some ⟨fb,fo,none⟩) fs):=Hc;have S8:=fr_st (Hok.out k hlt);have HQt:bK (Ce (fs.getD k default).q.t):=Dz (Hok.out k hlt).good.1;have HEqk:=zq (fun j hj V hV=> HEq.out k j hlt hj V hV);have HSt:bK (evS fs k (fs.getD k default).q.t↔(fs.getD k default).sp≠ [48]):=⟨fun h=> h.1,fun h=> ⟨h,rfl⟩⟩;have HSu:bK (∀ z,evS fs k z→z=(fs.getD k default).q.t):=fun z h=> h.2;have hsp48:((bs (fs.getD k default).sp).toList== [48])=decide ((fs.getD k default).sp= [48]):=by
    rw [dV,fY];rw [pI];simp
   have HSp:=zq hsp48;have HEv:bK (∀ z,evS fs k z∨evJ fs k k z→zk fs z):=fun z h=> zm.2 ⟨k,by rw [Hf.out];exact hlt,h⟩;have HCov:bK (∀ L2,Xg fs k k L L2→∀ i,i < k + 1→∀ z,evS fs i z∨evJ fs i i z→z∈L2):=fun L2 h i hi z hz=> by
    rcases fP i k with c | c
    ·exact h.1 z (HL.out i c z hz)
    ·obtain rfl:i=k:=by omega
     exact hz.elim (h.2.1 z) (h.2.2 z)
   have qr:bK (∀ L2,(∀ z∈L,z∈L2)→(∀ z,evS fs k z→z∈L2)→Xg fs k 0 L L2):=fun L2 h1 h2=> ⟨h1,h2,fun z ⟨i,hi,_⟩=> absurd hi (NF _)⟩;have Zt:bK (∀ j L2 Lq,Xg fs k j L L2→(∀ z∈Lq,z∈L2)→(∀ z,z∈Lq↔(fs.getD j default).q.up=(fs.getD k default).q.up∧kG (fs.getD j default).q (fs.getD k default).q z)→Xg fs k (j + 1) L L2):=fun j L2 Lq h1 h2 h3=> h1.next h2 h3;have HEvJ:bK (∀ j,j < k→∀ z,((fs.getD j default).q.up=(fs.getD k default).q.up∧kG (fs.getD j default).q (fs.getD k default).q z)→zk fs z):=fun j hj z h=> HEv.out z (.inr ⟨j,hj,h.1,h.2⟩);have k0' :=k0;have k0:wr.cell? ⟨Bf,0,none⟩=some (aD (some ⟨fb,fo,none⟩) nf ca):=HK.out.cell k0';have kl2:Bf < wr.heap.size:=bB wr ⟨Bf,0,none⟩ k0;have Ie:fb < wr.heap.size:=bB wr ⟨fb,fo + k * 5,none⟩ c0;have Ov:=(aL wr.heap.size wr).alloc (aH _) (aN #[aV (fs.getD k default).up,aC aB (fs.getD k default).co,aC aB (fs.getD k default).dir,aA (bs (fs.getD k default).sp),aA (bs (fs.getD k default).st)] 58);have Q4:=zq (bT.new wr #[aV (fs.getD k default).up,aC aB (fs.getD k default).co,aC aB (fs.getD k default).dir,aA (bs (fs.getD k default).sp),aA (bs (fs.getD k default).st)] 58);have rT:=zq Ov;clear hsp48 Ov HL;have HEqk:bK (∀ (j:Nat),j < nf→∀ (V:aF),Below B W V→bE aE 74 #[(fs.getD j default).v,cF #[aV (fs.getD k default).up,aC aB (fs.getD k default).co,aC aB (fs.getD k default).dir,aA (bs (fs.getD k default).sp),aA (bs (fs.getD k default).st)]] V (Zs (fs.getD j default).q (fs.getD k default).q V)):=HEqk;have HQ48:bK ((fs.getD k default).sp≠ [48]→zk fs (fs.getD k default).q.t):=fun h=> HEv.out _ (.inl (HSt.out.2 h));have HSn:bK ((fs.getD k default).sp= [48]→∀ z,¬ evS fs k z):=fun h z hz=> hz.1 h;have HFT:bK (∀ (L2:List Rat) (V:aF),J L2 V→zk fs (fs.getD k default).q.t→YieldAt eP 7 aE l #[aA (bs (bG (fs.getD k default).q.t))] V fun e V' => (e=bA (aV true)∧J (L2 ++ [(fs.getD k default).q.t]) V' ∧iW B V V')∨(e=bA (aV false)∧Jx (L2 ++ [(fs.getD k default).q.t]) V')):=fun L2 V h hz=> HY.out L2 _ V ⟨HQt.out,hz⟩ h;have HSu2:bK (∀ z,evS fs k z→z=(fs.getD k default).q.t):=HSu;generalize (fs.getD k default).q=fq at *;generalize fs.getD k default=f at *;obtain⟨uY,fco,fdir,JJ,fst⟩:=f;simp only [] at *;rw [S8] at HEqk Q4 rT c4;clear S8 HSt HSu HEv HEq HQt;generalize fq.t=ft at *;generalize bs (bG ft)=FT at *;gi_upto_region 3 with (fail);obtain⟨wb,zp⟩:∃ wb,wr.alloc (aN #[aV uY,aC aB fco,aC aB fdir,aA (bs JJ),aA FT] 58)=wb:=⟨_,rfl⟩;rw [zp] at Q4 rT ⊢;have HKb:=zq (HK.out.trans (iW.call rT.out (aU WK HKk.out.size)));have HJb:=zq (HJ.out _ _ _ HJk.out rT.out);have k1:=bR rT.out k0;have hsb:wr.heap.size < wb.heap.size:=Q4.out.lt;clear k0 kl2 Ie c0 c1 c2 c3 c4 zp rT HKk;generalize wr.heap.size=b4 at *;obtain⟨d0,d1,d2,d3,d4⟩:=Q4.out.front;gi_cut [27] from 14 (fun v V=> (v=aV false∧bK (∃ L1,J L1 V∧iW B wb V∧Xg fs k 0 L L1))∨(v=aV true∧bK (∃ L1,Jx L1 V)));case first=>
    have hsp:=HSp.out;by_cases h48:JJ= [48]
    ·rw [decide_eq_true h48] at hsp;have R:bK (∃ L1,J L1 wb∧iW B wb wb∧Xg fs k 0 L L1):=⟨L,HJb.out,iW.refl _ _,qr.out L (fun z h=> h) (fun z h=> absurd h (HSn.out h48 z))⟩;clear h48;generalize bs JJ=Fsq at *;gi_wp2;repeat (refine⟨fun _ h=> (by cases h), ?_⟩;gi_wp2)
     gi_meet;case rel=> exact .inl ⟨rfl,R.out⟩
    ·rw [decide_eq_false h48] at hsp;obtain⟨fny,tmy,asy,boy,hy,hR⟩:=HFT.out L wb HJb.out (HQ48.out h48);clear h48;generalize bs JJ=Fsq at *;gi_wp2;refine hR.mono ?_;rintro e W1 (⟨rfl,hJ1,hK1⟩ | ⟨rfl,hx⟩)
     ·have R:bK (∃ L1,J L1 W1∧iW B wb W1∧Xg fs k 0 L L1):=⟨_,hJ1,hK1,qr.out _ (fun z h=> iL _ h) (fun z h=> by rw [HSu2.out z h];exact vP _ (List.mem_singleton.2 rfl))⟩;gi_wp2;gi_meet;case rel=> exact .inl ⟨rfl,R.out⟩
     ·have R:bK (∃ L1,Jx L1 W1):=⟨_,hx⟩;gi_wp2;gi_meet;case rel=> exact .inr ⟨rfl,R.out⟩
   case rest=>
   rcases hcut with ⟨rfl,HX⟩ | ⟨rfl,HX⟩;case inr=>
    gi_wp2;refine dU (Do rfl _ _ _) rfl ?_;exact⟨⟨_,rfl⟩, .inr HX.out⟩
   obtain⟨L1,hJ1,hK1,hC1⟩:=HX.out;rename aF=> wc;have HJ1:=zq hJ1;have HKc:=zq hK1;have HCv:=zq hC1;clear hJ1 hK1 hC1 HX d0 d1 d2 d3 d4 HJb HSn HQ48 HSu2 qr HFT HSp;have k2:=HKc.out.cell k1;have kl2:=bB wc ⟨Bf,0,none⟩ k2;have hnca:(k:Int)≤(ca:Int):=by omega
   gi_wp2;gi_loopw [32] (fun i wr2=> ∃ (j:Nat) (L2:List Rat),i=aC aB (j:Int)∧j≤k∧bK (J L2 wr2)∧bK (iW B wb wr2)∧bK (Xg fs k j L L2))
    (fun i _=> k - (aK i).toNat)
   case atStart=> exact⟨0,L1,rfl,bM _,HJ1.out,HKc.out,HCv.out⟩
   case round=>
    obtain⟨j,L2,rfl,hj,HJ2,Kj,L5⟩:=hrel;have HKw:=zq (HKb.out.trans Kj.out);have vL:=zq HKw.out.1;by_cases hlt2:j < k
    ·obtain⟨fb',fo',e1,c0,c1,c2,c3,c4⟩:=(Hfs.out _ vL.out).at (i:=j) (by rw [Hf.out];omega) rfl;injection e1 with e1;injection e1 with e1 e2;subst e1 e2;have HEqj:=zq (HEqk.out j (by omega));have HEvj:=zq (HEvJ.out j hlt2);have HNxj:=zq (Zt.out j);unfold Fr.v Fr.cells at HEqj;generalize (fs.getD j default).q=gq at *;generalize fs.getD j default=g at *;obtain⟨Nt,ee,Gp,gsp,gst⟩:=g;simp only [] at *;have Q4j:=zq (Kj.out.blk Q4.out);have k3:=Kj.out.cell k1;obtain⟨d0,d1,d2,d3,d4⟩:=Q4j.out.front;have hl4:=Q4j.out.lt;generalize bs JJ=Fsq at *;generalize bs gsp=GS at *;generalize bs gst=GT at *;have hB6:=(aL wr.heap.size wr).alloc (aH _) (aN #[aV Nt,aC aB ee,aC aB Gp,aA GS,aA GT] 58);have zV:=zq hB6;have JL:=zq (vL.out.trans (hB6.mono (aU WK vL.out.size)));clear hB6;gi_wp2_with fail;refine⟨trivial,(callsIn_wide.2 (HEqj.out _ JL.out)).mono ?_⟩;rintro e W6 ⟨⟨a',n',FO,cc,Lq,rfl,hl,hn',hr,hm,hq⟩,hb6⟩;have HB66:=zq (aQ zV.out hb6);have HK6:=zq (Kj.out.trans (iW.call HB66.out (aU WK vL.out.size)));have HJ6:=zq (HJ.out _ _ _ HJ2.out HB66.out);have Hl:=zq hl;have Hr:=zq hr;have Hm:=zq hm;have Hq:=zq hq;clear hl hr hm hq hb6 zV JL HEqj c0 c1 c2 c3 c4 d0 d1 d2 d3 d4 k3 hl4 Q4j HJ2 Kj HKw vL HB66;gi_wp2;gi_loopw [44] (fun i wr3=> ∃ (m:Nat) (L3:List Rat),i=aC aB (m:Int)∧m≤n' ∧bK (J L3 wr3)∧bK (iW B wb wr3)∧bK (iW B W6 wr3)∧bK (Xg fs k j L L3)∧bK (∀ z∈Lq.take m,z∈L3))
      (fun i _=> n' - (aK i).toNat)
     case atStart=> exact⟨0,L2,rfl,bM _,HJ6.out,HK6.out,iW.refl _ _,L5.out,fun z h=> absurd h (by simp)⟩
     case round=>
      obtain⟨m,L3,rfl,hm',HJ3,HK3,HK63,HC3,ge⟩:=hrel;by_cases hlt3:m < n'
      ·obtain⟨ab,ao,rfl,x0⟩:=(HK63.out.rdv Hr.out) m (by rw [oP,aZ,Hl.out];exact hlt3);have IP:m < Lq.length:=by rw [Hl.out];exact hlt3
       have hxz:(dK (Lq.map bG)).getD m undef=aA (bs (bG (Lq.getD m 0))):=by simp [dK,aG,IP]
       rw [hxz] at x0;have hzm:Lq.getD m 0∈Lq:=bU IP 0;have HLt:bK (Lq.take (m + 1)=Lq.take m ++ [Lq.getD m 0]):=by
        show _=_;rw [cN IP];simp [aG,IP]
       obtain⟨fny,tmy,asy,boy,hy,hR⟩:=HY.out L3 (Lq.getD m 0) wr ⟨Hq.out _ hzm,HEvj.out _ ((Hm.out _).1 hzm)⟩ HJ3.out;clear hxz IP hzm;generalize Lq.getD m 0=z at *;generalize bs (bG z)=ZT at *;gi_wp2;refine hR.mono ?_;rintro e W7 (⟨rfl,hJ7,hK7⟩ | ⟨rfl,hx⟩)
       ·have HJ7:=zq hJ7;have zr:=zq (HK3.out.trans hK7);have HK67:=zq (HK63.out.trans hK7);have HC7:=zq (HC3.out.more z);have HL7:bK (∀ x∈Lq.take (m + 1),x∈L3 ++ [z]):=fun x hx=> by
         rw [HLt.out] at hx;rcases List.mem_append.1 hx with h | h
         ·exact iL _ (ge.out x h)
         ·exact vP _ h
        clear hJ7 hK7;gi_wp2;go_roundw;case rel=> exact⟨m + 1,L3 ++ [z],by go_num,by omega,HJ7.out,zr.out,HK67.out,HC7.out,HL7.out⟩
        case measure=> simp only [aK];omega
       ·have R:bK (∃ L1,Jx L1 W7):=⟨_,hx⟩;gi_wp2;refine dU (Do rfl _ _ _) rfl ?_;exact⟨⟨_,rfl⟩, .inr R.out⟩
      ·obtain rfl:n' =m:=by omega
       have HC4:=zq (HNxj.out L3 Lq HC3.out (fun z hz=> ge.out z (by rw [eM (by rw [Hl.out];exact aH _)];exact hz)) Hm.out);clear ge HNxj;gi_wp2;go_roundw;case rel=> exact⟨j + 1,L3,by go_num,by omega,HJ3.out,HK3.out,HC4.out⟩
       case measure=> simp only [aK];omega
    ·obtain rfl:k=j:=by omega
     have ez:=zq (HCov.out L2 L5.out);clear HCov L5;gi_wp2;go_roundw;case rel=> exact⟨k + 1,L2,by go_num,by omega,HJ2.out,HKw.out,ez.out⟩
     case measure=> simp only [aK];omega
  ·obtain rfl:nf=k:=by omega
   gi_wp2;go_end0;exact⟨⟨_,rfl⟩, .inl ⟨L,fun z hz=> by
    obtain⟨i,hi,h⟩:=zm.1 hz;exact HL.out i (by rw [← Hf.out];exact hi) z h,HJk.out⟩⟩
end
end
section
open Go Go.RowKit Go.Lib
theorem OK.at{w:aF}{a:Option cO}{qs:List Po}(h:OK w a qs){i:Nat}(hi:i<qs.length){p:Po}(hp:qs.getD i default=p):∃b off,a=some ⟨b,off,none⟩∧w.cell? ⟨b,off+i*2,none⟩=some (aA (bs p.x))∧w.cell? ⟨b,off+i*2+1,none⟩=some (aA (bs p.y)):=by
 subst hp;exact h i hi
theorem Qs.at{w:aF}{a:Option cO}{ls:List Lo}(h:Qs w a ls){i:Nat}(hi:i<ls.length){l:Lo}(hl:ls.getD i default=l):∃b off,a=some ⟨b,off,none⟩∧w.cell? ⟨b,off+i,none⟩=some (aD l.a l.qs.length l.cap)∧OK w l.a l.qs:=by
 subst hl;exact h i hi
theorem tr_Area(a b:Option cO)(nf n ca cb:Nat)(fs:List Fr)(ls:List Lp)(z:List UInt8)(w:aF)(hE:mN w)
 (hT:Kf w a b nf n fs ls)(hz:Lz z)(hA:tO fs (fR fs z) ls false=true)(hI:IzP (eU fs (fR fs z) ls)):
 bE aE 9 #[aD a nf ca,aD b n cb,aA (bs z)] w (Rt (cK #[aA (bs (bG (TN (eU fs (fR fs z) ls)))),aC aB 0]) w):=by
 have HP:=zq (OL a b nf n ca cb fs ls z w hE hT hz hA);have HM:bK (∀s t:List UInt8,Iz s→Iz t→∀W,Below w.heap.size w W→bE aE 27 #[aA (bs s),aA (bs t)] W (Rt (cK #[aA (bs (bG (cT s*cT t))),aC aB 0]) W)):=fun s t hs ht W hW=>by
  have:=Zc _ _ W (hE.below hW) (show Mu 5 1 5 1 (cT s) (cT t)from⟨hs.hb.1,ht.hb.1,by decide⟩);rwa[hs.hb.2,ht.hb.2]at this
 have HX:bK (∀s t:List UInt8,Iz s→Iz t→HB 10 2 (cT s*cT t)):=fun s t hs ht=>hs.hb.1.mul ht.hb.1;have HS:bK (∀x y:Rat,HB 10 2 x→HB 10 2 y→∀W,Below w.heap.size w W→bE aE 28 #[aA (bs (bG x)),aA (bs (bG y))] W (Rt (cK #[aA (bs (bG (x-y))),aC aB 0]) W)):=fun x y hx hy W hW=>
  Zb _ _ W (hE.below hW) (show Cr 16 10 2 10 2 x y from⟨hx,hy,by decide⟩)
 have HU:bK (∀W(N cap:Nat)(a:Option cO),(jT (eU fs (fR fs z) ls)).length=N→N≤4096→Below w.heap.size w W→KO W a (dK ((jT (eU fs (fR fs z) ls)).map bG))→bE aE 29 #[aD a N cap] W (Rt (cK #[aA (bs (bG (sR (jT (eU fs (fR fs z) ls)) N))),aC aB 0]) W)):=fun W N cap a hN hN4 hW hr=>
  rat_Sum a N cap _ 14 1 10 1 W (hE.below hW) hN hN4 (fun k hk=>sR_cr (LV hI) (by omega) k (by omega)) hr
 have HD:bK (∀W(N:Nat),(jT (eU fs (fR fs z) ls)).length=N→N≤4096→Below w.heap.size w W→bE aE 30 #[aA (bs (bG (sR (jT (eU fs (fR fs z) ls)) N))),aA {data:= #[50]}] W (Rt (cK #[aA (bs (bG (TN (eU fs (fR fs z) ls)))),aC aB 0]) W)):=fun W N hN hN4 hW=>by
  subst hN;have:=Zd _ _ W (hE.below hW) (show Cr 17 14 1 1 1 (sR (jT (eU fs (fR fs z) ls)) (jT (eU fs (fR fs z) ls)).length) ((2:Int):Rat)from⟨sR_hb (LV hI) hN4,HB.int (by decide),by decide⟩) (by decide);rwa[show bs (bG ((2:Int):Rat))={data:= #[50]} by rw[bG,ip (Rat.den_intCast 2),Rat.num_intCast,kN (by decide),show(2:Int).natAbs=2 from rfl,iO (by decide)];rfl]at this
 have hm24:(eU fs (fR fs z) ls).length≤24:=by unfold eU;rw[aZ,hT.hl];exact hT.hm
 have Hsz:bK (∀k,k<(eU fs (fR fs z) ls).length→((eU fs (fR fs z) ls).getD k []).length≤96):=fun k hk=>by
  obtain⟨l,hl,e⟩:=List.mem_map.1 (bU hk []);rw[←e,aZ];exact(hT.hL l hl).1
 have Hiz:=zq hI;clear hE hT hz hA hI;unfold RetP at HP;generalize eU fs (fR fs z) ls=PV at *;generalize bs z=Z at *;go_enter func9,ntmps9;go_wp2_with fail
 refine HP.out.mono ?_;rintro e W1⟨⟨a1,c1,los,rfl,hq,ro⟩,hb1⟩;have eC:=zq hb1;have Hq:=zq hq;have Ro:=zq ro;have Hll:bK (los.length=PV.length):=by show _=_;rw[←hq,aZ]
 clear hb1 hq ro HP;obtain⟨m,hm⟩:∃m,PV.length=m:=⟨_,rfl⟩;rw[hm]at hm24 Hll Hsz⊢;have Hm:=zq hm;clear hm;have HT:bK (∀i,i<m→jT (PV.take (i+1))=jT (PV.take i)++lU (PV.getD i [])):=fun i hi=>TO (by rw[Hm.out];exact hi);have HTe:bK (jT (PV.take m)=jT PV):=by show _=_;rw[eM (by rw[Hm.out];exact aH _)]
 have O0:bK (W1.ownsRow W1.heap.size 34 1 (aD none 0 0) 0 (dK [])):=⟨rfl,.inl ⟨rfl,rfl⟩⟩;go_wp2;go_loopw[10,35] (fun o i wr=>∃(k N:Nat)(ad:Option cO)(co:Nat)(T:List Rat),i=aC aB k∧k≤m∧o=aD ad N co∧bK (DW k 0 N)∧bK (T.length=N)∧bK (T=jT (PV.take k))∧bK (wr.ownsRow W1.heap.size 34 1 (aD ad N co) N (dK (T.map bG)))∧bK (Below W1.heap.size W1 wr)) (fun _ i _=>m-(aK i).toNat);case atStart=>exact⟨0,0,_,0,[],rfl,bM _,rfl,DW.zero,rfl,rfl,O0.out,aL _ _⟩
 case round=>
  clear O0;obtain⟨k,N,ad,co,T,rfl,hk,rfl,HN,HTl,qw,HO,HB⟩:=hrel;by_cases hlt:k<m
  ·obtain⟨lb,lo,rfl,c0,rp⟩:=Qs.at (Ro.out.below HB.out) (i:=k) (by rw[Hll.out];exact hlt) rfl;have pF:PV.getD k []∈PV:=bU (by rw[Hm.out];exact hlt) [];have hqk:(los.getD k default).qs=PV.getD k []:=by
    rw[←Hq.out];have:k<los.length:=by rw[Hll.out];exact hlt
    simp[aG,this]
   have hrk:∀W,Below W1.heap.size W1 W→W.cell? ⟨lb,lo+k,none⟩=some (aD (los.getD k default).a (los.getD k default).qs.length (los.getD k default).cap)∧OK W (los.getD k default).a (los.getD k default).qs:=fun W h=>by
    obtain⟨b',o',e,c,r⟩:=Qs.at (Ro.out.below h) (i:=k) (by rw[Hll.out];exact hlt) rfl;injection e with e;injection e with e1 e2;subst e1 e2;exact⟨c,r⟩
   have IP:=Hsz.out k hlt;have nL:=Hiz.out _ pF;have HTs:=zq (HT.out k hlt);rw[←hqk]at IP nL HTs;have yh:=zq nL;have HRk:=zq hrk;clear rp pF hqk nL hrk;generalize los.getD k default=l at *;obtain⟨la,lcp,qs⟩:=l;simp only[]at *;obtain⟨n2,zu⟩:∃n2,qs.length=n2:=⟨_,rfl⟩;rw[zu]at IP c0 HRk;have Hn2:=zq zu;clear zu;have HTL:bK (∀j,j<n2→(lU qs).take (j+1)=(lU qs).take j++[OS (qs.getD j default) (qs.getD ((j+1)%n2) default)]):=fun j hj=>by
    have:=TP (ps:=qs) (k:=j) (by rw[Hn2.out];exact hj);rwa[Hn2.out]at this
   have HTLe:bK ((lU qs).take n2=lU qs):=by show _=_;rw[eM (by rw[LU,Hn2.out];exact aH _)]
   have HTn:bK (T=T++(lU qs).take 0):=by show _=_;simp
   go_wp2;go_loopw[10,41] (fun o i wr=>∃(j N2:Nat)(ad:Option cO)(co:Nat)(T2:List Rat),i=aC aB j∧j≤n2∧o=aD ad N2 co∧bK (DW k j N2)∧bK (T2.length=N2)∧bK (T2=T++(lU qs).take j)∧bK (wr.ownsRow W1.heap.size 34 1 (aD ad N2 co) N2 (dK (T2.map bG)))∧bK (Below W1.heap.size W1 wr)) (fun _ i _=>n2-(aK i).toNat);case atStart=>exact⟨0,N,_,_,T,rfl,bM _,rfl,HN.out,HTl.out,HTn.out,HO.out,HB.out⟩
   case round=>
    clear HTn;obtain⟨j,N2,ad2,co2,T2,rfl,hj,rfl,OU,HT2l,Sk,Nr,Bl⟩:=hrel;obtain⟨hci,rp⟩:=HRk.out _ Bl.out;have Rp:=zq rp;clear rp c0;by_cases hlt2:j<n2
    ·have qi:(j+1)%n2<n2:=dB _ (by omega);have ef:=Dy j n2;have HTj:=zq (HTL.out j hlt2);have s1:=yh.out _ (bU (i:=j) (by rw[Hn2.out];exact hlt2) (default:Po));have s2:=yh.out _ (bU (i:=(j+1)%n2) (by rw[Hn2.out];exact qi) (default:Po));generalize(j+1)%n2=q at *;obtain⟨pb,po,rfl,d0,d1⟩:=OK.at Rp.out (i:=j) (by rw[Hn2.out];exact hlt2) rfl;obtain⟨pb',po',e1,f0,f1⟩:=OK.at Rp.out (i:=q) (by rw[Hn2.out];exact qi) rfl;injection e1 with e1;injection e1 with e1 e2;subst e1 e2;generalize qs.getD j default=p at *;generalize qs.getD q default=p2 at *;obtain⟨px,py⟩:=p;obtain⟨qx,qy⟩:=p2;simp only[]at *;have yt:=zq (HM.out px qy s1.1 s2.2);have HM2:=zq (HM.out qx py s2.1 s1.2);have HSt:=zq (HS.out (cT px*cT qy) (cT qx*cT py) (HX.out px qy s1.1 s2.2) (HX.out qx py s2.1 s1.2));have HTj:bK ((lU qs).take (j+1)=(lU qs).take j++[cT px*cT qy-cT qx*cT py]):=HTj;generalize cT px*cT qy-cT qx*cT py=D at *;generalize bs (bG (cT px*cT qy))=M1 at *;generalize bs (bG (cT qx*cT py))=M2 at *;have HTS:bK (dK (T2.map bG)++[aA (bs (bG D))]=dK ((T2++[D]).map bG)):=by show _=_;unfold dK;rw[eV,eV];rfl
     have HTT:bK (T2++[D]=T++(lU qs).take (j+1)):=by show _=_;rw[Sk.out,HTj.out,List.append_assoc]
     have HTN:bK ((T2++[D]).length=N2+1):=by show _=_;rw[bO,HT2l.out];rfl
     clear s1 s2 HTj HT2l Sk;obtain⟨T3,hT3⟩:∃T3,T2++[D]=T3:=⟨_,rfl⟩;rw[hT3]at HTS HTT HTN;generalize bs (bG D)=DB at *;clear hT3;generalize bs px=PX at *;generalize bs py=PY at *;generalize bs qx=QX at *;generalize bs qy=QY at *;have Kg:IntKind.i64.wrap ((j:Int)+1)=(j:Int)+1:=bI _ (by omega);have NK:¬n2=0:=by omega
     have hqi:(q:Int)<(n2:Int):=by omega
     have tN:(0:Int)≤(q:Int):=by omega
     have l1:pb<wr.heap.size:=bB wr ⟨pb,po+j*2,none⟩ d0;have l2:lb<wr.heap.size:=bB wr ⟨lb,lo+k,none⟩ hci;have v1:∀j,pb<wr.heap.size+j:=fun j=>by omega
     have v2:∀j,¬pb=wr.heap.size+j:=fun j=>by omega
     have v3:¬pb=wr.heap.size:=by omega
     have u1:∀j,lb<wr.heap.size+j:=fun j=>by omega
     have u2:∀j,¬lb=wr.heap.size+j:=fun j=>by omega
     have u3:¬lb=wr.heap.size:=by omega
     have jn:(j:Int)<(n2:Int):=by omega
     have km:(k:Int)<(m:Int):=by omega
     have hBs:=Bl.out.size;have HJ:bK (Below wr.heap.size wr ((wr.alloc (aN #[aA PX,aA PY] 53)).alloc (aN #[aA QX,aA QY] 53))∧bT ((wr.alloc (aN #[aA PX,aA PY] 53)).alloc (aN #[aA QX,aA QY] 53)) wr.heap.size #[aA PX,aA PY] 53∧bT ((wr.alloc (aN #[aA PX,aA PY] 53)).alloc (aN #[aA QX,aA QY] 53)) (wr.heap.size+1) #[aA QX,aA QY] 53):=by
      refine⟨((aL _ wr).alloc (aH _) _).alloc (by simp) _,(bT.new wr _ _).alloc _,?_⟩;have:=bT.new (wr.alloc (aN #[aA PX,aA PY] 53)) #[aA QX,aA QY] 53;rwa[bH]at this
     have zU:=zq (aQ Bl.out HJ.out.1);have QC:=zq (bJ Nr.out HJ.out.1);have G1:=zq HJ.out.2.1;have G2:=zq HJ.out.2.2;clear HJ Nr Bl;go_wp2_with fail
     with_reducible refine(yt.out _ (aQ eC.out zU.out)).mono ?_
     rintro e W2⟨rfl,hb2⟩;have eT:=zq (aQ zU.out hb2);have HO4:=zq (bJ QC.out hb2);have G1a:=zq (G1.out.below hb2 G1.out.lt);have G2a:=zq (G2.out.below hb2 G2.out.lt);clear Kg ef v1 v2 v3 u1 u2 u3 l1 l2 NK hqi tN jn km d0 d1 f0 f1 hci hb2 G1 G2 yt zU QC;obtain⟨p0,p1,-,-,pl⟩:=G1a.out.two;obtain⟨q0,q1,-,-,ql⟩:=G2a.out.two;go_wp2_with fail
     with_reducible refine(HM2.out _ (aQ eC.out eT.out)).mono ?_
     rintro e W3⟨rfl,hb3⟩;have HB3:=zq (aQ eT.out hb3);have QD:=zq (bJ HO4.out hb3);clear p0 p1 pl q0 q1 ql hb3 G1a G2a HM2 eT HO4;go_wp2_with fail
     with_reducible refine(HSt.out _ (aQ eC.out HB3.out)).mono ?_
     rintro e W4⟨rfl,hb4⟩;have rT:=zq (aQ HB3.out hb4);have zv:=bJ QD.out hb4;have NT:=rT.out.size;have hN3:N2+1≤2147483648:=aU (OU.out.lt (by omega) (by omega)) (by decide);clear hb4 HSt HB3 QD;go_wp2_with (at_builtin;refine Qq rfl _ _ rfl W1.heap.size (aD ad2 N2 co2) N2 _ rfl zv DB rfl hN3 NT ?_;intro g5 LR w5 iV Zr oS)
     have xX:=zq (dO rT.out oS zv (aH _) NT);rw[HTS.out]at iV;have QD:=zq iV;clear zv iV oS rT HTS;go_wp2;go_roundw;case rel=>exact⟨j+1,N2+1,_,LR,T3,by go_num,by omega,rfl,OU.out.step,HTN.out,HTT.out,QD.out,xX.out⟩
     case measure=>simp only[aK];omega
    ·obtain rfl:n2=j:=by omega
     have HTT:bK (T2=jT (PV.take (k+1))):=by show _=_;rw[Sk.out,HTLe.out,qw.out,HTs.out]
     go_wp2;go_roundw;case rel=>exact⟨k+1,N2,ad2,co2,T2,by go_num,by omega,rfl,OU.out.next IP,HT2l.out,HTT.out,Nr.out,Bl.out⟩
     case measure=>simp only[aK];omega
  ·obtain rfl:m=k:=by omega
   have HTA:T=jT PV:=by rw[qw.out,HTe.out]
   have hN4:=Nat.le_of_succ_le (HN.out.lt hm24 (by decide));have Hr:=KO.own HO.out;have HL:=HTl.out;rw[HTA]at Hr HL;have HUx:=zq (HU.out wr N co ad HL hN4 (aQ eC.out HB.out) Hr);have HDv:=zq (fun W hW=>HD.out W N HL hN4 hW);clear HTA qw HTl HT HTe HU HM HS HD Hr HL HX hN4;generalize bs (bG (sR (jT PV) N))=SV at *;go_wp2_with fail
   refine ka HUx.out fun W2 hb2=>?_;have eT:=zq (aQ (aQ eC.out HB.out) hb2);clear hb2 HUx;go_wp2_with fail
   refine ka (HDv.out _ eT.out) fun W3 hb3=>?_;have HB3:=zq (aQ eT.out hb3);clear hb3;go_wp2;go_ret2;exact⟨rfl,HB3.out⟩
def cQ(ps:List Pt):List aP:=ps.flatMap fun p=>[aC aB p.side,aA (bs p.fr),aA (bs p.en)]
theorem QG(ps:List Pt)(p:Pt):cQ (ps++[p])=cQ ps++[aC aB p.side,aA (bs p.fr),aA (bs p.en)]:=by simp[cQ]
theorem rE(ps qs:List Pt):cQ (ps++qs)=cQ ps++cQ qs:=by simp[cQ]
theorem nM(ps:List Pt):(cQ ps).length=3*ps.length:=by
 induction ps with
 |nil=>rfl
 |cons q qs ih=>simp[cQ]at *;omega
theorem qK:∀(ps:List Pt)(i:Nat),i<ps.length→(cQ ps)[i*3]? =some (aC aB (ps.getD i default).side)∧(cQ ps)[i*3+1]? =some (aA (bs (ps.getD i default).fr))∧(cQ ps)[i*3+2]? =some (aA (bs (ps.getD i default).en))
 |[],i,h=>by simp at h
 |q::qs,0,_=>⟨rfl,rfl,rfl⟩
 |q::qs,i+1,h=>by
  have ih:=qK qs i (by simpa using h)
  have e1:(i+1)*3=i*3+1+1+1:=by omega
  have e2:(i+1)*3+1=(i*3+1)+1+1+1:=by omega
  have e3:(i+1)*3+2=(i*3+2)+1+1+1:=by omega
  have e:cQ (q::qs)=aC aB q.side::aA (bs q.fr)::aA (bs q.en)::cQ qs:=rfl
  rw[e3,e2,e1,e]
  simp only[bC,nR]
  exact ih
theorem FE.own{w:aF}{cL e:Nat}{a:Option cO}{n cap:Nat}{ps:List Pt}(h:w.ownsRow cL e 3 (aD a n cap) n (cQ ps)):FE w a ps:=by
 intro i hi;have hl:=h.1;rw[nM]at hl;rcases h.2 with⟨_,h2⟩|⟨g,c,oL,hv,_⟩
 ·omega
 ·injection hv with e1 e2 e3;subst e1 e3;obtain⟨k1,k2,k3⟩:=qK ps i hi;refine⟨g,0,rfl,fun j hj=>?_⟩;rw[cC,dZ h (i*3+j) (by omega)];match j,hj with
  |0,_=>exact k1
  |1,_=>exact k2
  |2,_=>exact k3
theorem tQ:(Tryz.prog.info? 68).map (fun i=>(i.zero,i.size,i.bytes))=some (some (cF #[aC aB 0,aA ⟨#[]⟩,aA ⟨#[]⟩]),3,40):=by kernel_rfl
theorem TR:(Tryz.prog.info? 39).map (fun i=>(i.zero,i.size,i.bytes))=some (some (aD none 0 0),1,24):=by kernel_rfl
theorem zw{w:aF}{cM:Array fX}{rest:List fX}{o:fX}{a:mI}{Q:A5→mI→aF→Prop}(FN:o.guard=none)(s x:tE)
 (ho:o.op=.call {callee:=.builtin .append,args:= #[s,x],argTypes:= #[39,39]})(cL:Nat)
 (v:aP)(n:Nat)(xs:List aP)(hs:a.eval s=v)(dI:w.ownsRow cL 68 3 v n xs)
 (d:Int)(y z:ByteArray)(hx:a.eval x=aD (some ⟨w.heap.size,0,none⟩) 1 1)
 (Np:n+1≤2147483648)(jH:cL≤w.heap.size)
 (h:∀g cap w',w'.ownsRow cL 68 3 (aD (some ⟨g,0,none⟩) (n+1) cap) (n+1) (xs++[aC aB d,aA y,aA z])→cL≤g→w.grownBy w' v.ownBlock→
  NE aE cM Q rest (a.put o.dst (aD (some ⟨g,0,none⟩) (n+1) cap)) w'):
 NE aE cM Q (o::rest) a (w.alloc (aN #[aC aB d,aA y,aA z] 68)):=by
 obtain⟨i0,hi,yH,zB,sS⟩:=lI tQ;exact uE FN s x 39 ho cL 68 i0 (cF #[aC aB 0,aA ⟨#[]⟩,aA ⟨#[]⟩]) 3 40 underlying39 hi yH zB sS rfl (by decide) v n xs hs dI [aC aB d,aA y,aA z] hx rfl (by simp[kA]) Np (by decide) jH h
theorem TS{w:aF}{cM:Array fX}{rest:List fX}{o:fX}{a:mI}{Q:A5→mI→aF→Prop}(FN:o.guard=none)(s x:tE)
 (ho:o.op=.call {callee:=.builtin .append,args:= #[s,x],argTypes:= #[31,31]})(cL:Nat)
 (v:aP)(n:Nat)(xs:List aP)(hs:a.eval s=v)(dI:w.ownsRow cL 39 1 v n xs)
 (ad:Option cO)(m c:Nat)(hx:a.eval x=aD (some ⟨w.heap.size,0,none⟩) 1 1)
 (Np:n+1≤2147483648)(jH:cL≤w.heap.size)
 (h:∀g cap w',w'.ownsRow cL 39 1 (aD (some ⟨g,0,none⟩) (n+1) cap) (n+1) (xs++[aD ad m c])→cL≤g→w.grownBy w' v.ownBlock→
  NE aE cM Q rest (a.put o.dst (aD (some ⟨g,0,none⟩) (n+1) cap)) w'):
 NE aE cM Q (o::rest) a (w.alloc (aN #[aD ad m c] 39)):=by
 obtain⟨i0,hi,yH,zB,sS⟩:=lI TR;exact uE FN s x 31 ho cL 39 i0 (aD none 0 0) 1 24 underlying31 hi yH zB sS rfl (by decide) v n xs hs dI [aD ad m c] hx rfl (by simp[kA]) Np (by decide) jH h
def gJ(B:Nat)(W:aF)(v:aP)(IU:List Lp):Prop:=
 W.ownsRow B 39 1 v IU.length (IU.map Lp.v)∧∀l∈IU,W.ownsRow B 68 3 l.v l.ps.length (cQ l.ps)
theorem gJ.below{B:Nat}{W W':aF}{v:aP}{los:List Lp}(h:gJ B W v los)(hb:Below W.heap.size W W'):gJ B W' v los:=
 ⟨bJ h.1 hb,fun l hl=>bJ (h.2 l hl) hb⟩
theorem gJ.grow{B:Nat}{W W':aF}{v:aP}{los:List Lp}{l:Lp}{g cap:Nat}(h:gJ B W v los)(hl:W.ownsRow B 68 3 l.v l.ps.length (cQ l.ps))
 (hg:W.grownBy W' v.ownBlock)(dI:W'.ownsRow B 39 1 (aD (some ⟨g,0,none⟩) (los.length+1) cap) (los.length+1) (los.map Lp.v++[l.v])):
 gJ B W' (aD (some ⟨g,0,none⟩) (los.length+1) cap) (los++[l]):=by
 refine⟨by rw[bO,eV];exact dI,fun x hx=>?_⟩;rcases List.mem_append.1 hx with hx|hx
 ·exact(h.2 x hx).kept hg (pE (h.2 x hx) h.1 (by decide))
 ·rw[List.mem_singleton.1 hx];exact hl.kept hg (pE hl h.1 (by decide))
theorem gJ.reads{B:Nat}{W:aF}{a:Option cO}{n cap:Nat}{los:List Lp}(h:gJ B W (aD a n cap) los):E5 W a los:=by
 intro i hi;have hl:=bU hi (default:Lp);have h2:=h.2 _ hl;rcases h.1.2 with⟨_,h3⟩|⟨g,c,oL,hv,_⟩
 ·omega
 ·injection hv with e1 e2 e3;subst e1 e2 e3;refine⟨g,0,rfl,?_,FE.own h2⟩;rw[cC,dZ h.1 i (by omega)];simp[aG,hi]
def Kk(w:aF)(Gr:List (List Pt))(err:Int)(e:Ending)(w':aF):Prop:=
 (∃a cap,∃los:List Lp,e=bA (cK #[aD a Gr.length cap,aC aB err])∧los.map Lp.ps=Gr∧E5 w' a los)∧Below w.heap.size w w'
end
section
open Go.Shelf
def Tryz.grW_ren:iK:=⟨fun |4=>221|n=>n,fun |22=>169|25=>167|3=>3|4=>4|9=>9|20=>20|0=>0|n=>n,fun |n=>n⟩
theorem Tryz.grW:zY aE Tryz.grW_ren:={
 mixed:=by kernel_rfl
 f4:=⟨Tryz.f221.name,by decide,func221.trans (congrArg some (by kernel_rfl))⟩
 t0:=underlying0
 a0:=isAgg0
 z0:=sizeOf0
 v0:=zeroValue0
 t3:=dL
 a3:=jG
 z3:=iB
 v3:=zeroValue3
 t4:=underlying4
 a4:=isAgg4
 z4:=sizeOf4
 v4:=zeroValue4
 t9:=jN
 a9:=pY
 z9:=oJ
 v9:=zeroValue9
 t20:=underlying20
 a20:=isAgg20
 z20:=sizeOf20
 v20:=zeroValue20
 t22:=pq
 a22:=isAgg169
 z22:=sizeOf169
 v22:=zeroValue169}
open Go Go.RowKit Go.Lib Go.Shelf
structure Sl where
 b:Nat
 off:Nat
 len:Nat
 cap:Nat
 cs:List aP
deriving Inhabited
def Sl.v(l:Sl):aP:=aD (some ⟨l.b,l.off,none⟩) l.len l.cap
def Sl.ok(l:Sl):Prop:=l.cs.length=l.len*3∧∀u∈l.cs,u.oneCell'=true
def Sl.Rd(l:Sl)(W:aF):Prop:=∀(j:Nat)(u:aP),l.cs[j]? =some u→W.cell? ⟨l.b,l.off+j,none⟩=some u
def RdS(W:aF)(a:Option cO)(ls:List Sl):Prop:=∀i,i<ls.length→∃b off,a=some ⟨b,off,none⟩∧W.cell? ⟨b,off+i,none⟩=some (ls.getD i default).v∧(ls.getD i default).Rd W
theorem Sl.Rd.below{l:Sl}{W W':aF}(h:l.Rd W)(hb:Below W.heap.size W W'):l.Rd W':=fun j u hu=>(hb.cell (p:=⟨l.b,l.off+j,none⟩) (bB W _ (h j u hu))).trans (h j u hu)
theorem RdS.below{W W':aF}{a:Option cO}{ls:List Sl}(h:RdS W a ls)(hb:Below W.heap.size W W'):RdS W' a ls:=fun i hi=>by
 obtain⟨b,off,rfl,h1,h2⟩:=h i hi
 exact⟨b,off,rfl,(hb.cell (p:=⟨b,off+i,none⟩) (bB W _ h1)).trans h1,h2.below hb⟩
def gO(ls:List Sl):Nat→Nat
 |0=>0
 |k+1=>gO ls k+(ls.getD k default).len
def sT(ls:List Sl):List aP:=ls.flatMap Sl.cs
theorem IV{ls:List Sl}{k:Nat}(hk:k<ls.length):sT (ls.take (k+1))=sT (ls.take k)++(ls.getD k default).cs:=by
 unfold sT;rw[cN hk,lK];simp[aG,hk]
theorem KQ{ls:List Sl}{n:Nat}(h:∀i,i<n→(ls.getD i default).len≤10000):∀k,k≤n→gO ls k≤k*10000
 |0,_=>aH _
 |k+1,hk=>by
  have h1:=KQ h k (by omega)
  have h2:=h k (by omega)
  rw[gO,PW];omega
theorem L6:(Tryz.prog.info? 167).map (fun i=>(i.zero,i.size,i.bytes))=some (some (cF #[aC aB 0,aC aB 0,aC aB 0]),3,24):=by kernel_rfl
theorem growW(n:Nat)(w:aF)(h0:0<n)(hn:n≤100000000):
 bE aE 221 #[aD none 0 0,aC aB n] w fun e w'=>(∃g cap,e=bA (aD (some ⟨g,0,none⟩) 0 cap)∧w'.ownsRow w.heap.size 167 3 (aD (some ⟨g,0,none⟩) 0 cap) 0 [])∧Below w.heap.size w w':=by
 obtain⟨i0,hi,yH,zB,sS⟩:=lI L6;have H:=Any8.slices_Grow_grow Tryz.grW i0 (cF #[aC aB 0,aC aB 0,aC aB 0]) hi yH (by rw[zB];decide) none 0 0 n [] w (aH _) (by omega) (by rw[sS];omega) (by omega) (by simp) (fun _=>rfl) (fun a e=>(by cases e));refine Calls.mono H ?_;rintro e w'⟨rfl,rfl⟩;refine⟨⟨w.heap.size,_,rfl,rfl,.inr ⟨w.heap.size,_,_,rfl,aH _,jR w.drew _,bM _,?_,?_,rfl⟩⟩,((aL _ w).drew.alloc (by simp) _)⟩
 ·exact grownCap_le_maxLen w _ _ _ (by unfold Cm;omega)
 ·have:=grownCap_ge w (0+n) 0 (Tryz.grW_ren.t 25);rw[mS,mS,zS,zS];simp only[Value.cells,cD,bD,bV];generalize grownCap w (0+n) 0 (Tryz.grW_ren.t 25)=c at *;omega
theorem appW{w:aF}{cM:Array fX}{rest:List fX}{o:fX}{a:mI}{Q:A5→mI→aF→Prop}(FN:o.guard=none)(s x:tE)
 (ho:o.op=.call {callee:=.builtin .append,args:= #[s,x],argTypes:= #[169,169]})(cL:Nat)
 (gv cv n:Nat)(xs:List aP)(hs:a.eval s=aD (some ⟨gv,0,none⟩) n cv)(dI:w.ownsRow cL 167 3 (aD (some ⟨gv,0,none⟩) n cv) n xs)
 (l:Sl)(hx:a.eval x=l.v)(hl:l.ok)(hr:l.Rd w)(Np:n+l.len≤100000000)(jH:cL≤w.heap.size)
 (h:∀g cap w',w'.ownsRow cL 167 3 (aD (some ⟨g,0,none⟩) (n+l.len) cap) (n+l.len) (xs++l.cs)→cL≤g→w.grownBy w' (some gv)→
  NE aE cM Q rest (a.put o.dst (aD (some ⟨g,0,none⟩) (n+l.len) cap)) w'):
 NE aE cM Q (o::rest) a w:=by
 obtain⟨i0,hi,yH,zB,sS⟩:=lI L6;refine wpList_append_own _ FN s x 169 ho cL 167 i0 (cF #[aC aB 0,aC aB 0,aC aB 0]) 3 24 pq hi yH zB sS rfl (by decide) _ n xs hs dI ⟨l.b,l.off,none⟩ l.len l.cap l.cs hx hl.1 (fun j u hj=>by rw[Addr.add_lit];exact hr j u hj) hl.2
  (by unfold Cm;omega) (by omega) jH ?_
 intro v' w' lL hg Iu;rcases lL.2 with⟨h1,h2⟩|⟨g',FO,oL,hv,h3,-⟩
 ·have:=(Iu.1 h1).1;cases this
 ·subst hv;exact h g' FO w' lL h3 hg
theorem concatW(a:Option cO)(n ca:Nat)(ls:List Sl)(w:aF)(hl:ls.length=n)(hn:n≤1000)(nL:∀l∈ls,l.len≤10000∧l.ok)(hpos:0<gO ls n)(rl:RdS w a ls):
 bE aE 173 #[aD a n ca] w fun e w'=>(∃g cap,e=bA (aD (some ⟨g,0,none⟩) (gO ls n) cap)∧w'.ownsRow w.heap.size 167 3 (aD (some ⟨g,0,none⟩) (gO ls n) cap) (gO ls n) (sT ls))∧Below w.heap.size w w':=by
 have Cd:∀i,i<n→(ls.getD i default).len≤10000∧(ls.getD i default).ok:=fun i hi=>nL _ (bU (by omega) default);have Kl:∀k,k≤n→gO ls k≤k*10000:=fun k hk=>KQ (fun i hi=>(Cd i (by omega)).1) k hk;have Bo:∀k,k≤n→gO ls k≤10000000:=fun k hk=>by have:=Kl k hk;have:k*10000≤1000*10000:=pX _ (by omega);omega
 have HA:bK (∀k,k<n→sT (ls.take (k+1))=sT (ls.take k)++(ls.getD k default).cs):=fun k hk=>IV (by omega);have HAn:bK (sT (ls.take n)=sT ls):=by show _=_;rw[eM (by omega)]
 have Hm:bK (∀k,k<n→gO ls (k+1)=gO ls k+(ls.getD k default).len):=fun k _=>rfl;have Hb:=zq Bo;have Hok:=zq Cd;have Hl:=zq hl;have Rl:=zq rl;have HG:=zq (fun W=>growW (gO ls n) W hpos (by have:=Bo n (aH _);omega));have hbn:=Bo n (aH _);clear hl nL rl Kl Bo Cd;go_enter func173,ntmps173;go_wp2;go_loop [3,11] (fun s i=>∃k:Nat,i=aC aB k∧k≤n∧s=aC aB (gO ls k:Nat)) (fun _ i=>n-(aK i).toNat);case atStart=>exact⟨0,rfl,bM _,rfl⟩
 case round=>
  obtain⟨k,rfl,hk,rfl⟩:=hrel;by_cases hlt:k<n
  ·obtain⟨lb,lo,rfl,c0,-⟩:=Rl.out k (by rw[Hl.out];exact hlt);have b1:=Hb.out k hk;have b2:=Hb.out (k+1) hlt;have e2:=Hm.out k hlt;have HE:=zq e2;rw[e2]at b2;clear e2;generalize ls.getD k default=l at *;unfold Sl.v at c0;generalize l.len=m at *;generalize l.b=la at *;generalize l.off=lof at *;generalize l.cap=lc at *;obtain⟨s1,tL⟩:∃s,gO ls (k+1)=s:=⟨_,rfl⟩;rw[tL]at HE;have L7:=zq tL;clear tL;generalize gO ls k=s0 at *;go_wp2;go_round;case rel=>exact⟨k+1,by go_num,by omega,by rw[L7.out,HE.out];go_num⟩
   case measure=>simp only[aK];omega
  ·obtain rfl:n=k:=by omega
   obtain⟨N,hN⟩:∃N,gO ls n=N:=⟨_,rfl⟩;rw[hN]at HG hbn⊢;have HN:=zq hN;clear hN hpos;go_wp2_with fail
   refine(HG.out _).mono ?_;rintro e W1⟨⟨g0,Xh,rfl,CM⟩,hb1⟩;have eC:=zq hb1;have LC:=zq CM;clear hb1 CM HG;go_wp2;go_loopw[6,27] (fun o i wr=>∃(k g cap:Nat),i=aC aB k∧k≤n∧o=aD (some ⟨g,0,none⟩) (gO ls k) cap∧bK (wr.ownsRow w.heap.size 167 3 (aD (some ⟨g,0,none⟩) (gO ls k) cap) (gO ls k) (sT (ls.take k)))∧bK (Below w.heap.size w wr)) (fun _ i _=>n-(aK i).toNat);case atStart=>exact⟨0,g0,Xh,rfl,bM _,rfl,LC.out,eC.out⟩
   case round=>
    clear eC LC;obtain⟨k,g,cap,rfl,hk,rfl,pU,HB⟩:=hrel;by_cases hlt2:k<n
    ·obtain⟨lb,lo,rfl,c0,rp⟩:=(Rl.out.below HB.out) k (by rw[Hl.out];exact hlt2);have HE:=zq (Hm.out k hlt2);have b2:=Hb.out (k+1) hlt2;rw[HE.out]at b2;have OB:=zq (HA.out k hlt2);have Rp:=zq rp;have Ok:=zq (Hok.out k hlt2).2;clear rp;generalize ls.getD k default=l at *;obtain⟨lbb,lof,m,lc,cs⟩:=l;unfold Sl.v at c0;simp only[]at *;obtain⟨s1,tL⟩:∃s,gO ls (k+1)=s:=⟨_,rfl⟩;rw[tL]at HE;have L7:=zq tL;clear tL;generalize gO ls k=s0 at *;have dI:=pU.out;have NT:=HB.out.size;have hb3:s0+m≤100000000:=by omega
     go_wp2_with (at_builtin;refine appW rfl _ _ rfl w.heap.size g cap s0 _ rfl dI ⟨lbb,lof,m,lc,cs⟩ rfl Ok.out Rp.out hb3 NT ?_;intro g5 LR w5 iV Zr oS;simp only[]at iV)
     have xX:=zq (dO (v:=aD (some ⟨g,0,none⟩) s0 cap) HB.out oS dI (aH _) NT);rw[←OB.out,←HE.out]at iV;have QD:=zq iV;clear dI iV oS;go_wp2;go_roundw;case rel=>exact⟨k+1,g5,LR,by go_num,by omega,by rw[L7.out,HE.out],by rw[L7.out];exact QD.out,xX.out⟩
     case measure=>simp only[aK];omega
    ·obtain rfl:n=k:=by omega
     rw[HAn.out,HN.out]at pU;rw[HN.out];go_wp2;go_ret;exact⟨⟨g,cap,by first |rfl|(rw[HN.out];rfl),by rw[HN.out];exact pU.out⟩,HB.out⟩
end
section
section
variable{α:Type}{lt:α→α→Prop}
end
section
variable{α:Type}{f:α→α}{S:List α}
structure L8(f:α→α)(S:List α):Prop where
 mem:∀w∈S,f w∈S
 inj:∀v∈S,∀w∈S,f v=f w→v=w
theorem L8.itr_mem(h:L8 f S){w:α}(hw:w∈S)(k:Nat):jY f k w∈S:=by
 induction k with
 |zero=>exact hw
 |succ k ih=>exact h.mem _ ih
theorem L8.back[DecidableEq α](h:L8 f S){w:α}(hw:w∈S):∃k,0<k∧k≤S.length∧jY f k w=w∧∀j,0<j→j<k→jY f j w≠w:=by
 obtain⟨k,h1,h2,h3⟩:=vg h.mem h.inj hw;have:∀n k,k≤n→0<k→jY f k w=w→∃k',0<k'∧k'≤k∧jY f k' w=w∧∀j,0<j→j<k'→jY f j w≠w:=by
  intro n;induction n with
  |zero=>intro k h1 h2;omega
  |succ n ih=>
   intro k hk h1 h3;by_cases he:∃j,0<j∧j<k∧jY f j w=w
   ·obtain⟨j,q1,q2,q3⟩:=he;obtain⟨k',r1,r2,r3,r4⟩:=ih j (by omega) q1 q3;exact⟨k',r1,by omega,r3,r4⟩
   ·exact⟨k,h1,aH _,h3,fun j q1 q2 q3=>he ⟨j,q1,q2,q3⟩⟩
 obtain⟨k',r1,r2,r3,r4⟩:=this k k (aH _) h1 h3;exact⟨k',r1,by omega,r3,r4⟩
theorem L8.apart(h:L8 f S){w:α}(hw:w∈S){k:Nat}(hk:∀j,0<j→j<k→jY f j w≠w):∀i j,i<j→j<k→jY f i w≠jY f j w:=by
 intro i;induction i with
 |zero=>intro j h1 h2 e;exact hk j h1 h2 e.symm
 |succ i ih=>
  intro j h1 h2 e;have ej:j=(j-1)+1:=by omega
  rw[ej]at e;exact ih (j-1) (by omega) (by omega) (h.inj _ (h.itr_mem hw i) _ (h.itr_mem hw (j-1)) e)
theorem L9{w:α}{k:Nat}(hk:jY f k w=w){U:α→Prop}(hU:∀v,U v→U (f v))(hw:¬U w):∀j,j≤k→¬U (jY f j w):=by
 intro j hj hu;have:∀i,U (jY f (i+j) w):=fun i=>by
  induction i with
  |zero=>rw[cC];exact hu
  |succ i ih=>rw[show i+1+j=(i+j)+1 by omega];exact hU _ ih
 have h1:=this (k-j);rw[show k-j+j=k by omega,hk]at h1;exact hw h1
def kP(f:α→α)(w:α)(k:Nat):List α:=(dD k).map fun j=>jY f j w
theorem CN(w:α)(k:Nat):(kP f w k).length=k:=by rw[kP,aZ,List.length_range]
theorem gh(w:α)(k:Nat):kP f w (k+1)=kP f w k++[jY f k w]:=by rw[kP,kP,List.range_succ,eV];rfl
theorem oT{w:α}{k:Nat}{v:α}:v∈kP f w k↔∃j,j<k∧jY f j w=v:=by
 rw[kP,List.mem_map];constructor
 ·rintro⟨j,h1,h2⟩;exact⟨j,List.mem_range.1 h1,h2⟩
 ·rintro⟨j,h1,h2⟩;exact⟨j,List.mem_range.2 h1,h2⟩
theorem gj{w:α}{k:Nat}(h0:0<k)(hk:jY f k w=w):∀v∈kP f w k,f v∈kP f w k:=by
 intro v hv;obtain⟨j,h1,rfl⟩:=oT.1 hv;by_cases e:j+1=k
 ·exact oT.2 ⟨0,h0,by show w=jY f (j+1) w;rw[e,hk]⟩
 ·exact oT.2 ⟨j+1,by omega,rfl⟩
end
section
variable{κ τ:Type}[DecidableEq κ](key:Nat→κ)(lo hi:Nat→τ)(z:τ)
def Zu:List (κ×τ×τ)→τ→List (κ×τ×τ)
 |[],_=>[]
 |(k,a,_)::l,h=>(k,a,h)::l
def Aw:Nat→List (κ×τ×τ)
 |0=>[]
 |i+1=>if i=0∨key (i-1)≠key i then(key i,lo i,hi i)::Aw i else Zu (Aw i) (hi i)
end
end
section
open Go Go.RowKit Go.Lib
def fL(l:List Wy):List aP:=l.flatMap fun w=>[aC aB w.x,aC aB w.y,aC aB w.d]
theorem yM(l:List Wy):(fL l).length=l.length*3:=by
 induction l with
 |nil=>rfl
 |cons q qs ih=>simp[fL]at *;omega
theorem JN(a b:List Wy):fL (a++b)=fL a++fL b:=by simp[fL]
theorem JO(l:List Wy):∀u∈fL l,u.oneCell'=true:=by
 intro u hu;obtain⟨p,-,h⟩:=List.mem_flatMap.1 hu;simp only[List.mem_cons,List.not_mem_nil,or_false]at h;rcases h with rfl|rfl|rfl<;>rfl
theorem Fa:∀(l:List Wy)(i:Nat),i<l.length→(fL l)[i*3]? =some (aC aB (l.getD i default).x)∧(fL l)[i*3+1]? =some (aC aB (l.getD i default).y)∧(fL l)[i*3+2]? =some (aC aB (l.getD i default).d)
 |[],i,h=>by simp at h
 |q::qs,0,_=>⟨rfl,rfl,rfl⟩
 |q::qs,i+1,h=>by
  have:=Fa qs i (by simpa using h)
  have e:fL (q::qs)=[aC aB q.x,aC aB q.y,aC aB q.d]++fL qs:=rfl
  rw[e,gA (by simp;omega),gA (by simp;omega),gA (by simp;omega)]
  simp only[bD,bV,nR]
  rw[show(i+1)*3-(0+1+1+1)=i*3 by omega,show(i+1)*3+1-(0+1+1+1)=i*3+1 by omega,show(i+1)*3+2-(0+1+1+1)=i*3+2 by omega]
  exact this
def CO(W:aF)(b off:Nat)(l:List Wy):Prop:=∀i,i<l.length→W.cell? ⟨b,off+i*3,none⟩=some (aC aB (l.getD i default).x)∧W.cell? ⟨b,off+i*3+1,none⟩=some (aC aB (l.getD i default).y)∧W.cell? ⟨b,off+i*3+2,none⟩=some (aC aB (l.getD i default).d)
theorem CO.below{W W':aF}{b off:Nat}{l:List Wy}(h:CO W b off l)(hb:Below W.heap.size W W'):CO W' b off l:=fun i hi=>by
 obtain⟨h1,h2,h3⟩:=h i hi
 exact⟨(hb.cell (p:=⟨b,_,none⟩) (bB W _ h1)).trans h1,(hb.cell (p:=⟨b,_,none⟩) (bB W _ h2)).trans h2,(hb.cell (p:=⟨b,_,none⟩) (bB W _ h3)).trans h3⟩
theorem CO.cells{W:aF}{b off:Nat}{l:List Wy}(h:CO W b off l)(j:Nat)(u:aP)(hu:(fL l)[j]? =some u):W.cell? ⟨b,off+j,none⟩=some u:=by
 have hj:j<(fL l).length:=by
  rcases fP j (fL l).length with h|h
  ·exact h
  ·rw[List.getElem?_eq_none h]at hu;cases hu
 rw[yM]at hj;have hi:j/3<l.length:=by omega
 obtain⟨k1,k2,k3⟩:=Fa l (j/3) hi;obtain⟨c1,c2,c3⟩:=h (j/3) hi;have hr:j%3=0∨j%3=1∨j%3=2:=by omega
 rcases hr with r|r|r
 ·rw[show j=j/3*3 by omega,k1]at hu;rw[show off+j=off+j/3*3 by omega,c1];exact hu
 ·rw[show j=j/3*3+1 by omega,k2]at hu;rw[show off+j=off+j/3*3+1 by omega,c2];exact hu
 ·rw[show j=j/3*3+2 by omega,k3]at hu;rw[show off+j=off+j/3*3+2 by omega,c3];exact hu
theorem CO.part{W:aF}{b:Nat}{l:List Wy}(h:CO W b 0 l)(k:Nat):CO W b (k*3) (l.drop k):=fun i hi=>by
 rw[eZ]at hi
 have:=h (k+i) (by omega)
 rw[show(l.drop k).getD i default=l.getD (k+i) default by simp[aG]]
 rwa[show 0+(k+i)*3=k*3+i*3 by omega]at this
theorem CO.front{W:aF}{b off:Nat}{l:List Wy}(h:CO W b off l)(k:Nat):CO W b off (l.take k):=fun i hi=>by
 rw[fU]at hi
 have:=h i (by omega)
 rwa[show(l.take k).getD i default=l.getD i default by simp[aG,List.getElem?_take,show i<k by omega]]
theorem CO.own{W:aF}{cL g n cap:Nat}{T:dT}{l:List Wy}(h:W.ownsRow cL T 3 (aD (some ⟨g,0,none⟩) n cap) n (fL l)):CO W g 0 l:=fun i hi=>by
 have hl:=h.1
 rw[yM]at hl
 obtain⟨h1,h2,h3⟩:=Fa l i hi
 rw[cC]
 exact⟨by rw[dZ h _ (by omega),h1],by rw[dZ h _ (by omega),h2],by rw[dZ h _ (by omega),h3]⟩
section
variable(S:WL)(xs ys:List (List UInt8))
def Xi(w:Wy):List UInt8:=Bm xs ys w.x.toNat w.y.toNat w.d
def TU(w:Wy):List UInt8:=Bm xs ys (jE w.x w.d).toNat (jF w.y w.d).toNat w.d
def QH(w:Wy):Nat×Int:=(w.d,rR S w)
theorem DA(a b:Wy):nT S a b=decide (QH S a=QH S b):=by
 unfold nT QH;rw[pI,Bool.and_eq_true,decide_eq_true_eq,decide_eq_true_eq,decide_eq_true_eq,KG]
def toPt(e:(Nat×Int)×List UInt8×List UInt8):Pt:=⟨e.1.2,e.2.1,e.2.2⟩
def iZ(l:List Wy)(k:Nat):List Pt:=(Aw (fun i=>QH S (l.getD i default)) (fun i=>Xi xs ys (l.getD i default)) (fun i=>TU xs ys (l.getD i default)) k).reverse.map toPt
theorem Ma{l:List Wy}{k:Nat}(h:k=0∨nT S (l.getD (k-1) default) (l.getD k default)=false):iZ S xs ys l (k+1)=iZ S xs ys l k++[⟨rR S (l.getD k default),Xi xs ys (l.getD k default),TU xs ys (l.getD k default)⟩]:=by
 unfold iZ;rw[Aw,ip]
 ·rw[Js,eV];rfl
 ·rcases h with h|h
  ·exact .inl h
  ·rw[DA,decide_eq_false_iff_not]at h;exact .inr h
theorem IW{κ τ:Type}[DecidableEq κ](key:Nat→κ)(lo hi:Nat→τ):∀k,0<k→∃e l,Aw key lo hi k=e::l
 |0,h=>absurd h (by decide)
 |k+1,_=>by
  rw[Aw]
  split
  ·exact⟨_,_,rfl⟩
  ·rename_i hn
   obtain⟨e,l,h⟩:=IW key lo hi k (by
    rcases Nat.eq_zero_or_pos k with e|e
    ·exact absurd (.inl e) hn
    ·exact e)
   rw[h]
   obtain⟨a,b,c⟩:=e
   exact⟨_,_,rfl⟩
theorem JP{l:List Wy}{k:Nat}(h0:0<k)(h:nT S (l.getD (k-1) default) (l.getD k default)=true):∃qs s a z,iZ S xs ys l k=qs++[⟨s,a,z⟩]∧iZ S xs ys l (k+1)=qs++[⟨s,a,TU xs ys (l.getD k default)⟩]:=by
 unfold iZ;rw[DA,decide_eq_true_eq]at h;rw[Aw,iN (fun c=>c.elim (fun e=>by omega) (fun e=>e h))];obtain⟨e,t,he⟩:=IW (fun i=>QH S (l.getD i default)) (fun i=>Xi xs ys (l.getD i default)) (fun i=>TU xs ys (l.getD i default)) k h0;rw[he];obtain⟨a,b,c⟩:=e;exact⟨_,_,_,_,by rw[Js,eV];rfl,by rw[Zu,Js,eV];rfl⟩
theorem zx{κ τ:Type}[DecidableEq κ](key:Nat→κ)(lo hi:Nat→τ)(k:Nat):(Aw key lo hi k).length≤k:=by
 induction k with
 |zero=>exact aH _
 |succ k ih=>
  rw[Aw];split
  ·rw[bD];omega
  ·have:(Zu (Aw key lo hi k) (hi k)).length=(Aw key lo hi k).length:=by
    cases Aw key lo hi k with
    |nil=>rfl
    |cons e l=>obtain⟨a,b,c⟩:=e;rfl
   omega
theorem Mb(l:List Wy)(k:Nat):(iZ S xs ys l k).length≤k:=by
 unfold iZ;rw[aZ,bm];exact zx _ _ _ _
theorem Mc(l:List Wy){k:Nat}(h:0<k):0<(iZ S xs ys l k).length:=by
 unfold iZ;obtain⟨e,t,he⟩:=IW (fun i=>QH S (l.getD i default)) (fun i=>Xi xs ys (l.getD i default)) (fun i=>TU xs ys (l.getD i default)) k h;rw[he,aZ,bm,bD];omega
def kX(l:List Wy):Nat→Nat
 |0=>0
 |k+1=>if kX l k=k then(if nT S (l.getD ((k+l.length-1)%l.length) default) (l.getD k default)=true then k+1 else k)else kX l k
def eN(l:List Wy):Nat:=if kX S l l.length=l.length then 0 else kX S l l.length
theorem gk(l:List Wy)(k:Nat):kX S l k≤k:=by
 induction k with
 |zero=>exact aH _
 |succ k ih=>unfold kX;split <;>(try split)<;>omega
theorem JQ{l:List Wy}{k:Nat}(h:kX S l k<k):∀j,kX S l (k+j)=kX S l k:=by
 intro j;induction j with
 |zero=>rfl
 |succ j ih=>rw[←Nat.add_assoc,kX,iN (by omega),ih]
def Fb(l:List Wy)(k:Nat):List Wy:=l.drop k++l.take k
def fA(l:List Wy):List Pt:=iZ S xs ys (Fb l (eN S l)) l.length
theorem zy(l:List Wy){k:Nat}(h:k≤l.length):(Fb l k).length=l.length:=by unfold Fb;rw[bO,eZ,fU];omega
theorem gn{l:List Wy}(h:0<l.length):eN S l<l.length:=by
 unfold eN;have:=gk S l l.length;split <;>omega
theorem Gx{l:List Wy}{k:Nat}{w:Wy}(h:w∈Fb l k):w∈l:=by
 unfold Fb at h;rcases List.mem_append.1 h with h|h
 ·exact List.mem_of_mem_drop h
 ·exact List.mem_of_mem_take h
end
theorem KR{w W:aF}{c1 c2:Array aP}{T1 T2:dT}(h:(w.alloc (aN c1 T1)).alloc (aN c2 T2)=W):
 bT W w.heap.size c1 T1∧bT W (w.heap.size+1) c2 T2∧Below w.heap.size w W:=by
 subst h;have:=bT.new (w.alloc (aN c1 T1)) c2 T2;rw[bH]at this;exact⟨(bT.new w _ _).alloc _,this,((aL _ _).alloc (aH _) _).alloc (by simp) _⟩
theorem idx4(a b c e:Int)(d:Nat)(hd:d<4)(w:aF):Sem.run aE (Instr.index 288 (cF #[aC aB a,aC aB b,aC aB c,aC aB e]) (aC aB d)) w=.ok (aC aB ([a,b,c,e].getD d 0)) w:=by
 match d,hd with
 |0,_=>first |kernel_rfl|rfl
 |1,_=>first |kernel_rfl|rfl
 |2,_=>first |kernel_rfl|rfl
 |3,_=>first |kernel_rfl|rfl
theorem wO(x y:Int)(d:Nat)(hd:d<4)(w:aF)(hx: -1000000≤x∧x≤1000000)(hy: -1000000≤y∧y≤1000000):
 bE aE 169 #[cF #[aC aB x,aC aB y],aC aB d] w (Rt (cF #[aC aB (jE x d),aC aB (jF y d)]) w):=by
 have I1:=fun W=>idx4 1 0 (-1) 0 d hd W;have I2:=fun W=>idx4 0 1 0 (-1) d hd W;obtain⟨u,hu⟩:∃u,[1,0,-1,0].getD d (0:Int)=u:=⟨_,rfl⟩;obtain⟨v,hv⟩:∃v,[0,1,0,-1].getD d (0:Int)=v:=⟨_,rfl⟩;rw[hu]at I1;rw[hv]at I2;have hux:jE x d=x+u∧jF y d=y+v∧-1≤u∧u≤1∧-1≤v∧v≤1:=by
  rw[←hu,←hv];match d,hd with
  |0,_=>exact⟨rfl,(lJ y).symm,by decide,by decide,by decide,by decide⟩
  |1,_=>exact⟨(lJ x).symm,rfl,by decide,by decide,by decide,by decide⟩
  |2,_=>exact⟨rfl,(lJ y).symm,by decide,by decide,by decide,by decide⟩
  |3,_=>exact⟨(lJ x).symm,rfl,by decide,by decide,by decide,by decide⟩
 obtain⟨hX,hY,u1,u2,v1,v2⟩:=hux;rw[hX,hY];have wx:IntKind.i64.wrap (x+u)=x+u:=bI _ (by omega);have wy:IntKind.i64.wrap (y+v)=y+v:=bI _ (by omega);clear hu hv hX hY u1 u2 v1 v2 hx hy;obtain⟨q,hq⟩:∃q,x+u=q:=⟨_,rfl⟩;obtain⟨r,hr⟩:∃r,y+v=r:=⟨_,rfl⟩;rw[hq]at wx⊢;rw[hr]at wy⊢;have wx:IntKind.i64.wrap (x+u)=q:=by rw[hq];exact wx
 have wy:IntKind.i64.wrap (y+v)=r:=by rw[hr];exact wy
 clear hq hr;have hdi:(d:Int)<4:=by omega
 have B2:=KR (w:=w) (c1:= #[aC aB x,aC aB y]) (c2:= #[aC aB 0,aC aB 0]) (T1:=165) (T2:=165) rfl;obtain⟨q1,q2,hb⟩:=B2;have k0:=q1.cell 0;have k1:=q1.cell 1;have k2:=q2.fz 0;have k3:=q2.fz 1;simp only[aJ,aI,bC]at k0 k1;have l1:=q1.lt;have l2:=q2.lt;have HB:=zq hb;clear hb;go_enter func169,ntmps169;go_wp2;go_region;all_goals
  go_wp2;refine dU (Aq (T:=165) Tryz.results169 _ _ (w.heap.size+1) _ _ rfl (KR (c1:= #[aC aB x,aC aB y]) (c2:= #[aC aB q,aC aB r]) (T1:=165) (T2:=165) rfl).2.1 isAgg165 sizeOf165) rfl ⟨rfl,(((aL _ w).alloc (aH _) _).alloc (by simp) _).drew⟩
end
end Go.Proofs.YtkchhginppjaiaaGreatDoor
