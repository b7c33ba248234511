import Derived.Deep.Strs
import Derived.OpenShut
import Derived.Test.YtncclggcfgnhpaaGreatDoorRows
import Derived.Test.YtncclggcfgnhpaaGreatDoorCards
import Derived.Test.YtncclggcfgnhpaaGreatDoorTie
import Derived.ProofKit
import Derived.Lay
import Derived.LaidSub
import Derived.HandedShaped
import Derived.SevenTiedAt
import Derived.Test.YtncclggcfgnhpaaGreatDoorZ10
namespace Go.Proofs.YtncclggcfgnhpaaGreatDoor
set_option maxRecDepth 100000
set_option maxHeartbeats 8000000
set_option linter.all false
open Go.Proofs.Tryz
open _root_.Bool renaming true->ι,false->ν,and_eq_true->aI,false_eq_true->aK,true_and->iO
open _root_.Classical renaming byContradiction->aG
open _root_.Go renaming World->η,Calls->aE,Addr->bW
open Go.Ending renaming returned->σ
open Go.IntKind renaming i64->Ξ
open Go.Obj renaming cells->π
open Go.Proofs.Tryz renaming prog->γ
open Go.RowKit renaming Hid->aQ
open Go.RowKit.Below renaming refl->μ
open Go.Value renaming string->Δ,slice->Θ,int->Υ,bool->ω,tuple->bT
open _root_.Inhabited renaming default->Γ
open _root_.Int renaming mul_zero->pU,zero_mul->Ge
open _root_.List renaming getD_eq_getElem?_getD->Ω,length_map->υ,length_cons->aC,getElem?_eq_getElem->aS,range->cI,mem_map_of_mem->dC,map_congr_left->eB,map_append->dV,map_cons->fN,flatMap_def->fT,flatMap_cons->gS,flatten_cons->jP,map->oO,range_succ->sB,getElem?_map->oP,map_nil->wS,mem_range->xS,map_flatten->Mv
open _root_.Nat renaming le_refl->θ,mod_lt->aV,reduceAdd->cL,add_zero->jN,reduceMod->tX
open _root_.Option renaming none->δ,some->ζ,getD_some->bK
open _root_.Prod renaming fst->Bl,snd->Bm
open _root_.Rat renaming le_of_lt->gZ,mul_nonneg->AY,le_refl->OY
variable{i N t j k r:Nat}{aZ ls:List Lp}{rs:List Rg}{fs:List Fr}{z:List UInt8}{s:Sg}{X Y:Int}{w:Wy}{e:Rat}{E:List Sg}{α:Type}{at':List (List UInt8)}{ps:List Pt}{a:bW}
section
open Go Go.Lib
section
variable{rs:List Rg}{N:Nat}(hl:rs.length=N)(LH:0<N)(hC:∀r,C8 (aF rs r))(DR:C8 (cK rs))(il:∀r k,r<N->k<(aF rs r).length->yT ((aF rs r).getD k Γ)=ι)
 {b:List UInt8}(hb:oL (cK rs) (fP (aF rs) N) (bY (aF rs) N) b)(hmin:∀z,oL (cK rs) (fP (aF rs) N) (bY (aF rs) N) z->bZ b<=bZ z)
include hC il
theorem aP7(hi:i<bY (aF rs) N):((fP (aF rs) N).getD i Γ).Ok:=by
 obtain⟨r,k,h1,h2,rfl⟩:=Hw (aF rs) N i hi;rw[vC _ _ h1 h2];exact(ar1 (il r k h1 h2) (hC r k)).1
theorem aY9:∀ f∈fP (aF rs) N,f.Ok:=fun f hf=>by
 obtain⟨i,hi,rfl⟩:=List.mem_iff_getElem.1 hf
 have:=aP7 hC il (i:=i) (by rw [<- nG];exact hi)
 rwa [Ω,aS hi,bK] at this
include hb
theorem aJ1:Lz b:=by
 obtain⟨i,hi,-,rfl⟩:=hb;have h:=aP7 hC il hi;have e:((fP (aF rs) N).getD i Γ).st=aO ((fP (aF rs) N).getD i Γ).q.t:=by
  have:=congrArg Fr.st h.good.2;rw[<-this];rfl
 rw[e];exact Lz.of (BW h.good.1)
omit hb hC il
include hl hmin
theorem aJ2:dL (fP (aF rs) N) b=bv9 (fP (aF rs) N):=by
 unfold dL bv9;refine eB fun f hf=>?_;obtain⟨i,hi,rfl⟩:=List.mem_iff_getElem.1 hf;rw[nG]at hi;obtain⟨r,k,h1,h2,rfl⟩:=Hw (aF rs) N i hi;have e:=vC (aF rs) N h1 h2;rw[Ω,aS (by rw[nG];exact hi),bK]at e;have es:=zI (rs:=rs) oM h2;rw[e];unfold J0;congr 1;unfold FQ.pos;split
 .rfl
 .rename_i Zy;by_cases hg:((aF rs r).getD k Γ).gable=ι
  .have hv:(Pf ((aF rs r).getD k Γ) (fR (aF rs r) k)).q.v=0:=by
    show bZ (if((aF rs r).getD k Γ).gable=ι then[48]else _)=0;rw[ip hg];have:=iI 0;rw[zB]at this;exact this
   rw[hv,Rat.mul_zero,Rat.zero_mul,Rat.add_zero];rfl
  .exfalso;refine Zy ?_;have:=hmin (Pf ((aF rs r).getD k Γ) (fR (aF rs r) k)).st ⟨_,hi,by rw[es];simpa using hg,by rw[vC _ _ h1 h2]⟩;exact this
end
section
variable{rs:List Rg}{N:Nat}(hl:rs.length=N)(LH:0<N)(hC:∀r,C8 (aF rs r))(DR:C8 (cK rs))(xC:∀r,r<N->pE (aF rs r)=ι)(hcr:EO (aF rs) N=ν)(CW:Ba (aF rs) N=ι)
include hl LH hC DR xC hcr CW
theorem au1(h:aZ.map Lp.ps=Cv rs N):∀ ps∈nY (fP (aF rs) N) (bv9 (fP (aF rs) N)) aZ,∃ r,r < N/\at5 rs N r ps:=by
 have AU:(aZ.flatMap Lp.ps).Perm ((KM rs N).flatMap Lp.ps):=by
  rw [fT,fT,h,bo];unfold Cv sV;exact(List.Perm.flatten (mK _)).trans (FH _ _ _)
 rw [Kv AU fun p hp=>by
  have:=Xz hl hC DR (AU.mem_iff.1 hp);exact⟨this.x,this.y⟩]
 obtain⟨rl,h1,h2⟩:=T9 (fs:=fP (aF rs) N) (at':=bv9 (fP (aF rs) N)) (ls:=KM rs N) (xs:=gX rs N) (ys:=gY rs N)
  (fun p hp=>by obtain⟨r,k,hr,hk,rfl⟩:=Jf hp;exact aP6 hl hC DR xC hr hk) (mr hl LH hC DR xC hcr CW).brd
 intro ps lI;unfold nY at lI;rw [h2] at lI;obtain⟨y,hy,rfl⟩:=List.mem_map.1 lI;have hy1:y.1 < N:=by
  have:=h1.mem_iff.1 (dC hy);rwa [xS,MV] at this
 rw [FG rs hy1,sX];have h4:=(kY (xC y.1 hy1)).1;refine⟨y.1,hy1,sP,y.2,fun i hi=>?_⟩;rw [rJ _ hi,OC (aV _ oM)]
theorem au2(h:aZ.map Lp.ps=Cv rs N){b:List UInt8}(uE:dL (fP (aF rs) N) b=bv9 (fP (aF rs) N)):lY (fP (aF rs) N) aZ b=0/\nP (fP (aF rs) N) aZ b=Cv rs N:=by
 have h1:=au0 hl xC hC b (au1 hl LH hC DR xC hcr CW h);have h2:=bt hl LH hC DR xC hcr CW h;have e:lY (fP (aF rs) N) aZ b=0:=by unfold lY;rw[uE,h1];rfl
 refine⟨e,?_⟩;unfold nP;rw[ip e,uE];exact h2
end
end
section
open Go Go.RowKit Go.Lib
theorem au3{f:Nat->List Sd}(h:∀r,r<N->4<=(f r).length):∀k,k<=N->4*k<=bY f k
 |0,_=>oM
 |k+1,hk=>by
  have:=au3 h k oM
  have:=h k oM
  rw[bY];omega
structure bl0 (rs:List Rg) (N:Nat):Prop where
 n12:N<=12
 some:∃ i,i < (cK rs).length/\((cK rs).getD i Γ).gable=ν
 fs:∀ f∈fP (aF rs) N,f.Ok
 ls:∀ aZ:List Lp,aZ.map Lp.ps=Cv rs N->Dw aZ/\(aZ.flatMap Lp.ps).length=bY (aF rs) N/\aZ.length=N
 at':∀ b,oL (cK rs) (fP (aF rs) N) (bY (aF rs) N) b->(∀ z,oL (cK rs) (fP (aF rs) N) (bY (aF rs) N) z->bZ b<=bZ z)->Lz b/\∀ aZ:List Lp,aZ.map Lp.ps=Cv rs N->
  (∀ right,oI (fP (aF rs) N) (dL (fP (aF rs) N) b) aZ right=ι)/\lY (fP (aF rs) N) aZ b=0/\nP (fP (aF rs) N) aZ b=Cv rs N
theorem Sa(hl:rs.length=N)(h0:oX (aF rs) N=0)(Oj:bY (aF rs) N<=12):bl0 rs N:=by
 obtain⟨c0,c1,c2,c3,c4,c5,c6,c7⟩:=wP h0;have hC:∀r,C8 (aF rs r):=Ja (fun r hr=>Fz oM) c3;have xC:∀r,r<N->pE (aF rs r)=ι:=fun r hr=>by
  have:=bJ.1 c4 r hr;unfold FZ at this;simpa using this
 have hp:∀r,r<N->4<=(aF rs r).length:=fun r hr=>by
  have:=xC r hr;unfold pE at this;simp only[aI,decide_eq_true_eq]at this;omega
 have CD:bY (aF rs) N=(cK rs).length:=by rw[<-hl];exact zH
 have DR:C8 (cK rs):=fun i=>by
  rcases Nat.lt_or_ge i (cK rs).length with h|h
  .obtain⟨r,k,h1,h2,rfl⟩:=Hw (aF rs) N i oM;rw[zI oM h2];exact hC r k
  .rw[Ω,List.getElem?_eq_none h];exact⟨dD,dD,dD,dD⟩
 have il:∀r k,r<N->k<(aF rs r).length->yT ((aF rs r).getD k Γ)=ι:=fun r k hr hk=>by
  have h3:=bJ.1 (bJ.1 c3 r hr) k hk;unfold KD at h3;simpa using h3
 have LH:0<N:=oM;refine⟨?_,?_,aY9 hC il,fun aZ h=>⟨aJ0 hl hC DR xC h c2,bu hl xC h⟩,fun b hb hm=>?_⟩
 .have:=au3 hp N (θ _);omega
 .unfold G8 at c7;rw[aI]at c7;obtain⟨r,hr,h⟩:=eF.1 c7.2;obtain⟨k,hk,h⟩:=eF.1 h;have hlt:=KI hr hk;refine⟨bY (aF rs) r+k,oM,?_⟩;rw[zI oM hk];unfold DE at h;simpa using h
 .have uE:=aJ2 hl hm;refine⟨aJ1 hC il hb,fun aZ h=>?_⟩;have hv:=au2 hl LH hC DR xC c5 c6 h uE;rw[uE];exact⟨at6 hl hC xC h,hv⟩
theorem aZ0{ss:List Sd}{n:Nat}{b:List UInt8}{L:List (Nat×Nat)}(sR:∀f∈fs,f.Ok)(hn:n=fs.length)(hp:PIn fs n L)(h:KL ss fs n b L z):Lz z:=by
 rcases h with⟨i,hi,-,rfl⟩|⟨x,hx,q,hq,rfl,-⟩
 .have ho:=sR _ (aN (i:=i) oM Γ);have e:(fs.getD i Γ).st=aO (fs.getD i Γ).q.t:=by
   have:=congrArg Fr.st ho.2;exact this.symm
  rw[e];exact Lz.of (BW ho.1)
 .have hk:=hp.1 x hx;unfold KK at hk;have o1:=sR _ (aN (i:=x.1) oM Γ);have o2:=sR _ (aN (i:=x.2) oM Γ);exact Lz.of (QK o1.1 o2.1 _ (JY hq))
theorem OE(p:Nat->Bool):∀n,kR p n= -1\/∃k,k<n/\p k=ι/\kR p n=k
 |0=>.inl rfl
 |n+1=>by
  rw[kR]
  rcases OE p n with h|⟨k,h1,h2,h3⟩
  .rw[ip h]
   by_cases c:p n=ι
   .rw[ip c];exact .inr ⟨n,oM,c,rfl⟩
   .rw[iN c];exact .inl rfl
  .rw[iN oM]
   exact .inr ⟨k,oM,h2,h3⟩
theorem Sm.gt{s t:List UInt8}(h:Sm s)(k:Sm t):0<(fQ s t).1↔bZ t<bZ s:=by rw[h.cmp k];exact(I5 _ _).2.1
section
variable(a:Option bW)(N cap:Nat)(rs:List Rg)(w:η)(hl:rs.length=N)(hN:N<=1000)(hn:∀r,(aF rs r).length<=1000)(rr:GB w a rs)(h0:oX (aF rs) N=0)(hE:mV w)
include hl hN hn rr h0 hE
theorem aJ3(hD:KH w)(hng:∃ i,i < (cK rs).length/\((cK rs).getD i Γ).gable=ν)(sR:∀ f∈fP (aF rs) N,f.Ok)(z)(hz:Lz z):
 aE γ 23 #[.agg #[Θ a N cap],Δ (bs z)] w fun e w'=>(e=σ (bT #[Δ (bs []),ω ν,Υ Ξ 0])\/∃ y,e=σ (bT #[Δ (bs y),ω ι,Υ Ξ 0])/\Lz y/\bZ z < bZ y)/\Bw w w':=by
 have CF:=nG (aF rs) N;have HC:=zq (fun W (hW:Bw w W)=>ar7 a N cap rs W hl hN hn (rr.below hW) h0 (hE.below hW) z hz);have HL:=zq (fun W (hW:Bw w W)=>RU a N cap rs W hl hN hn (rr.below hW) h0 (hE.below hW) (hD.below hW) hng);have Vy:aQ (∀ W,Bw w W->mV W):=fun W hW=>hE.below hW;have HF:=zq sR;have HZ:=zq hz;have Ov:=zq CF;clear hl hn rr h0 hE hD hng sR hz CF;have fL:=(nA w (π #[Θ a N cap] 24)).alloc sP (π #[Δ (bs z)] 29);have q0:=(bE.new w #[Θ a N cap] 24).alloc (π #[Δ (bs z)] 29);have q1:=bE.new (w.alloc (π #[Θ a N cap] 24)) #[Δ (bs z)] 29;rw [World.size_alloc] at q1;obtain⟨W0,fI⟩:=nm ((w.alloc (π #[Θ a N cap] 24)).alloc (π #[Δ (bs z)] 29));rw [fI] at fL q0 q1;have HW:=zq fI;have b0:=q0.ce 0;have b1:=q1.ce 0;have l1:=q1.lt;have gH:=zq fL;clear fI fL q0 q1;go_enter func23,ntmps23;go_upto_region 1 with (fail)
 rw [HW.o];clear HW;go_wp2_with fail
 refine ka (HC.o W0 gH.o) fun W1 hb1=>?_;have b0:=aY hb1 b0;have b1:=aY hb1 b1;have eG:=gH.bS hb1;clear hb1 gH l1;go_wp2_with fail
 refine(HL.o W1 eG.o).mono ?_;rintro e W2 ⟨⟨fv,v,xs,b,rfl,-,ho,hs,Zy,L,-,hin,MS⟩,hb2⟩;have b1:=aY hb2 b1;have eU:=eG.bS hb2;obtain⟨ga,gc,rfl⟩:=kU ho;have HR:aQ (Al W2 ga xs):=MQ rfl ho;have HLz:aQ (∀ x∈xs,Lz x):=fun x hx=>aZ0 HF.o Ov.o.symm hin ((MS.mem x).1 hx);have hxl:xs.length<=3000:=MS.len;obtain⟨n,hn⟩:=nm xs.length;rw [hn] at hxl;have Hn:=zq hn;have HI:aQ (∀ W,Bw W2 W->aE γ 53 #[Θ ga n gc,.func (.func 54) #[] #[.pointer (ζ ⟨w.heap.size+1,0,δ⟩)]] W fun e w'=>e=σ (Υ Ξ (kR (fun i=>decide (0 < (fQ (xs.getD i []) z).1)) n))/\Bw W w'):=fun W hW=>
  az0 54 #[.pointer (ζ ⟨w.heap.size+1,0,δ⟩)] (enters_of func54 kF rfl) ga n gc xs _ W Hn.o oM (HR.o.below hW) (fun i hi V hV=>
   aY3 (w.heap.size+1) (xs.getD i []) z V (Vy.o _ (aW eU.o (hW.trans (hV.mono hW.size)))) (HLz.o _ (aN (by rw [Hn.o];exact hi) [])).sm HZ.o.sm (aY (hW.trans (hV.mono hW.size)) b1))
 clear ho hs Zy MS hin hb2 eG HC HL HF hn;rw [Hn.o];go_wp2_with fail
 refine ka (HI.o _ (μ _ _)) fun W3 hb3=>?_;have HB3:=eU.bS hb3;have FX:=zq (HR.o.below hb3);have CD:=OE (fun i=>decide (0 < (fQ (xs.getD i []) z).1)) n;clear hb3 HI HR eU b0 b1;rcases CD with hc | ⟨k,hk,hp,hc⟩
 .rw [hc];clear hc;go_wp2;go_ret3;exact⟨.inl rfl,HB3.o⟩
 .rw [hc];clear hc;obtain⟨g0,go0,rfl,qp⟩:=FX.o k (by rw [Hn.o];exact hk);have hp:0 < (fQ (xs.getD k []) z).1:=of_decide_eq_true hp;have Zw:=zq (HLz.o _ (aN (i:=k) (by rw [Hn.o];exact hk) []));have bs2:aQ (Lz (xs.getD k [])/\bZ z < bZ (xs.getD k [])):=⟨Zw.o,(Zw.o.sm.gt HZ.o.sm).1 hp⟩;generalize xs.getD k []=y at *;have hki:(k:Int) < (n:Int):=oM;have hk0:(0:Int)<=(k:Int):=oM;have Yo:¬ (k:Int) < 0:=oM;clear hp Zw;go_wp2;go_ret3;exact⟨.inr ⟨y,rfl,bs2.o⟩,HB3.o⟩
end
end
section
open Go
def cW(α β:Sg->Int)(s q:Sg):Int:=if s.up=ι then(if q.up=ι then 0 else α s*β q)else if q.up=ι then -(α q*β s)else 0
def cSl(α β:Sg->Int)(E:List Sg):Int:=dP (fun j=>cW α β (E.getD j Γ) (E.getD ((j+1)%E.length) Γ)) E.length
def F6(α β:Sg->Int)(ls:List (List Sg)):Int:=dP (fun r=>cSl α β (ls.getD r [])) ls.length
def F7(i:Int)(s:Sg):Int:=if i<s.line then 1 else 0
theorem sZ(f g:Nat->Int)(n):dP (fun j=>f j+g j) n=dP f n+dP g n:=by
 induction n with
 |zero=>rfl
 |succ n ih=>simp only[dP,ih];omega
theorem aZ1(α α' β:Sg->Int)(s q):cW (fun s=>α s+α' s) β s q=cW α β s q+cW α' β s q:=by
 unfold cW;(repeat' split)<;>first |rfl|(rw[Int.add_mul];done)|(rw[Int.add_mul];omega)
theorem aJ4(α β β':Sg->Int)(s q):cW α (fun s=>β s+β' s) s q=cW α β s q+cW α β' s q:=by
 unfold cW;(repeat' split)<;>first |rfl|(rw[Int.mul_add];done)|(rw[Int.mul_add];omega)
theorem mv(α α' β:Sg->Int)(ls):F6 (fun s=>α s+α' s) β ls=F6 α β ls+F6 α' β ls:=by
 unfold F6 cSl;rw[<-sZ];refine dI fun r _=>?_;rw[<-sZ];exact dI fun j _=>aZ1 ..
theorem OF(α β β':Sg->Int)(ls):F6 α (fun s=>β s+β' s) ls=F6 α β ls+F6 α β' ls:=by
 unfold F6 cSl;rw[<-sZ];refine dI fun r _=>?_;rw[<-sZ];exact dI fun j _=>aJ4 ..
section
variable{E:List Sg}
theorem au4(h:oZ E){α:Sg->Int}(hc:∀j,j<E.length->(E.getD j Γ).up=ι->(E.getD ((j+1)%E.length) Γ).up=ι->α (E.getD j Γ)=α (E.getD ((j+1)%E.length) Γ))(k):
 lF (fun s=>if s.up=ι then α s*tD s.a s.b k else 0) E=cSl α (F7 k) E:=by
 rw[nB];unfold cSl;have e1:dP (fun j=>(fun s:Sg=>if s.up=ι then α s*tD s.a s.b k else 0) (E.getD j Γ)) E.length=dP (fun j=>(fun s:Sg=>if s.up=ι then α s*(if k<s.en.2 then 1 else 0)else 0) (E.getD j Γ)) E.length-dP (fun j=>(fun j=>(fun s:Sg=>if s.up=ι then α s*(if k<s.st.2 then 1 else 0)else 0) (E.getD j Γ)) ((j+1)%E.length)) E.length:=by
  rw[BC (fun j=>(fun s:Sg=>if s.up=ι then α s*(if k<s.st.2 then 1 else 0)else 0) (E.getD j Γ)),<-sO];refine dI fun j _=>?_;generalize E.getD j Γ=s;simp only;unfold Sg.en Sg.st;rw[T6];by_cases u:s.up=ι
  .simp only[u,if_true];rw[Int.mul_sub]
  .simp only[u,if_false,aK];rfl
 rw[e1,<-sO];refine dI fun j hj=>?_;have h1:=h j hj;have h2:=hc j hj;generalize E.getD j Γ=s at *;simp only;generalize E.getD ((j+1)%E.length) Γ=q at *;rw[<-h1];unfold cW F7;by_cases u:s.up=ι<;>by_cases v:q.up=ι
 .simp only[u,v,if_true];rw[h2 u v];omega
 .simp only[u,v,if_true,if_false,aK];have:s.en.2=q.line:=by rw[h1];unfold Sg.st;rw[iN v]
  rw[this];exact Int.sub_zero _
 .simp only[u,v,if_true,if_false,aK];have:s.en.2=s.line:=by unfold Sg.en;rw[iN u]
  rw[this];exact Int.zero_sub _
 .simp only[u,v,if_false,aK];rfl
theorem aZ2(h:oZ E){β:Sg->Int}(hc:∀j,j<E.length->¬(E.getD j Γ).up=ι->¬(E.getD ((j+1)%E.length) Γ).up=ι->β (E.getD j Γ)=β (E.getD ((j+1)%E.length) Γ))(i):
 lF (fun s=>if s.up=ι then 0 else β s*tD s.a s.b i) E= -cSl (F7 i) β E:=by
 rw[nB];unfold cSl;have e1:dP (fun j=>(fun s:Sg=>if s.up=ι then 0 else β s*tD s.a s.b i) (E.getD j Γ)) E.length=dP (fun j=>(fun s:Sg=>if s.up=ι then 0 else β s*(if i<s.en.1 then 1 else 0)) (E.getD j Γ)) E.length-dP (fun j=>(fun j=>(fun s:Sg=>if s.up=ι then 0 else β s*(if i<s.st.1 then 1 else 0)) (E.getD j Γ)) ((j+1)%E.length)) E.length:=by
  rw[BC (fun j=>(fun s:Sg=>if s.up=ι then 0 else β s*(if i<s.st.1 then 1 else 0)) (E.getD j Γ)),<-sO];refine dI fun j _=>?_;generalize E.getD j Γ=s;simp only;unfold Sg.en Sg.st;rw[T6];by_cases u:s.up=ι
  .simp only[u,if_true];rfl
  .simp only[u,if_false,aK];rw[Int.mul_sub]
 have e2:∀f:Nat->Int,∀n,-dP f n=dP (fun j=>-f j) n:=fun f n=>by
  induction n with
  |zero=>rfl
  |succ n ih=>rw[dP,dP,<-ih];omega
 rw[e1,<-sO,e2];refine dI fun j hj=>?_;have h1:=h j hj;have h2:=hc j hj;generalize E.getD j Γ=s at *;simp only;generalize E.getD ((j+1)%E.length) Γ=q at *;rw[<-h1];unfold cW F7;by_cases u:s.up=ι<;>by_cases v:q.up=ι
 .simp only[u,v,if_true];rfl
 .simp only[u,v,if_true,if_false,aK];have:s.en.1=s.line:=by unfold Sg.en;rw[ip u]
  have hm:=Int.mul_comm (β q) (if i<s.line then 1 else 0);rw[this];omega
 .simp only[u,v,if_true,if_false,aK];have:s.en.1=q.line:=by rw[h1];unfold Sg.st;rw[ip v]
  have hm:=Int.mul_comm (β s) (if i<q.line then 1 else 0);rw[this];omega
 .simp only[u,v,if_false,aK];rw[h2 u v];omega
theorem mw(h:oZ E)(hj:j<E.length)(u:(E.getD j Γ).up=ι)(v:(E.getD ((j+1)%E.length) Γ).up=ι):(E.getD j Γ).line=(E.getD ((j+1)%E.length) Γ).line:=by
 have h1:=h j hj;unfold Sg.en Sg.st at h1;rw[ip u,ip v]at h1;exact congrArg Bl h1
theorem aJ5(h:oZ E)(hj:j<E.length)(u:¬(E.getD j Γ).up=ι)(v:¬(E.getD ((j+1)%E.length) Γ).up=ι):(E.getD j Γ).line=(E.getD ((j+1)%E.length) Γ).line:=by
 have h1:=h j hj;unfold Sg.en Sg.st at h1;rw[iN u,iN v]at h1;exact congrArg Bm h1
theorem au5(h:oZ E)(i k):bF E i k=cSl (F7 i) (F7 k) E:=by
 rw[<-au4 h (fun j hj u v=>by unfold F7;rw[mw h hj u v]) k];unfold bF;refine jW fun s _=>?_;unfold JM F7;by_cases u:s.up=ι<;>by_cases c:i<s.line<;>simp[u,c]
end
section
variable{ls:List (List Sg)}
theorem Fc(f:Sg->Int)(ls:List (List Sg)):lF f ls.flatten=dP (fun r=>lF f (ls.getD r [])) ls.length:=by
 induction ls with
 |nil=>rfl
 |cons l ls ih=>
  rw[jP,zW,ih,aC];have:=CO (fun r=>lF f ((l::ls).getD r [])) ls.length;simp only[List.getD_cons_succ,List.getD_cons_zero]at this;omega
theorem OG(h:∀r,r<ls.length->oZ (ls.getD r []))(i k):bF ls.flatten i k=F6 (F7 i) (F7 k) ls:=by
 unfold bF;rw[Fc];unfold F6;refine dI fun r hr=>?_;rw[<-au5 (h r hr)];rfl
theorem aZ3(h:∀r,r<ls.length->oZ (ls.getD r [])){α:Sg->Int}(hc:∀r,r<ls.length->∀j,j<(ls.getD r []).length->((ls.getD r []).getD j Γ).up=ι->((ls.getD r []).getD ((j+1)%(ls.getD r []).length) Γ).up=ι->α ((ls.getD r []).getD j Γ)=α ((ls.getD r []).getD ((j+1)%(ls.getD r []).length) Γ))(k):
 lF (fun s=>if s.up=ι then α s*tD s.a s.b k else 0) ls.flatten=F6 α (F7 k) ls:=by
 rw[Fc];exact dI fun r hr=>au4 (h r hr) (hc r hr) k
theorem aZ4(h:∀r,r<ls.length->oZ (ls.getD r [])){β:Sg->Int}(hc:∀r,r<ls.length->∀j,j<(ls.getD r []).length->¬((ls.getD r []).getD j Γ).up=ι->¬((ls.getD r []).getD ((j+1)%(ls.getD r []).length) Γ).up=ι->β ((ls.getD r []).getD j Γ)=β ((ls.getD r []).getD ((j+1)%(ls.getD r []).length) Γ))(i):
 lF (fun s=>if s.up=ι then 0 else β s*tD s.a s.b i) ls.flatten= -F6 (F7 i) β ls:=by
 rw[Fc];have e2:∀f:Nat->Int,∀n,-dP f n=dP (fun j=>-f j) n:=fun f n=>by
  induction n with
  |zero=>rfl
  |succ n ih=>rw[dP,dP,<-ih];omega
 unfold F6;rw[e2];exact dI fun r hr=>aZ2 (h r hr) (hc r hr) i
end
end
section
def pW(Φ Ψ:Int->Int)(s:Sg):Sg:=⟨s.side,s.up,if s.up=ι then Φ s.line else Ψ s.line,if s.up=ι then Ψ s.a else Φ s.a,if s.up=ι then Ψ s.b else Φ s.b⟩
def P9(Φ:Int->Int):Prop:=∀i j,i<j->Φ i<Φ j
theorem P9.lt{Φ:Int->Int}(h:P9 Φ){i j:Int}:Φ i<Φ j↔i<j:=by
 constructor
 .intro h1;by_cases c:i<j
  .exact c
  .by_cases e:i=j
   .subst e;omega
   .have:=h j i oM;omega
 .exact h i j
theorem P9.inj{Φ:Int->Int}(h:P9 Φ){i j:Int}(e:Φ i=Φ j):i=j:=by
 have h1:=h.lt (i:=i) (j:=j);have h2:=h.lt (i:=j) (j:=i);omega
section
variable{Φ Ψ:Int->Int}(hp:P9 Φ)(hq:P9 Ψ)
theorem aJ6{Φ:Int->Int}(h:P9 Φ){a b k y:Int}(h1:Φ k<=y)(h2:y<Φ (k+1)):tD (Φ a) (Φ b) y=tD a b k:=by
 have key:∀a,Φ a<=y↔a<=k:=fun a=>by
  have h3:=h.lt (i:=k) (j:=a);have h4:=h.lt (i:=a) (j:=k+1);have h5:a=k\/a=k+1\/a<k\/k+1<a:=oM;have h6:=h.lt (i:=k+1) (j:=a);rcases h5 with rfl|rfl|h5|h5<;>omega
 have ka:=key a;have kb:=key b;unfold tD;(repeat' split)<;>omega
include hp hq in
theorem aJ7(s){i k x y:Int}(h1:Φ i<=x)(h2:x<Φ (i+1))(h3:Ψ k<=y)(h4:y<Ψ (k+1)):JM (pW Φ Ψ s) x y=JM s i k:=by
 unfold JM pW;cases hu:s.up
 .simp
 .simp only[if_true,true_and];rw[aJ6 hq h3 h4];have h5:x<Φ s.line↔i<s.line:=by
   have a1:=hp.lt (i:=i) (j:=s.line);have a2:=hp.lt (i:=s.line) (j:=i+1);have a3:=hp.lt (i:=i+1) (j:=s.line);have c:s.line=i+1\/s.line<i+1\/i+1<s.line:=oM;rcases c with c|c|c
   .rw[c];omega
   .omega
   .omega
  by_cases c:i<s.line
  .rw[ip c,ip (h5.2 c)]
  .rw[iN c,iN fun z=>c (h5.1 z)]
include hp hq in
theorem FI(E){i k x y:Int}(h1:Φ i<=x)(h2:x<Φ (i+1))(h3:Ψ k<=y)(h4:y<Ψ (k+1)):bF (E.map (pW Φ Ψ)) x y=bF E i k:=by
 unfold bF;induction E with
 |nil=>rfl
 |cons s E ih=>rw[fN,lF,lF,ih,aJ7 hp hq s h1 h2 h3 h4]
include hp hq in
theorem Sb(E x y):bF (E.map (pW Φ Ψ)) (Φ x) (Ψ y)=bF E x y/\bF (E.map (pW Φ Ψ)) (Φ x-1) (Ψ y)=bF E (x-1) y/\bF (E.map (pW Φ Ψ)) (Φ x) (Ψ y-1)=bF E x (y-1)/\bF (E.map (pW Φ Ψ)) (Φ x-1) (Ψ y-1)=bF E (x-1) (y-1):=by
 have a1:=hp (x-1) x oM;have a2:=hp x (x+1) oM;have b1:=hq (y-1) y oM;have b2:=hq y (y+1) oM;have ex:x-1+1=x:=oM;have ey:y-1+1=y:=oM;refine⟨FI hp hq E ?_ ?_ ?_ ?_,FI hp hq E ?_ ?_ ?_ ?_,FI hp hq E ?_ ?_ ?_ ?_,FI hp hq E ?_ ?_ ?_ ?_⟩<;>(try rw[ex])<;>(try rw[ey])<;>omega
include hp hq in
theorem Sc(E x y d):sA (bF (E.map (pW Φ Ψ))) (Φ x) (Ψ y) d=sA (bF E) x y d/\sK (bF (E.map (pW Φ Ψ))) (Φ x) (Ψ y) d=sK (bF E) x y d:=by
 obtain⟨h1,h2,h3,h4⟩:=Sb hp hq E x y;unfold sA sK;match d with
 |0=>exact⟨h1,h3⟩
 |1=>exact⟨h2,h1⟩
 |2=>exact⟨h4,h2⟩
 |d+3=>exact⟨h3,h4⟩
include hp hq in
theorem Jh(s):(pW Φ Ψ s).dir=s.dir:=by
 unfold Sg.dir pW;have a1:=hp.lt (i:=s.a) (j:=s.b);have a2:=hq.lt (i:=s.a) (j:=s.b);cases s.up
 .simp only[aK,if_false];by_cases c:s.a<s.b
  .rw[ip c,ip (a1.2 c)]
  .rw[iN c,iN fun z=>c (a1.1 z)]
 .simp only[if_true];by_cases c:s.a<s.b
  .rw[ip c,ip (a2.2 c)]
  .rw[iN c,iN fun z=>c (a2.1 z)]
include hp hq in
theorem aJ8(s)(ht:t<s.len):∃u,u<(pW Φ Ψ s).len/\(pW Φ Ψ s).px u=Φ (s.px t)/\(pW Φ Ψ s).py u=Ψ (s.py t):=by
 unfold Sg.len at ht;have mp:=fun a b:Int=>hp.lt (i:=a) (j:=b);have mq:=fun a b:Int=>hq.lt (i:=a) (j:=b);have a1:=mp s.a s.b;have a2:=mq s.a s.b;unfold Sg.len Sg.px Sg.py pW;cases hu:s.up
 .simp only[aK,if_false];by_cases c:s.a<s.b
  .have b1:=mp s.a (s.a+t);have b2:=mp (s.a+t) s.b;have b3:=mp (s.a+t) s.a;simp only[ip c,ip (a1.2 c)];refine⟨(Φ (s.a+t)-Φ s.a).toNat,?_,?_,?_⟩<;>first |omega |trivial
  .have b1:=mp s.a (s.a-t);have b2:=mp s.b (s.a-t);have b3:=mp (s.a-t) s.a;simp only[iN c,iN fun z=>c (a1.1 z)];refine⟨(Φ s.a-Φ (s.a-t)).toNat,?_,?_,?_⟩<;>first |omega |trivial
 .simp only[if_true];by_cases c:s.a<s.b
  .have b1:=mq s.a (s.a+t);have b2:=mq (s.a+t) s.b;have b3:=mq (s.a+t) s.a;simp only[ip c,ip (a2.2 c)];refine⟨(Ψ (s.a+t)-Ψ s.a).toNat,?_,?_,?_⟩<;>first |omega |trivial
  .have b1:=mq s.a (s.a-t);have b2:=mq s.b (s.a-t);have b3:=mq (s.a-t) s.a;simp only[iN c,iN fun z=>c (a2.1 z)];refine⟨(Ψ s.a-Ψ (s.a-t)).toNat,?_,?_,?_⟩<;>first |omega |trivial
theorem aZ5(s):(pW Φ Ψ s).st=(Φ s.st.1,Ψ s.st.2):=by
 unfold Sg.st pW;cases s.up<;>simp
theorem bz(s):(pW Φ Ψ s).en=(Φ s.en.1,Ψ s.en.2):=by
 unfold Sg.en pW;cases s.up<;>simp
end
theorem Se(Φ Ψ:Int->Int)(ls:List (List Sg))(r:Nat):(ls.map (oO (pW Φ Ψ))).getD r []=(ls.getD r []).map (pW Φ Ψ):=by
 rw[Ω,oP,Ω];cases ls[r]? <;>rfl
theorem aJ9(Φ Ψ:Int->Int)(E:List Sg){j:Nat}(hj:j<E.length):(E.map (pW Φ Ψ)).getD j Γ=pW Φ Ψ (E.getD j Γ):=by
 simp[Ω,hj]
theorem au6{c:Int->Int->Bool}(hl:s.a≠s.b)(h:eX c (cV s (s.len-1))=ι):∃t,t<4/\t=oU (c s.en.1 s.en.2) (c (s.en.1-1) s.en.2) (c (s.en.1-1) (s.en.2-1)) (c s.en.1 (s.en.2-1)) s.dir/\eY c (cV s (s.len-1))=⟨s.en.1,s.en.2,t⟩:=by
 obtain⟨t,h1,h2,h3,-⟩:=rT h;have lI:=rH s (s.len-1);have hlen:0<s.len:=by unfold Sg.len;omega
 rw[show s.len-1+1=s.len by omega]at lI;have he:=Mj s;have e1:fU (cV s (s.len-1)).x (cV s (s.len-1)).d=s.en.1:=by rw[<-he];exact lI.1.symm
 have e2:fV (cV s (s.len-1)).y (cV s (s.len-1)).d=s.en.2:=by rw[<-he];exact lI.2.symm
 rw[e1,e2]at h2 h3;exact⟨t,h1,h2,h3⟩
theorem uF.pull{Φ Ψ:Int->Int}(hp:P9 Φ)(hq:P9 Ψ){ls:List (List Sg)}{X' Y':Int}(h:uF (ls.map (oO (pW Φ Ψ))) X' Y')(hg:∀s∈ls.flatten,iT X Y s):uF ls X Y:=by
 have hl:(ls.map (oO (pW Φ Ψ))).length=ls.length:=υ _;have hf:(ls.map (oO (pW Φ Ψ))).flatten=ls.flatten.map (pW Φ Ψ):=by rw[Mv]
 have ZB:∀r,((ls.map (oO (pW Φ Ψ))).getD r []).length=(ls.getD r []).length:=fun r=>by rw[Se,υ]
 have uE:∀r j,j<(ls.getD r []).length->((ls.map (oO (pW Φ Ψ))).getD r []).getD j Γ=pW Φ Ψ ((ls.getD r []).getD j Γ):=fun r j hj=>by rw[Se,aJ9 _ _ _ hj]
 have ring:∀r,r<ls.length->oZ (ls.getD r []):=fun r hr j hj=>by
  have h1:=h.ring r (by rw[hl];exact hr) j (by rw[ZB];exact hj);have hm:(j+1)%(ls.getD r []).length<(ls.getD r []).length:=aV _ oM;rw[ZB,uE r j hj,uE r _ hm,bz,aZ5]at h1;injection h1 with e1 e2;exact Prod.ext (hp.inj e1) (hq.inj e2)
 have long:∀r,r<ls.length->∀j,j<(ls.getD r []).length->((ls.getD r []).getD j Γ).a≠((ls.getD r []).getD j Γ).b:=fun r hr j hj e=>by
  have h1:=h.long r (by rw[hl];exact hr) j (by rw[ZB];exact hj);rw[uE r j hj]at h1;unfold pW at h1;simp only[e]at h1;exact h1 rfl
 have sides:∀r j t,r<ls.length->j<(ls.getD r []).length->t<((ls.getD r []).getD j Γ).len->
  sA (bF ls.flatten) (((ls.getD r []).getD j Γ).px t) (((ls.getD r []).getD j Γ).py t) ((ls.getD r []).getD j Γ).dir=1/\sK (bF ls.flatten) (((ls.getD r []).getD j Γ).px t) (((ls.getD r []).getD j Γ).py t) ((ls.getD r []).getD j Γ).dir=0:=fun r j t hr hj ht=>by
  obtain⟨u,h1,h2,h3⟩:=aJ8 hp hq _ ht;have h4:=h.sides r j u (by rw[hl];exact hr) (by rw[ZB];exact hj) (by rw[uE r j hj];exact h1);rw[uE r j hj,h2,h3,Jh hp hq,hf,(Sc hp hq _ _ _ _).1,(Sc hp hq _ _ _ _).2]at h4;exact h4
 have rings:∀l∈ls,oZ l:=fun l hl=>by
  obtain⟨r,hr,rfl⟩:=List.mem_iff_getElem.1 hl;have:=ring r hr;rwa[show ls.getD r []=ls[r] by simp[Ω,hr]]at this
 have hc:∀i k,dK X Y ls.flatten i k=decide (0<bF ls.flatten i k):=Jc rings hg;have hb:∀r j t,r<ls.length->j<(ls.getD r []).length->t<((ls.getD r []).getD j Γ).len->eX (dK X Y ls.flatten) (cV ((ls.getD r []).getD j Γ) t)=ι:=fun r j t hr hj ht=>by
  obtain⟨s1,s2⟩:=sides r j t hr hj ht;have hc':dK X Y ls.flatten=fun i k=>decide (0<bF ls.flatten i k):=by funext i k;exact hc i k
  unfold eX bor;rw[aI,decide_eq_true_eq];refine⟨Sg.dir_lt _,?_⟩;rw[hc',as1,as2];show(decide (0<sA (bF ls.flatten) (((ls.getD r []).getD j Γ).px t) (((ls.getD r []).getD j Γ).py t) ((ls.getD r []).getD j Γ).dir)&& !decide (0<sK (bF ls.flatten) (((ls.getD r []).getD j Γ).px t) (((ls.getD r []).getD j Γ).py t) ((ls.getD r []).getD j Γ).dir))=ι;rw[s1,s2];rfl
 refine⟨ring,fun r hr=>by rw[<-ZB];exact h.two r (by rw[hl];exact hr),long,hg,sides,fun r j hr hj=>?_,fun r j hr hj=>?_⟩
 .have hm:(j+1)%(ls.getD r []).length<(ls.getD r []).length:=aV _ oM;have Pn:r<(ls.map (oO (pW Φ Ψ))).length:=by rw[hl];exact hr
  have hj':j<((ls.map (oO (pW Φ Ψ))).getD r []).length:=by rw[ZB];exact hj
  have hln:=long r hr j hj;have hlen:0<((ls.getD r []).getD j Γ).len:=by unfold Sg.len;omega
  obtain⟨t,t4,et,en⟩:=au6 hln (hb r j _ hr hj oM);have h1:=h.turn r j Pn hj';have Ju:=h.bord Pn hj' (t:=(((ls.map (oO (pW Φ Ψ))).getD r []).getD j Γ).len-1) (by have:=h.len0 Pn hj';omega);obtain⟨u,u4,eu,en'⟩:=au6 (h.long r Pn j hj') Ju;rw[en',ZB,uE r j hj,uE r _ hm,bz]at h1;rw[uE r j hj,bz,Jh hp hq]at eu;simp only[h.cell]at eu;simp only[hc]at et;rw[hf]at eu;obtain⟨w1,w2,w3,w4⟩:=Sb hp hq ls.flatten ((ls.getD r []).getD j Γ).en.1 ((ls.getD r []).getD j Γ).en.2;rw[w1,w2,w3,w4]at eu;have htu:t=u:=by rw[et,eu]
  rw[en];unfold cV at h1|-;injection h1 with g1 g2 g3;rw[Jh hp hq]at g3;have GG:=ring r hr j hj;rw[GG,<-DI,htu,g3]
 .have hm:(j+1)%(ls.getD r []).length<(ls.getD r []).length:=aV _ oM;have h1:=h.diff r j (by rw[hl];exact hr) (by rw[ZB];exact hj);rw[ZB,uE r j hj,uE r _ hm,Jh hp hq,Jh hp hq]at h1;exact h1
end
section
open Go
theorem aZ6(s x y){d:Nat}(hd:d<4):fS s (fU x d) (fV y d) ((d+2)%4)= -fS s x y d:=by
 have h4:d=0\/d=1\/d=2\/d=3:=oM;rcases h4 with rfl|rfl|rfl|rfl<;>unfold fS fU fV<;>simp only[cL,tX]
 .rw[show x+1-1=x by omega];split <;>omega
 .rw[show y+1-1=y by omega];split <;>omega
 .split <;>omega
 .split <;>omega
section
variable{ls:List (List Sg)}{X Y:Int}
def vW(g:Sg->Int)(ls:List (List Sg))(w:Wy):Int:=lF (fun s=>g s*fS s w.x w.y w.d) ls.flatten
theorem uF.only(h:uF ls X Y)(hr:r<ls.length)(hj:j<(ls.getD r []).length)(ht:t<((ls.getD r []).getD j Γ).len)(hw:w=cV ((ls.getD r []).getD j Γ) t):
 fS ((ls.getD r []).getD j Γ) w.x w.y w.d=1/\∀q i,q<ls.length->i<(ls.getD q []).length->(q≠r\/i≠j)->fS ((ls.getD q []).getD i Γ) w.x w.y w.d=0:=by
 obtain⟨s1,s2⟩:=h.sides r j t hr hj ht;have J5:w.d<4:=by rw[hw];exact Sg.dir_lt _
 have hx:w.x=((ls.getD r []).getD j Γ).px t:=by rw[hw];rfl
 have hy:w.y=((ls.getD r []).getD j Γ).py t:=by rw[hw];rfl
 have hd:w.d=((ls.getD r []).getD j Γ).dir:=by rw[hw];rfl
 rw[<-hx,<-hy,<-hd]at s1 s2;constructor
 .rw[hx,hy,bh oM J5,ip ⟨hd,ht⟩,iN (by rw[hd];have:=Sg.dir_lt ((ls.getD r []).getD j Γ);omega)];rfl
 .intro q i hq hi hne;refine aG fun c=>?_;rcases bi J5 c with⟨ho,-⟩|⟨ho,-⟩
  .obtain⟨u,hu,e1,e2,e3⟩:=vD J5 ho;obtain⟨a1,a2,-⟩:=h.uniq hq hr hi hj hu ht (by unfold cV;rw[e1,e2,e3,hx,hy,hd]);rcases hne with c|c
   .exact c a1
   .exact c a2
  .obtain⟨u,hu,e1,e2,e3⟩:=vD (aV _ dD) ho;have:=(h.sides q i u hq hi hu).1;rw[e1,e2,e3]at this;have hb:=E7 (bF ls.flatten) (fU w.x w.d) (fV w.y w.d) (d:=(w.d+2)%4) (aV _ dD);have J7:fU (fU w.x w.d) ((w.d+2)%4)=w.x:=by
    unfold fU;have h4:w.d=0\/w.d=1\/w.d=2\/w.d=3:=oM;rcases h4 with e|e|e|e<;>rw[e]<;>simp
   have VK:fV (fV w.y w.d) ((w.d+2)%4)=w.y:=by
    unfold fV;have h4:w.d=0\/w.d=1\/w.d=2\/w.d=3:=oM;rcases h4 with e|e|e|e<;>rw[e]<;>simp
   rw[J7,VK,show((w.d+2)%4+2)%4=w.d by omega,s2]at hb;omega
theorem uF.vW_on(h:uF ls X Y)(g:Sg->Int)(hr:r<ls.length)(hj:j<(ls.getD r []).length)(ht:t<((ls.getD r []).getD j Γ).len)(hw:w=cV ((ls.getD r []).getD j Γ) t):vW g ls w=g ((ls.getD r []).getD j Γ):=by
 obtain⟨h1,h2⟩:=h.only hr hj ht hw;unfold vW;rw[Fc,rG hr fun q hq hne=>?_,nB,rG hj fun i hi hne=>?_,h1,Int.mul_one]
 .rw[h2 r i hr hi (.inr hne),pU]
 .rw[nB];exact pR fun i hi=>by rw[h2 q i hq hi (.inl hne),pU]
theorem uF.seg_at(h:uF ls X Y)(hw:eX (dK X Y ls.flatten) w=ι):∃r j t,r<ls.length/\j<(ls.getD r []).length/\t<((ls.getD r []).getD j Γ).len/\w=cV ((ls.getD r []).getD j Γ) t:=by
 unfold eX at hw;rw[aI,decide_eq_true_eq]at hw;obtain⟨r,j,t,a,b,c,e1,e2,e3⟩:=(h.border hw.1).1 hw.2;exact⟨r,j,t,a,b,c,by unfold cV;rw[e1,e2,e3]⟩
theorem uF.vW_tot(h:uF ls X Y)(g:Sg->Int){x y:Int}{d:Nat}(hd:d<4):
 lF (fun s=>g s*fS s x y d) ls.flatten=if bor (dK X Y ls.flatten) x y d=ι then vW g ls ⟨x,y,d⟩else if bor (dK X Y ls.flatten) (fU x d) (fV y d) ((d+2)%4)=ι then -vW g ls ⟨fU x d,fV y d,(d+2)%4⟩else 0:=by
 by_cases c1:bor (dK X Y ls.flatten) x y d=ι
 .rw[ip c1];rfl
 .rw[iN c1];by_cases c2:bor (dK X Y ls.flatten) (fU x d) (fV y d) ((d+2)%4)=ι
  .rw[ip c2];unfold vW;rw[<-Oy (fun s=>g s*fS s (fU x d) (fV y d) ((d+2)%4))];refine jW fun s _=>?_;rw[aZ6 s x y hd,Int.mul_neg,Int.neg_neg]
  .rw[iN c2];refine BB fun s hs=>?_;have:fS s x y d=0:=by
    refine aG fun c=>?_;obtain⟨E,hE,bn⟩:=List.mem_flatten.1 hs;obtain⟨r,hr,rfl⟩:=List.mem_iff_getElem.1 hE;obtain⟨j,hj,rfl⟩:=List.mem_iff_getElem.1 bn;have er:ls[r]=ls.getD r []:=by simp[Ω,hr]
    have ej:ls[r][j]=(ls.getD r []).getD j Γ:=by rw[<-er];simp[Ω,hj]
    rw[er]at hj;rw[ej]at c;rcases bi hd c with⟨ho,-⟩|⟨ho,-⟩
    .obtain⟨u,hu,e1,e2,e3⟩:=vD hd ho;exact c1 ((h.border hd).2 ⟨r,j,u,hr,hj,hu,e1,e2,e3⟩)
    .obtain⟨u,hu,e1,e2,e3⟩:=vD (aV _ dD) ho;exact c2 ((h.border (aV _ dD)).2 ⟨r,j,u,hr,hj,hu,e1,e2,e3⟩)
   rw[this,pU]
def DJ(x y:Int)(d:Nat):Wy:=⟨fU x ((d+2)%4),fV y ((d+2)%4),d⟩
theorem OH(x y){d:Nat}(hd:d<4):fU (DJ x y d).x d=x/\fV (DJ x y d).y d=y:=by
 unfold DJ fU fV;have h4:d=0\/d=1\/d=2\/d=3:=oM;rcases h4 with rfl|rfl|rfl|rfl<;>simp
theorem MW(hl:s.a≠s.b):cV s (s.len-1)=DJ s.en.1 s.en.2 s.dir:=by
 have lI:=rH s (s.len-1);have hlen:0<s.len:=by unfold Sg.len;omega
 rw[show s.len-1+1=s.len by omega]at lI;have he:=Mj s;unfold cV DJ;have hd:=s.dir_lt;rw[<-he];simp only;rw[lI.1,lI.2];unfold fU fV;have h4:s.dir=0\/s.dir=1\/s.dir=2\/s.dir=3:=oM;rcases h4 with e|e|e|e<;>rw[e]<;>simp
theorem uF.corner(h:uF ls X Y)(α β:Sg->Int)(x y){d:Nat}(hd:d<4)(h0:∀r j,r<ls.length->j<(ls.getD r []).length->((ls.getD r []).getD j Γ).en≠(x,y)->cW α β ((ls.getD r []).getD j Γ) ((ls.getD r []).getD ((j+1)%(ls.getD r []).length) Γ)=0):
 dP (fun r=>dP (fun j=>if((ls.getD r []).getD j Γ).dir=d then cW α β ((ls.getD r []).getD j Γ) ((ls.getD r []).getD ((j+1)%(ls.getD r []).length) Γ)else 0) (ls.getD r []).length) ls.length=
  if eX (dK X Y ls.flatten) (DJ x y d)=ι then(if(eY (dK X Y ls.flatten) (DJ x y d)).d%2=d%2 then 0 else if d%2=1 then vW α ls (DJ x y d)*vW β ls (eY (dK X Y ls.flatten) (DJ x y d))else -(vW α ls (eY (dK X Y ls.flatten) (DJ x y d))*vW β ls (DJ x y d)))else 0:=by
 by_cases c:eX (dK X Y ls.flatten) (DJ x y d)=ι
 .rw[ip c];obtain⟨r,j,t,hr,hj,ht,ew⟩:=h.seg_at c;have bl1:∀q i,q<ls.length->i<(ls.getD q []).length->(q≠r\/i≠j)->(if((ls.getD q []).getD i Γ).dir=d then cW α β ((ls.getD q []).getD i Γ) ((ls.getD q []).getD ((i+1)%(ls.getD q []).length) Γ)else 0)=0:=fun q i hq hi hne=>by
   by_cases cd:((ls.getD q []).getD i Γ).dir=d
   .rw[ip cd];refine h0 q i hq hi fun e=>?_;have hl:=MW (h.long q hq i hi);rw[e,cd]at hl;have:=h.len0 hq hi;obtain⟨a1,a2,-⟩:=h.uniq hq hr hi hj oM ht (hl.trans ew);rcases hne with c|c
    .exact c a1
    .exact c a2
   .rw[iN cd]
  rw[rG hr fun q hq hne=>pR fun i hi=>bl1 q i hq hi (.inl hne),rG hj fun i hi hne=>bl1 r i hr hi (.inr hne)];have hdir:((ls.getD r []).getD j Γ).dir=d:=(congrArg Wy.d ew).symm;rw[ip hdir,h.vW_on α hr hj ht ew,h.vW_on β hr hj ht ew];have Re:=h.next hr hj ht;rw[<-ew]at Re;have hlen:=h.len0 hr hj;by_cases ct:t+1<((ls.getD r []).getD j Γ).len
  .rw[ip ct]at Re;have:(eY (dK X Y ls.flatten) (DJ x y d)).d=d:=by rw[Re];exact hdir
   rw[this,ip rfl];refine h0 r j hr hj fun e=>?_;have hl:=MW (h.long r hr j hj);rw[e,hdir,ew]at hl;have:=(h.uniq hr hr hj hj oM ht hl).2.2;omega
  .rw[iN ct]at Re;have hm:(j+1)%(ls.getD r []).length<(ls.getD r []).length:=aV _ oM;have DN:=h.len0 hr hm;rw[h.vW_on α hr hm DN Re,h.vW_on β hr hm DN Re];have hnd:(eY (dK X Y ls.flatten) (DJ x y d)).d=((ls.getD r []).getD ((j+1)%(ls.getD r []).length) Γ).dir:=congrArg Wy.d Re;rw[hnd];have p1:=qG ((ls.getD r []).getD j Γ);have p2:=qG ((ls.getD r []).getD ((j+1)%(ls.getD r []).length) Γ);rw[hdir]at p1;generalize(ls.getD r []).getD j Γ=s at *;generalize(ls.getD r []).getD ((j+1)%(ls.getD r []).length) Γ=q at *;rw[p1,p2];unfold cW;cases s.up<;>cases q.up<;>simp
 .rw[iN c];refine pR fun r hr=>pR fun j hj=>?_;by_cases cd:((ls.getD r []).getD j Γ).dir=d
  .rw[ip cd];refine h0 r j hr hj fun e=>c ?_;have hl:=MW (h.long r hr j hj);rw[e,cd]at hl;rw[<-hl];have:=h.len0 hr hj;exact h.bord hr hj oM
  .rw[iN cd]
theorem yj(f:Nat->Nat->Int)(ls:List (List Sg)):
 dP (fun r=>dP (fun j=>f r j) (ls.getD r []).length) ls.length=dP (fun d=>dP (fun r=>dP (fun j=>if((ls.getD r []).getD j Γ).dir=d then f r j else 0) (ls.getD r []).length) ls.length) 4:=by
 simp only[dP];rw[Int.zero_add,<-sZ,<-sZ,<-sZ];refine dI fun r _=>?_;rw[<-sZ,<-sZ,<-sZ];refine dI fun j _=>?_;have:=Sg.dir_lt ((ls.getD r []).getD j Γ);have h4:((ls.getD r []).getD j Γ).dir=0\/((ls.getD r []).getD j Γ).dir=1\/((ls.getD r []).getD j Γ).dir=2\/((ls.getD r []).getD j Γ).dir=3:=oM;rcases h4 with e|e|e|e<;>rw[e]<;>simp
end
def OI(a b e f:Bool)(i o:Nat->Int):Int:=
 (if a=ι then 1 else 0)+(if bD5 a b e f 1=ι then o 1 else if bD4 a b e f 3=ι then -i 3 else 0)+(-(if bD5 a b e f 0=ι then o 0 else if bD4 a b e f 2=ι then -i 2 else 0))+
  dP (fun d=>if bD4 a b e f d=ι then(if oU a b e f d%2=d%2 then 0 else if d%2=1 then i d*o (oU a b e f d)else -(o (oU a b e f d)*i d))else 0) 4
theorem yk(a b e f)(i o:Nat->Int)(hi:∀d,d<4->bD4 a b e f d=ι->i d=0\/i d=1)(ho:∀d,d<4->bD5 a b e f d=ι->o d=0\/o d=1)(hs:∀d,d<4->bD4 a b e f d=ι->oU a b e f d=d->i d=o d)(h1:bD5 a b e f 1=ι->bD5 a b e f 3=ι->o 1=1->o 3=1)(h2:bD4 a b e f 1=ι->bD4 a b e f 3=ι->i 1=1->i 3=1):OI a b e f i o=0\/OI a b e f i o=1:=by
 have i0:=hi 0 dD;have i1:=hi 1 dD;have i2:=hi 2 dD;have i3:=hi 3 dD;have o0:=ho 0 dD;have o1:=ho 1 dD;have o2:=ho 2 dD;have o3:=ho 3 dD;have s0:=hs 0 dD;have s1:=hs 1 dD;have s2:=hs 2 dD;have s3:=hs 3 dD;clear hi ho hs;unfold OI;simp only[dP];generalize i 3=I3,i 2=I2,i 1=I1,i 0=I0 at *;cases a<;>cases b<;>cases e<;>cases f<;>simp[bD4,bD5,oU]at *;all_goals
  generalize o 3=O3,o 2=O2,o 1=O1,o 0=O0 at *
 all_goals try omega
 all_goals(repeat' (first |(rcases i0 with rfl|rfl)|(rcases i1 with rfl|rfl)|(rcases i2 with rfl|rfl)|(rcases i3 with rfl|rfl)))
 all_goals(repeat' (first |(rcases o0 with rfl|rfl)|(rcases o1 with rfl|rfl)|(rcases o2 with rfl|rfl)|(rcases o3 with rfl|rfl)))
 all_goals try simp at *
section
variable{ls:List (List Sg)}{X Y:Int}
theorem yl{α α' β β':Sg->Int}(ha:∀s∈ls.flatten,s.up=ι->α s=α' s)(hb:∀s∈ls.flatten,¬s.up=ι->β s=β' s):F6 α β ls=F6 α' β' ls:=by
 unfold F6 cSl;refine dI fun r hr=>dI fun j hj=>?_;have hm:(j+1)%(ls.getD r []).length<(ls.getD r []).length:=aV _ oM;have m1:(ls.getD r []).getD j Γ∈ls.flatten:=List.mem_flatten.2 ⟨_,aN hr [],aN hj Γ⟩;have m2:(ls.getD r []).getD ((j+1)%(ls.getD r []).length) Γ∈ls.flatten:=List.mem_flatten.2 ⟨_,aN hr [],aN hm Γ⟩;have a1:=ha _ m1;have a2:=ha _ m2;have b1:=hb _ m1;have b2:=hb _ m2;generalize(ls.getD r []).getD j Γ=s at *;generalize(ls.getD r []).getD ((j+1)%(ls.getD r []).length) Γ=q at *;unfold cW;by_cases u:s.up=ι<;>by_cases v:q.up=ι
 .rw[ip u,ip u,ip v,ip v]
 .rw[ip u,ip u,iN v,iN v,a1 u,b2 v]
 .rw[iN u,iN u,ip v,ip v,a2 v,b1 u]
 .rw[iN u,iN u,iN v,iN v]
theorem uF.wind01(h:uF ls X Y)(i k):bF ls.flatten i k=if dK X Y ls.flatten i k=ι then 1 else 0:=by
 have key:∀n:Nat,∀i:Int,X-i<=n->bF ls.flatten i k=0\/bF ls.flatten i k=1:=by
  intro n;induction n with
  |zero=>intro i hi;exact .inl (Na h.grid (.inl oM))
  |succ n ih=>
   intro i hi;have h1:=ih (i+1) oM;have h2:=Fo ls.flatten (i+1) k;rw[show i+1-1=i by omega]at h2;have h3:lF (fun s=>if s.up=ι/\s.line=i+1 then tD s.a s.b k else 0) ls.flatten=lF (fun s=>1*fS s (i+1) k 1) ls.flatten:=jW fun s _=>by rw[Int.one_mul];rfl
   rw[h3,h.vW_tot (fun _=>1) (d:=1) dD]at h2;by_cases c1:bor (dK X Y ls.flatten) (i+1) k 1=ι
   .obtain⟨r,j,t,hr,hj,ht,e1,e2,e3⟩:=(h.border (d:=1) dD).1 c1;have hs:=(h.sides r j t hr hj ht).1;rw[e1,e2,e3]at hs;unfold sA at hs;simp only[show i+1-1=i by omega]at hs;exact .inr hs
   .rw[iN c1]at h2;by_cases c2:bor (dK X Y ls.flatten) (fU (i+1) 1) (fV k 1) ((1+2)%4)=ι
    .obtain⟨r,j,t,hr,hj,ht,e1,e2,e3⟩:=(h.border (d:=3) dD).1 c2;have hs:=(h.sides r j t hr hj ht).2;rw[e1,e2,e3]at hs;unfold sK fU fV at hs;simp only[show i+1-1=i by omega,show k+1-1=k by omega]at hs;exact .inl hs
    .rw[iN c2]at h2;omega
 rw[h.cell];rcases key (X-i).toNat i oM with e|e<;>rw[e]<;>rfl
theorem mz{A αm:Sg->Int}{i0:Int}(hd:w.d%2=1)(J5:w.d<4)(hw:w.x=i0)(hα:∀s:Sg,αm s=if s.line=i0 then A s else 0):vW αm ls w=vW A ls w:=by
 unfold vW;refine jW fun s _=>?_;by_cases c:s.line=i0
 .rw[hα,ip c]
 .have:fS s w.x w.y w.d=0:=by
   have h4:w.d=1\/w.d=3:=oM;rcases h4 with e|e<;>rw[e]<;>unfold fS<;>simp only[]<;>rw[iN fun z=>c (by rw[z.2,hw])]
  rw[this,pU,pU]
theorem XA{B βm:Sg->Int}{k0:Int}(hd:w.d%2=0)(J5:w.d<4)(hw:w.y=k0)(hβ:∀s:Sg,βm s=if s.line=k0 then B s else 0):vW βm ls w=vW B ls w:=by
 unfold vW;refine jW fun s _=>?_;by_cases c:s.line=k0
 .rw[hβ,ip c]
 .have:fS s w.x w.y w.d=0:=by
   have h4:w.d=0\/w.d=2:=oM;rcases h4 with e|e<;>rw[e]<;>unfold fS<;>simp only[]<;>rw[iN fun z=>c (by rw[z.2,hw])]
  rw[this,pU,pU]
theorem uF.local01(h:uF ls X Y){A B:Sg->Int}(i0 k0)(hA:∀s∈ls.flatten,s.up=ι->(A s=0\/A s=1)/\(i0<s.line->A s=1)/\(s.line<i0->A s=0))(hB:∀s∈ls.flatten,¬s.up=ι->(B s=0\/B s=1)/\(k0<s.line->B s=1)/\(s.line<k0->B s=0))(cA:∀r,r<ls.length->∀j,j<(ls.getD r []).length->((ls.getD r []).getD j Γ).up=ι->((ls.getD r []).getD ((j+1)%(ls.getD r []).length) Γ).up=ι->A ((ls.getD r []).getD j Γ)=A ((ls.getD r []).getD ((j+1)%(ls.getD r []).length) Γ))(cB:∀r,r<ls.length->∀j,j<(ls.getD r []).length->¬((ls.getD r []).getD j Γ).up=ι->¬((ls.getD r []).getD ((j+1)%(ls.getD r []).length) Γ).up=ι->B ((ls.getD r []).getD j Γ)=B ((ls.getD r []).getD ((j+1)%(ls.getD r []).length) Γ))(hU:∀p∈ls.flatten,∀q∈ls.flatten,p.line=i0->q.line=i0->p.dir=1->q.dir=3->A p=1->A q=1):F6 A B ls=0\/F6 A B ls=1:=by
 have KN:=h.ring
 obtain⟨c,hc⟩:=nm (dK X Y ls.flatten)
 obtain⟨am,ham⟩:∃am:Sg->Int,∀s,am s=if s.line=i0 then A s else 0:=⟨_,fun _=>rfl⟩
 obtain⟨bm,hbm⟩:∃bm:Sg->Int,∀s,bm s=if s.line=k0 then B s else 0:=⟨_,fun _=>rfl⟩
 have e0:F6 A B ls=F6 (fun s=>F7 i0 s+am s) (fun s=>F7 k0 s+bm s) ls:=by
  refine yl (fun s hs hu=>?_) (fun s hs hu=>?_)
  .obtain⟨-,h2,h3⟩:=hA s hs hu
   show A s=F7 i0 s+am s
   rw[ham]
   unfold F7
   by_cases c1:i0<s.line
   .rw[ip c1,iN oM,h2 c1];rfl
   .rw[iN c1]
    by_cases c2:s.line=i0
    .rw[ip c2];omega
    .rw[iN c2,h3 oM];rfl
  .obtain⟨-,h2,h3⟩:=hB s hs hu
   show B s=F7 k0 s+bm s
   rw[hbm]
   unfold F7
   by_cases c1:k0<s.line
   .rw[ip c1,iN oM,h2 c1];rfl
   .rw[iN c1]
    by_cases c2:s.line=k0
    .rw[ip c2];omega
    .rw[iN c2,h3 oM];rfl
 have t1:F6 (F7 i0) (F7 k0) ls=if c i0 k0=ι then 1 else 0:=by rw[<-OG KN,h.wind01,hc]
 have t2:F6 am (F7 k0) ls=if bor c i0 k0 1=ι then vW A ls ⟨i0,k0,1⟩else if bor c i0 (k0+1) 3=ι then -vW A ls ⟨i0,k0+1,3⟩else 0:=by
  rw[<-aZ3 KN (fun r hr j hj u v=>by rw[ham,ham,mw (KN r hr) hj u v,cA r hr j hj u v]) k0]
  have:=h.vW_tot A (x:=i0) (y:=k0) (d:=1) dD
  rw[hc]at this
  refine Eq.trans (jW fun s _=>?_) this
  rw[ham]
  unfold fS
  simp only[]
  by_cases u:s.up=ι<;>by_cases l:s.line=i0<;>simp[u,l]
 have t3:F6 (F7 i0) bm ls= -(if bor c i0 k0 0=ι then vW B ls ⟨i0,k0,0⟩else if bor c (i0+1) k0 2=ι then -vW B ls ⟨i0+1,k0,2⟩else 0):=by
  have h1:=aZ4 KN (β:=bm) (fun r hr j hj u v=>by rw[hbm,hbm,aJ5 (KN r hr) hj u v,cB r hr j hj u v]) i0
  have:=h.vW_tot B (x:=i0) (y:=k0) (d:=0) dD
  rw[hc]at this
  have e:lF (fun s=>if s.up=ι then 0 else bm s*tD s.a s.b i0) ls.flatten=lF (fun s=>B s*fS s i0 k0 0) ls.flatten:=jW fun s _=>by
   rw[hbm]
   unfold fS
   simp only[]
   by_cases u:s.up=ι<;>by_cases l:s.line=k0<;>simp[u,l]
  rw[e,this]at h1
  have h1:_= -F6 (F7 i0) bm ls:=h1
  rw[show fU i0 0=i0+1 from rfl,show fV k0 0=k0 from rfl]at h1
  have h2:(0+2)%4=2:=rfl
  rw[h2]at h1
  rw[h1,Int.neg_neg]
 have hz:∀r j,r<ls.length->j<(ls.getD r []).length->((ls.getD r []).getD j Γ).en≠(i0,k0)->cW am bm ((ls.getD r []).getD j Γ) ((ls.getD r []).getD ((j+1)%(ls.getD r []).length) Γ)=0:=fun r j hr hj hne=>by
  have GG:=KN r hr j hj
  generalize(ls.getD r []).getD j Γ=s at *
  generalize(ls.getD r []).getD ((j+1)%(ls.getD r []).length) Γ=q at *
  unfold cW
  rw[ham,hbm,ham,hbm]
  have aK0:=GG
  rw[aK0]at hne
  unfold Sg.en Sg.st at GG
  unfold Sg.st at hne
  by_cases u:s.up=ι<;>by_cases v:q.up=ι<;>simp only[u,v,if_true,if_false,aK]at GG hne|-
  .injection GG with g1 g2
   by_cases a1:s.line=i0
   .rw[iN fun l=>hne (Prod.ext (g1.symm.trans a1) l),pU]
   .rw[iN a1,Ge]
  .injection GG with g1 g2
   by_cases a1:q.line=i0
   .rw[iN fun l=>hne (Prod.ext a1 (g2.symm.trans l)),pU];rfl
   .rw[iN a1,Ge];rfl
 have bl2:=fun d(hd:d<4)=>h.corner am bm i0 k0 hd hz
 rw[hc]at bl2
 have XC:∀d,d<4->eX c (DJ i0 k0 d)=bD4 (c i0 k0) (c (i0-1) k0) (c (i0-1) (k0-1)) (c i0 (k0-1)) d:=fun d hd=>by
  obtain⟨e1,e2⟩:=OH i0 k0 hd
  unfold eX
  rw[show(DJ i0 k0 d).d=d from rfl,decide_eq_true hd,iO,BE c _ _ hd,e1,e2]
 have hgo:∀d,bor c i0 k0 d=bD5 (c i0 k0) (c (i0-1) k0) (c (i0-1) (k0-1)) (c i0 (k0-1)) d:=fun d=>BD c i0 k0 d
 have Re:∀d,d<4->eX c (DJ i0 k0 d)=ι->eY c (DJ i0 k0 d)=⟨i0,k0,oU (c i0 k0) (c (i0-1) k0) (c (i0-1) (k0-1)) (c i0 (k0-1)) d⟩/\oU (c i0 k0) (c (i0-1) k0) (c (i0-1) (k0-1)) (c i0 (k0-1)) d<4:=fun d hd hb=>by
  obtain⟨t,h1,h2,h3,-⟩:=rT hb
  obtain⟨e1,e2⟩:=OH i0 k0 hd
  have ed:(DJ i0 k0 d).d=d:=rfl
  rw[ed,e1,e2]at h2 h3
  rw[h3,<-h2]
  exact⟨rfl,h1⟩
 obtain⟨iv,hiv⟩:∃iv:Nat->Int,∀d,iv d=if d%2=1 then vW A ls (DJ i0 k0 d)else vW B ls (DJ i0 k0 d):=⟨_,fun _=>rfl⟩
 obtain⟨ov,PR⟩:∃ov:Nat->Int,∀d,ov d=if d%2=1 then vW A ls ⟨i0,k0,d⟩else vW B ls ⟨i0,k0,d⟩:=⟨_,fun _=>rfl⟩
 have t4:F6 am bm ls=dP (fun d=>if bD4 (c i0 k0) (c (i0-1) k0) (c (i0-1) (k0-1)) (c i0 (k0-1)) d=ι then(if oU (c i0 k0) (c (i0-1) k0) (c (i0-1) (k0-1)) (c i0 (k0-1)) d%2=d%2 then 0 else if d%2=1 then iv d*ov (oU (c i0 k0) (c (i0-1) k0) (c (i0-1) (k0-1)) (c i0 (k0-1)) d)else -(ov (oU (c i0 k0) (c (i0-1) k0) (c (i0-1) (k0-1)) (c i0 (k0-1)) d)*iv d))else 0) 4:=by
  unfold F6 cSl
  rw[yj (fun r j=>cW am bm ((ls.getD r []).getD j Γ) ((ls.getD r []).getD ((j+1)%(ls.getD r []).length) Γ))]
  refine dI fun d hd=>?_
  rw[bl2 d hd]
  by_cases cb:eX c (DJ i0 k0 d)=ι
  .obtain⟨n1,n2⟩:=Re d hd cb
   have cb':=(XC d hd).symm.trans cb
   rw[ip cb,cb',ip (rfl:ι=ι),n1]
   generalize oU (c i0 k0) (c (i0-1) k0) (c (i0-1) (k0-1)) (c i0 (k0-1)) d=T at *
   simp only
   by_cases c1:T%2=d%2
   .rw[ip c1,ip c1]
   .rw[iN c1,iN c1]
    have hx1:d%2=1->(DJ i0 k0 d).x=i0:=fun e=>by
     unfold DJ fU
     have h4:d=1\/d=3:=oM
     rcases h4 with rfl|rfl<;>rfl
    have hy1:d%2=0->(DJ i0 k0 d).y=k0:=fun e=>by
     unfold DJ fV
     have h4:d=0\/d=2:=oM
     rcases h4 with rfl|rfl<;>rfl
    by_cases c2:d%2=1
    .rw[ip c2,ip c2,hiv,ip c2,PR,iN oM,mz (w:=DJ i0 k0 d) c2 hd (hx1 c2) ham,XA (w:=⟨i0,k0,T⟩) (by show T%2=0;omega) n2 rfl hbm]
    .rw[iN c2,iN c2,hiv,iN c2,PR,ip oM,XA (w:=DJ i0 k0 d) (by show d%2=0;omega) hd (hy1 oM) hbm,mz (w:=⟨i0,k0,T⟩) (by show T%2=1;omega) n2 rfl ham]
  .have cb':bD4 (c i0 k0) (c (i0-1) k0) (c (i0-1) (k0-1)) (c i0 (k0-1)) d=ν:=by rw[<-XC d hd];simpa using cb
   rw[iN cb,cb',iN dD]
 rw[e0,mv,OF,OF,t1,t2,t3,t4]
 have BQ:(if c i0 k0=ι then 1 else 0)+ -(if bor c i0 k0 0=ι then vW B ls ⟨i0,k0,0⟩else if bor c (i0+1) k0 2=ι then -vW B ls ⟨i0+1,k0,2⟩else 0)+((if bor c i0 k0 1=ι then vW A ls ⟨i0,k0,1⟩else if bor c i0 (k0+1) 3=ι then -vW A ls ⟨i0,k0+1,3⟩else 0)+dP (fun d=>if bD4 (c i0 k0) (c (i0-1) k0) (c (i0-1) (k0-1)) (c i0 (k0-1)) d=ι then(if oU (c i0 k0) (c (i0-1) k0) (c (i0-1) (k0-1)) (c i0 (k0-1)) d%2=d%2 then 0 else if d%2=1 then iv d*ov (oU (c i0 k0) (c (i0-1) k0) (c (i0-1) (k0-1)) (c i0 (k0-1)) d)else -(ov (oU (c i0 k0) (c (i0-1) k0) (c (i0-1) (k0-1)) (c i0 (k0-1)) d)*iv d))else 0) 4)=OI (c i0 k0) (c (i0-1) k0) (c (i0-1) (k0-1)) (c i0 (k0-1)) iv ov:=by
  unfold OI
  have b3:bor c i0 (k0+1) 3=bD4 (c i0 k0) (c (i0-1) k0) (c (i0-1) (k0-1)) (c i0 (k0-1)) 3:=by
   have:=XC 3 dD
   unfold eX at this
   rw[<-this];rfl
  have b2:bor c (i0+1) k0 2=bD4 (c i0 k0) (c (i0-1) k0) (c (i0-1) (k0-1)) (c i0 (k0-1)) 2:=by
   have:=XC 2 dD
   unfold eX at this
   rw[<-this];rfl
  have v1:vW A ls ⟨i0,k0,1⟩=ov 1:=by rw[PR];rfl
  have v0:vW B ls ⟨i0,k0,0⟩=ov 0:=by rw[PR];rfl
  have v3:vW A ls ⟨i0,k0+1,3⟩=iv 3:=by rw[hiv];rfl
  have v2:vW B ls ⟨i0+1,k0,2⟩=iv 2:=by rw[hiv];rfl
  rw[<-hgo 1,<-hgo 0,b3,b2,v1,v0,v3,v2]
  omega
 rw[BQ]
 have Ji:∀w:Wy,eX c w=ι->∃s∈ls.flatten,s.dir=w.d/\(w.d%2=1->s.up=ι/\s.line=w.x)/\(w.d%2=0->¬s.up=ι)/\∀g,vW g ls w=g s:=fun w hw=>by
  rw[<-hc]at hw
  obtain⟨r,j,t,hr,hj,ht,ew⟩:=h.seg_at hw
  refine⟨_,List.mem_flatten.2 ⟨_,aN hr [],aN hj Γ⟩,(congrArg Wy.d ew).symm,fun e=>?_,fun e=>?_,fun g=>h.vW_on g hr hj ht ew⟩
  .have hd:w.d=((ls.getD r []).getD j Γ).dir:=congrArg Wy.d ew
   have p:=qG ((ls.getD r []).getD j Γ)
   rw[<-hd,e]at p
   have hu:((ls.getD r []).getD j Γ).up=ι:=by
    refine aG fun u=>?_
    rw[iN u]at p;omega
   refine⟨hu,?_⟩
   have:w.x=((ls.getD r []).getD j Γ).px t:=congrArg Wy.x ew
   rw[this]
   unfold Sg.px
   rw[ip hu]
  .have hd:w.d=((ls.getD r []).getD j Γ).dir:=congrArg Wy.d ew
   have p:=qG ((ls.getD r []).getD j Γ)
   rw[<-hd,e]at p
   intro u
   rw[ip u]at p;omega
 have bl3:∀w:Wy,eX c w=ι->(w.d%2=1->vW A ls w=0\/vW A ls w=1)/\(w.d%2=0->vW B ls w=0\/vW B ls w=1):=fun w hw=>by
  obtain⟨s,hs,-,h1,h2,hg⟩:=Ji w hw
  exact⟨fun e=>by rw[hg];exact(hA s hs (h1 e).1).1,fun e=>by rw[hg];exact(hB s hs (h2 e)).1⟩
 have hgb:∀d,d<4->bD5 (c i0 k0) (c (i0-1) k0) (c (i0-1) (k0-1)) (c i0 (k0-1)) d=ι->eX c ⟨i0,k0,d⟩=ι:=fun d hd hg=>by
  unfold eX
  rw[decide_eq_true (show(⟨i0,k0,d⟩:Wy).d<4 from hd),iO]
  show bor c i0 k0 d=ι
  rw[hgo];exact hg
 refine yk _ _ _ _ iv ov (fun d hd Ut=>?_) (fun d hd hg=>?_) (fun d hd Ut ht=>?_) (fun g1 g3 o1=>?_) (fun c1 c3 i1=>?_)
 .have hb:eX c (DJ i0 k0 d)=ι:=by rw[XC d hd];exact Ut
  have hv:=bl3 _ hb
  rw[hiv]
  by_cases e:d%2=1
  .rw[ip e];exact hv.1 e
  .rw[iN e];exact hv.2 (by show d%2=0;omega)
 .have hv:=bl3 _ (hgb d hd hg)
  rw[PR]
  by_cases e:d%2=1
  .rw[ip e];exact hv.1 e
  .rw[iN e];exact hv.2 (by show d%2=0;omega)
 .
  have hb:eX c (DJ i0 k0 d)=ι:=by rw[XC d hd];exact Ut
  obtain⟨n1,-⟩:=Re d hd hb
  rw[ht]at n1
  rw[<-hc]at hb
  obtain⟨r,j,t,hr,hj,xt,ew⟩:=h.seg_at hb
  have hn:=h.next hr hj xt
  rw[<-ew,hc,n1]at hn
  rw[hiv,PR]
  by_cases ct:t+1<((ls.getD r []).getD j Γ).len
  .rw[ip ct]at hn
   rw[h.vW_on A hr hj xt ew,h.vW_on B hr hj xt ew,h.vW_on A hr hj ct hn,h.vW_on B hr hj ct hn]
  .rw[iN ct]at hn
   have hm:(j+1)%(ls.getD r []).length<(ls.getD r []).length:=aV _ oM
   have DN:=h.len0 hr hm
   rw[h.vW_on A hr hj xt ew,h.vW_on B hr hj xt ew,h.vW_on A hr hm DN hn,h.vW_on B hr hm DN hn]
   have d1:d=((ls.getD r []).getD j Γ).dir:=congrArg Wy.d ew
   have d2:d=((ls.getD r []).getD ((j+1)%(ls.getD r []).length) Γ).dir:=congrArg Wy.d hn
   have p1:=qG ((ls.getD r []).getD j Γ)
   have p2:=qG ((ls.getD r []).getD ((j+1)%(ls.getD r []).length) Γ)
   rw[<-d1]at p1
   rw[<-d2]at p2
   by_cases e:d%2=1
   .rw[ip e,ip e]
    refine cA r hr j hj (aG fun u=>?_) (aG fun u=>?_)
    .rw[iN u]at p1;omega
    .rw[iN u]at p2;omega
   .rw[iN e,iN e]
    refine cB r hr j hj (fun u=>?_) (fun u=>?_)
    .rw[ip u]at p1;omega
    .rw[ip u]at p2;omega
 .obtain⟨p,hp,p1,p2,-,pg⟩:=Ji _ (hgb 1 dD g1)
  obtain⟨q,hq,q1,q2,-,qg⟩:=Ji _ (hgb 3 dD g3)
  rw[PR]at o1|-
  rw[ip dD,pg]at o1
  rw[ip dD,qg]
  exact hU p hp q hq (p2 (show 1%2=1 by decide)).2 (q2 (show 3%2=1 by decide)).2 p1 q1 o1
 .have b1:eX c (DJ i0 k0 1)=ι:=by rw[XC 1 dD];exact c1
  have b3:eX c (DJ i0 k0 3)=ι:=by rw[XC 3 dD];exact c3
  obtain⟨p,hp,p1,p2,-,pg⟩:=Ji _ b1
  obtain⟨q,hq,q1,q2,-,qg⟩:=Ji _ b3
  rw[hiv]at i1|-
  rw[ip dD,pg]at i1
  rw[ip dD,qg]
  exact hU p hp q hq (p2 (show 1%2=1 by decide)).2 (q2 (show 3%2=1 by decide)).2 p1 q1 i1
end
end
section
section
variable{f g:FQ}{z y:Rat}
theorem FQ.line(h:f.v≠0->¬(z<f.t/\f.t<y))(h1:z<=e)(h2:e<=y):f.pos e=f.pos z+f.high z*(e-z):=by
 unfold FQ.pos FQ.high FQ.vel;by_cases hv:f.v=0
 .rw[hv];(repeat' split)<;>grind
 .have:=h hv;(repeat' split)<;>grind
theorem FQ.high_in(h:f.v≠0->¬(z<f.t/\f.t<y))(h1:z<e)(h2:e<y):f.high e=f.high z:=by
 unfold FQ.high FQ.vel;by_cases hv:f.v=0
 .rw[hv];(repeat' split)<;>grind
 .have:=h hv;(repeat' split)<;>grind
theorem cg(hf:f.v≠0->¬(z<f.t/\f.t<y))(hg:g.v≠0->¬(z<g.t/\g.t<y))(hm:∀e,z<e->e<y->¬kK f g e)(ci:z<=y)(h:g.pos y<f.pos y):g.pos z<f.pos z\/(g.pos z=f.pos z/\g.high z<f.high z):=by
 have lf:=FQ.line hf ci (OY);have lg:=FQ.line hg ci (OY);by_cases c:g.pos z<f.pos z
 .exact .inl c
 .refine .inr ?_;have Ak:0<=y-z:=by grind
  have bt4:0<(f.high z-g.high z)*(y-z):=by grind
  have hV:g.high z<f.high z:=by
   refine aG fun q=>?_;have h1:f.high z-g.high z<=0:=by grind
   have:=AY (show 0<=-(f.high z-g.high z) by grind) Ak;grind
  by_cases e:g.pos z=f.pos z
  .exact⟨e,hV⟩
  .exfalso;have hlt:f.pos z<g.pos z:=by grind
   have hVn:f.high z-g.high z≠0:=by grind
   have hde:(f.high z-g.high z)*((g.pos z-f.pos z)/(f.high z-g.high z))=g.pos z-f.pos z:=by
    rw[Rat.mul_comm];exact Rat.div_mul_cancel hVn
   have hVp:0<f.high z-g.high z:=by grind
   have hd0:0<(g.pos z-f.pos z)/(f.high z-g.high z):=by
    refine aG fun q=>?_;have:=AY (gZ hVp) (show 0<=-((g.pos z-f.pos z)/(f.high z-g.high z)) by grind);grind
   generalize(g.pos z-f.pos z)/(f.high z-g.high z)=d at *;have hd1:z+d<y:=by
    refine aG fun q=>?_;have:=AY (gZ hVp) (show 0<=z+d-y by grind);grind
   have yP:z<z+d:=by grind
   refine hm (z+d) yP hd1 ⟨?_,.inr ?_⟩
   .rw[FQ.line hf (gZ yP) (gZ hd1),FQ.line hg (gZ yP) (gZ hd1)];grind
   .rw[FQ.high_in hf yP hd1,FQ.high_in hg yP hd1];grind
theorem Sf(hv:0<=f.v):(f.dir=1->0<=f.high z)/\(f.dir= -1->f.high z<=0):=by
 unfold FQ.high FQ.vel;constructor
 .intro e;rw[e];split <;>grind
 .intro e;rw[e];split <;>grind
end
theorem cj{κ:Type}[DecidableEq κ](key:Nat->κ):∀L,0<L->∃(n:Nat)(F:Nat->Nat),0<n/\bv7 F n=L/\(∀i,i<n->0<F i)/\(∀i,i<n->∀t,t+1<F i->key (bv7 F i+t)=key (bv7 F i+(t+1)))/\∀i,i+1<n->key (bv7 F i+(F i-1))≠key (bv7 F (i+1)):=by
 intro L
 induction L with
 |zero=>intro h;omega
 |succ L ih=>
  intro _
  by_cases hL:L=0
  .subst hL
   exact⟨1,fun _=>1,oM,rfl,fun _ _=>Nat.one_pos,fun _ _ t ht=>by have:t+1<1:=ht;omega,fun i hi=>oM⟩
  .obtain⟨n,F,h0,h1,h2,h3,h4⟩:=ih oM
   obtain⟨m,rfl⟩:∃m,n=m+1:=⟨n-1,oM⟩
   rw[bv7]at h1
   have hFm:=h2 m oM
   by_cases c:key (L-1)=key L
   .
    have hs:∀i,i<=m->bv7 (fun i=>if i=m then F m+1 else F i) i=bv7 F i:=fun i hi=>Ai fun j hj=>by rw[iN oM]
    refine⟨m+1,fun i=>if i=m then F m+1 else F i,oM,?_,fun i hi=>?_,fun i hi t ht=>?_,fun i hi=>?_⟩
    .rw[bv7,hs m (θ _),ip rfl];omega
    .dsimp only
     split
     .omega
     .exact h2 i hi
    .rw[hs i oM]
     by_cases e:i=m
     .subst e
      simp only[if_true]at ht
      by_cases e2:t+1<F i
      .exact h3 i oM t e2
      .have et:t=F i-1:=oM
       subst et
       rw[show bv7 F i+(F i-1)=L-1 by omega,show bv7 F i+(F i-1+1)=L by omega]
       exact c
     .simp only[iN e]at ht
      exact h3 i hi t ht
    .rw[hs i oM,hs (i+1) oM]
     simp only[iN (show i≠m by omega)]
     exact h4 i hi
   .have hs:∀i,i<=m+1->bv7 (fun i=>if i=m+1 then 1 else F i) i=bv7 F i:=fun i hi=>Ai fun j hj=>by rw[iN oM]
    refine⟨m+2,fun i=>if i=m+1 then 1 else F i,oM,?_,fun i hi=>?_,fun i hi t ht=>?_,fun i hi=>?_⟩
    .rw[bv7,hs (m+1) (θ _),ip rfl,bv7];omega
    .dsimp only
     split
     .omega
     .exact h2 i oM
    .rw[hs i oM]
     by_cases e:i=m+1
     .simp only[ip e]at ht;omega
     .simp only[iN e]at ht
      exact h3 i oM t ht
    .rw[hs i oM,hs (i+1) oM]
     simp only[iN (show i≠m+1 by omega)]
     by_cases e:i=m
     .subst e
      rw[show bv7 F i+(F i-1)=L-1 by omega,show bv7 F (i+1)=L by rw[bv7];omega]
      exact c
     .exact h4 i oM
def sE(s:Sg):List Wy:=(cI s.len).map (cV s)
theorem KO:w∈sE s↔∃t,t<s.len/\w=cV s t:=by
 unfold sE;rw[List.mem_map];constructor
 .rintro⟨t,h,rfl⟩;exact⟨t,List.mem_range.1 h,rfl⟩
 .rintro⟨t,h,rfl⟩;exact⟨t,List.mem_range.2 h,rfl⟩
theorem Ml{f:Nat->Wy}(hf:∀i j,f i=f j->i=j)(w):∀n,((cI n).map f).count w=if∃t,t<n/\w=f t then 1 else 0:=by
 intro n;induction n with
 |zero=>rw[iN];rfl;rintro⟨t,h,-⟩;omega
 |succ n ih=>
  rw[sB,dV,List.count_append,ih];by_cases c:w=f n
  .rw[iN,ip ⟨n,oM,c⟩,c]
   .simp
   .rintro⟨t,h,e⟩;have:=hf _ _ (c.symm.trans e);omega
  .have:((oO f [n]).count w)=0:=by
    rw[List.count_eq_zero];simp only[fN,wS,List.mem_singleton];exact c
   rw[this,jN];by_cases d:∃t,t<n/\w=f t
   .obtain⟨t,h,e⟩:=d;rw[ip ⟨t,h,e⟩,ip ⟨t,oM,e⟩]
   .rw[iN d,iN];rintro⟨t,h,e⟩;by_cases et:t=n
    .exact c (by rw[e,et])
    .exact d ⟨t,oM,e⟩
theorem au7(s i j)(h:cV s i=cV s j):i=j:=by
 unfold cV at h;injection h with a b;exact GH a b
theorem LQ(s w):(sE s).count w=if∃t,t<s.len/\w=cV s t then 1 else 0:=Ml (au7 s) w _
open Classical in
theorem au8(s i k):(if s.up=ι/\s.line=i then tD s.a s.b k else 0)=((sE s).count ⟨i,k,1⟩:Int)-((sE s).count ⟨i,k+1,3⟩:Int):=by
 rw[LQ,LQ];have h1:(∃t,t<s.len/\(⟨i,k,1⟩:Wy)=cV s t)↔(s.up=ι/\s.line=i/\s.a<=k/\k<s.b):=by
  constructor
  .rintro⟨t,ht,e⟩;unfold cV at e;injection e with e1 e2 e3;unfold Sg.len at ht;unfold Sg.px at e1;unfold Sg.py at e2;unfold Sg.dir at e3;(repeat' split at e3)<;>first |omega |skip
   rename_i u c;simp only[u,c,if_true]at e1 e2;refine⟨u,?_,?_,?_⟩<;>omega
  .rintro⟨u,hl,h1,h2⟩;obtain⟨t,ht,e1,e2,e3⟩:=vD (s:=s) (x:=i) (y:=k) (d:=1) dD ⟨u,hl,h1,h2⟩;exact⟨t,ht,by unfold cV;rw[e1,e2,e3]⟩
 have h2:(∃t,t<s.len/\(⟨i,k+1,3⟩:Wy)=cV s t)↔(s.up=ι/\s.line=i/\s.b<=k/\k<s.a):=by
  constructor
  .rintro⟨t,ht,e⟩;unfold cV at e;injection e with e1 e2 e3;unfold Sg.len at ht;unfold Sg.px at e1;unfold Sg.py at e2;unfold Sg.dir at e3;(repeat' split at e3)<;>first |omega |skip
   rename_i u c;simp only[u,c,if_true,if_false]at e1 e2;refine⟨u,?_,?_,?_⟩<;>omega
  .rintro⟨u,hl,h1,h2⟩;obtain⟨t,ht,e1,e2,e3⟩:=vD (s:=s) (x:=i) (y:=k+1) (d:=3) dD ⟨u,hl,oM,oM⟩;exact⟨t,ht,by unfold cV;rw[e1,e2,e3]⟩
 simp only[h1,h2];unfold tD;by_cases u:s.up=ι/\s.line=i
 .simp only[u.1,u.2,true_and,if_true];(repeat' split)<;>omega
 .rw[iN u,iN fun c=>u ⟨c.1,c.2.1⟩,iN fun c=>u ⟨c.1,c.2.1⟩];rfl
theorem KP(w E):lF (fun s=>((sE s).count w:Int)) E=((E.flatMap sE).count w:Int):=by
 induction E with
 |nil=>rfl
 |cons s E ih=>rw[lF,ih,gS,List.count_append];omega
theorem cu{c:Int->Int->Bool}{X Y:Nat}(hc:tG c X Y)(hg:∀s∈E,iT X Y s)(h:∀w:Wy,w.d<4->(E.flatMap sE).count w=if eX c w=ι then 1 else 0)(i k):
 bF E i k=if c i k=ι then 1 else 0:=by
 have key:∀n:Nat,∀i:Int,(X:Int)-i<=n->bF E i k=if c i k=ι then 1 else 0:=by
  intro n;induction n with
  |zero=>
   intro i hi;rw[Na hg (.inl oM),iN];intro hcc;have:=hc i k hcc;omega
  |succ n ih=>
   intro i hi;have h1:=ih (i+1) oM;have h2:=Fo E (i+1) k;rw[show i+1-1=i by omega,h1]at h2;have h3:lF (fun s=>if s.up=ι/\s.line=i+1 then tD s.a s.b k else 0) E=lF (fun s=>((sE s).count ⟨i+1,k,1⟩:Int)-((sE s).count ⟨i+1,k+1,3⟩:Int)) E:=jW fun s _=>au8 s (i+1) k;rw[h3,fi,KP,KP,h ⟨i+1,k,1⟩ (by decide:1<4),h ⟨i+1,k+1,3⟩ (by decide:3<4)]at h2;rw[h2];have e1:eX c ⟨i+1,k,1⟩=(c i k&& !c (i+1) k):=by
    unfold eX bor pv rgt;simp only[show i+1-1=i by omega,show((1:Nat)<4)=True by simp,decide_true,iO]
   have e2:eX c ⟨i+1,k+1,3⟩=(c (i+1) k&& !c i k):=by
    unfold eX bor pv rgt;simp only[show i+1-1=i by omega,show k+1-1=k by omega,show((3:Nat)<4)=True by simp,decide_true,iO]
   rw[e1,e2];cases c i k<;>cases c (i+1) k<;>rfl
 exact key ((X:Int)-i).toNat i oM
end
end Go.Proofs.YtncclggcfgnhpaaGreatDoor
