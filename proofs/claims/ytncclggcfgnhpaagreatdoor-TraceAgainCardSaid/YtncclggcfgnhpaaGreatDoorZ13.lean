import Derived.Shelf.SlicesE.Reverse
import Derived.Lib.OwnBridge
import Derived.Test.YtncclggcfgnhpaaGreatDoorZ12
namespace Go.Proofs.YtncclggcfgnhpaaGreatDoor
set_option maxRecDepth 100000
set_option maxHeartbeats 8000000
set_option linter.all false
open Go.Proofs.Tryz
open _root_.Bool renaming true->ι,false->ν
open _root_.Go renaming World->η,Calls->aE,wpAnyH_ready->eM
open Go.AllReadyH renaming cons->cP,nil->dH
open Go.Ending renaming returned->σ
open Go.IntKind renaming i64->Ξ
open Go.Obj renaming cells->π
open Go.Op renaming equalIn->Fi
open Go.Proofs.Tryz renaming prog->γ
open Go.RowKit renaming intOf->ξ,Hid->aQ,Below->eo
open Go.RowKit.Below renaming refl->μ
open Go.Shelf renaming Ren->iG
open Go.Sort renaming ahead->Ul
open Go.Value renaming string->Δ,slice->Θ,int->Υ,bool->ω,agg->bQ
open Go.World.ownsRow renaming cellAt->dN,frozenAt->jB
open _root_.Inhabited renaming default->Γ
open _root_.List renaming getD_eq_getElem?_getD->Ω,length_map->υ,length_append->aJ,length_drop->dJ,mem_map_of_mem->dC,length_take->dR,take_of_length_le->eA,flatMap_def->fT,length_reverse->tM,length->Jr
open _root_.Nat renaming le_refl->θ,mod_eq_of_lt->aT,zero_le->aP,mod_lt->aV,lt_or_ge->fO,not_lt_zero->vJ
open _root_.Option renaming none->δ,some->ζ
variable{xs ys:List Lp}{k:Nat}
section
open Go.Shelf
def Tryz.rvK_ren:iG:=⟨fun |35=>9|n=>n,fun |22=>28|23=>32|3=>3|4=>4|0=>0|n=>n,fun |n=>n⟩
theorem Tryz.rvK:Go.Proofs.SlLaysE.n35 γ Tryz.rvK_ren:={
 mixed:=kF
 f35:=⟨Tryz.f9.name,dD,zf func9⟩
 t0:=underlying0
 a0:=isAgg0
 z0:=sizeOf0
 v0:=zeroValue0
 t3:=underlying3
 a3:=isAgg3
 z3:=sizeOf3
 v3:=zeroValue3
 t4:=underlying4
 a4:=isAgg4
 z4:=sizeOf4
 v4:=zeroValue4
 t22:=underlying28
 a22:=isAgg28
 z22:=sizeOf28
 v22:=zeroValue28
 a23:=isAgg32
 z23:=sizeOf32}
open Go Go.RowKit Go.Shelf Go.Lib Go.Sort
theorem Ud{α:Type}[Inhabited α](enc:α->Value)(w:η)(g q:Nat)(d:Array α):w.grownBy (putRow enc (Ul w q) g 0 d) (ζ g):=
 ⟨rfl,rfl,rfl,by simp[putRow,mapBlock,Ul],fun k hk hne=>by
  simp[putRow,mapBlock,Ul,Array.getElem?_modify,show g≠k from fun e=>hne (by rw[e])]⟩
theorem yy(B)(a:Option Addr)(n c aZ w0 w)(hB:eo B w0 w)(hl:aZ.length=n)(ho:gM B w (Θ a n c) aZ)(hn:n<=1000):
 aE γ 9 #[Θ a n c] w fun e w'=>e=σ (.tuple #[])/\gM B w' (Θ a n c) aZ.reverse/\eo B w0 w':=by
 rcases ho.1.2 with⟨h,h0⟩|⟨g,c',pZ,h,hg,-⟩
 .obtain rfl:aZ=[]:=List.length_eq_zero_iff.1 h0;cases h;refine(AnyE.slices_Reverse_empty Tryz.rvK δ 0 w).mono ?_;rintro e w'⟨rfl,rfl⟩;exact⟨rfl,ho,hB⟩
 .cases h;have yB:=ho.1;have hH:Holds Lp.v w g 0 aZ.toArray:=by
   intro j hj;have hj:j<aZ.length:=by simpa using hj
   rw[Nat.zero_add];refine⟨?_,jB yB j⟩;rw[dN yB j oM];simp[hj]
  have H:=AnyE.slices_Reverse Tryz.rvK Lp.v (fun _=>rfl) g 0 c aZ w hH oM;refine H.mono ?_;rintro e w'⟨rfl,q,rfl⟩;have Et:=Ud Lp.v w g q aZ.reverse.toArray;refine⟨rfl,⟨?_,fun l UO=>?_⟩,below_putRow hB hg⟩
  .have:=ownsRow_putRow (q:=q) (k:=aZ.length) (ys:=aZ.reverse) yB tM (θ _);rw[eA (by rw[tM];exact θ _)]at this;rw[tM];exact this
  .have UO:=List.mem_reverse.1 UO;exact(ho.2 l UO).kept Et (pQ (ho.2 l UO) ho.1 dD)
end
section
open Go Go.RowKit Go.Lib
theorem ar6(a b:Option Addr)(nf n ca cb fs ls z w)(hE:mV w)(hT:J2 w a b nf n fs ls)(hz:Lz z)(hA:oI fs (dL fs z) ls ι=ι):
 aE γ 12 #[Θ a nf ca,Θ b n cb,Δ (bs z)] w (Rt (Υ Ξ 0) w):=by
 have fL:=nA w (π #[Δ (bs z)] 29);have HC:=zq (uV a b (ζ ⟨w.heap.size,0,δ⟩) nf n 1 ca cb 1 fs ls [z] _ (hE.below fL) (hT.below fL) rfl dD (fun x hx=>by rw[List.mem_singleton]at hx;subst hx;exact hz) (Al.one w z));obtain⟨hf,hl,Vj,hn,sR,My,rf,rl⟩:=hT;have Kb:aQ (∀b2 c2 W,Bw w W->Al W b2 (dL fs z)->aE γ 26 #[bQ #[Θ a nf ca,Θ b2 nf c2],Θ b n cb,ω ι] W (Rt (ω ι) W)):=fun b2 c2 W hW ha=>
  Td a b2 b nf n ca c2 cb fs (dL fs z) ls ι W (hE.below hW) hf (by rw[uS];exact hf) hl hn (fun f hm=>(sR f hm).dir) My (rf.below hW) ha (rl.below hW) hA
 have gH:=zq fL;clear hE hf hl sR My hz rf rl fL hA;have hL':dL fs (([z]:List (List UInt8)).getD 0 [])=dL fs z:=rfl;generalize bs z=Z,hL:dL fs z=L at *;clear hL;unfold qw at HC;rw[hL']at HC;go_enter func12,ntmps12;go_wp2_with fail
 refine HC.o.mono ?_;rintro e W1⟨⟨a2,n2,c2,rfl,hk⟩,hb1⟩;obtain⟨h4,ha⟩:=hk (by first |exact Nat.zero_lt_one|trivial|simp);obtain rfl:=h4.symm;have eG:=gH.bS hb1;have Y9:=zq (eG.o.alloc eG.o.size (π #[Θ a nf ca,Θ a2 nf c2] 70));have Ha:=zq (ha.below (nA W1 (π #[Θ a nf ca,Θ a2 nf c2] 70)));clear ha hb1 HC gH;go_wp2_with fail
 refine kb (Kb.o _ _ _ Y9.o Ha.o) Y9.o fun W3 HB3=>?_;go_wp2;go_ret;exact⟨rfl,HB3.o⟩
def Ek(xs ys:List Lp):Bool:=decide (xs.map Lp.ps=ys.map Lp.ps)
theorem Zo(h:xs.length≠ys.length):Ek xs ys=ν:=by
 apply decide_eq_false;intro e;have:=congrArg Jr e;rw[υ,υ]at this;exact h this
theorem sk{i:Nat}(h:(xs.getD i Γ).ps≠(ys.getD i Γ).ps):Ek xs ys=ν:=by
 apply decide_eq_false;intro e;apply h;have h1:∀zs:List Lp,(zs.getD i Γ).ps=(zs.map Lp.ps).getD i []:=fun zs=>by
  rw[Ω,Ω,List.getElem?_map];cases zs[i]? <;>rfl
 rw[h1,h1,e]
theorem Zp(h:xs.length=ys.length)(h2:∀i,i<xs.length->(xs.getD i Γ).ps=(ys.getD i Γ).ps):Ek xs ys=ι:=by
 apply decide_eq_true;apply List.ext_getElem
 .rw[υ,υ,h]
 .intro i h3 h4;rw[υ]at h3 h4;have:=h2 i h3;simpa[Ω,h3,h4]using this
theorem PC(a b:Option Addr)(n m ca cb xs ys w)(hx:xs.length=n)(hy:ys.length=m)(hn:n<=1000000)(hm:m<=1000000)(lI:∀ l∈xs,l.ps.length<=1000000)(QJ:∀ l∈ys,l.ps.length<=1000000)(ra:CE w a xs)(rb:CE w b ys):
 aE γ 11 #[Θ a n ca,Θ b m cb] w (Rt (ω (Ek xs ys)) w):=by
 by_cases hnm:n=m;case neg=>
  have R:=zq (Zo (xs:=xs) (ys:=ys) (by rw [hx,hy];exact hnm));have h':(n==m)=ν:=by simpa using hnm
  have hni:¬ ((n:Int)=(m:Int)):=oM;clear ra rb hx hy;go_enter func11,ntmps11;go_wp2;go_ret;exact⟨by rw [R.o] <;> rfl,μ _ w⟩
 subst hnm;have R2:aQ (∀ i,(xs.getD i Γ).ps≠(ys.getD i Γ).ps->Ek xs ys=ν):=fun i h=>sk h;have R3:aQ ((∀ i,i < n->(xs.getD i Γ).ps=(ys.getD i Γ).ps)->Ek xs ys=ι):=fun h=>Zp (by rw [hx,hy]) (by rw [hx];exact h);have Ra:=zq ra;have Rb:=zq rb;have Hx:=zq hx;have Hy:=zq hy;have Hps:aQ (∀ i,i < n->(xs.getD i Γ).ps.length<=1000000):=fun i hi=>lI _ (aN (by rw [hx];exact hi) Γ);have Hqs:aQ (∀ i,i < n->(ys.getD i Γ).ps.length<=1000000):=fun i hi=>QJ _ (aN (by rw [hy];exact hi) Γ);clear lI QJ ra rb hx hy;generalize Ek xs ys=RR at *;go_enter func11,ntmps11;go_wp2;go_loopw [5] (fun i wr=>∃ k:Nat,i=Υ Ξ k/\k<=n/\aQ (∀ i,i < k->(xs.getD i Γ).ps=(ys.getD i Γ).ps)/\aQ (Bw w wr)) (fun i _=>n - (ξ i).toNat);case atStart=>exact⟨0,rfl,aP _,fun i h=>absurd h (vJ _),μ _ w⟩
 case round=>
  obtain⟨k,rfl,hk,HE,HB⟩:=hrel;by_cases hlt:k < n
  .obtain⟨xb,xo,rfl,x0,rx⟩:=(Ra.o.below HB.o).at (i:=k) (by rw [Hx.o];exact hlt) rfl;obtain⟨yb,yo,rfl,y0,ry⟩:=(Rb.o.below HB.o).at (i:=k) (by rw [Hy.o];exact hlt) rfl;have Rx:=zq rx;have Ry:=zq ry;have hp:=Hps.o k hlt;have hq:=Hqs.o k hlt;have Rk:=zq (R2.o k);have HEk:aQ ((xs.getD k Γ).ps=(ys.getD k Γ).ps->∀ i,i < k+1->(xs.getD i Γ).ps=(ys.getD i Γ).ps):=fun h i hi=>by
    rcases fO i k with h1 | h1
    .exact HE.o i h1
    .obtain rfl:i=k:=oM;exact h
   clear rx ry HE;generalize ys.getD k Γ=Y,xs.getD k Γ=X at *;obtain⟨xa,xc,xp⟩:=X;obtain⟨ya,yc,yp⟩:=Y;simp only [] at *;obtain⟨p,CW⟩:=nm xp.length;obtain⟨q,hql⟩:=nm yp.length;rw [CW] at hp x0;rw [hql] at hq y0;have hki:(k:Int) < (n:Int):=oM;by_cases hpq:p=q;case neg=>
    have R:=zq (Rk.o (fun h=>hpq (by rw [<- CW,<- hql,h])));have h':(p==q)=ν:=by simpa using hpq
    have hni:¬ ((p:Int)=(q:Int)):=oM;clear CW hql;go_wp2;go_region;all_goals
     go_wp2;go_ret;exact⟨by rw [R.o] <;> rfl,HB.o.drew⟩
   subst hpq;have Hpl:=zq CW;have Hql:=zq hql;clear CW hql;go_wp2;go_region;go_wp2;rename η=>wo;go_loopw [6] (fun i wr=>∃ j:Nat,i=Υ Ξ j/\j<=p/\aQ (∀ i,i < j->xp.getD i Γ=yp.getD i Γ)/\aQ (Bw wo wr)) (fun i _=>p - (ξ i).toNat);case atStart=>exact⟨0,rfl,aP _,fun i h=>absurd h (vJ _),(μ _ wo).drew⟩
   case round=>
    obtain⟨j,rfl,hj,HEj,HBj⟩:=hrel;by_cases hjp:j < p
    .obtain⟨pb,po,rfl,c0,c1,c2⟩:=(Rx.o.below HBj.o).at (i:=j) (by rw [Hpl.o];exact hjp) rfl;obtain⟨qb,qo,rfl,d0,d1,d2⟩:=(Ry.o.below HBj.o).at (i:=j) (by rw [Hql.o];exact hjp) rfl;have x0':=aY HBj.o x0;have y0':=aY HBj.o y0;have hji:(j:Int) < (p:Int):=oM;by_cases hpt:xp.getD j Γ=yp.getD j Γ;case neg=>
      have R:=zq (Rk.o (fun h=>hpt (by rw [h])));have Q:∀ W,(Fi 10000 35 (bQ #[Υ Ξ (xp.getD j Γ).side,Δ (bs (xp.getD j Γ).fr),Δ (bs (xp.getD j Γ).en)]) (bQ #[Υ Ξ (yp.getD j Γ).side,Δ (bs (yp.getD j Γ).fr),Δ (bs (yp.getD j Γ).en)])).run γ W= .ok ν W:=fun W=>by rw [aB0,decide_eq_false hpt]
      clear hpt x0 y0;generalize yp.getD j Γ=P2,xp.getD j Γ=P1 at *;obtain⟨ps,pf,pe⟩:=P1;obtain⟨qs,qf,qe⟩:=P2;simp only [] at *;generalize bs qe=QE,bs qf=QF,bs pe=PE,bs pf=PF at *;go_wp2;go_region;all_goals
       go_wp2;go_ret;exact⟨by rw [R.o] <;> rfl,(aW HB.o HBj.o).drew⟩
     have bn7:aQ (∀ i,i < j+1->xp.getD i Γ=yp.getD i Γ):=fun i hi=>by
      rcases fO i j with h1 | h1
      .exact HEj.o i h1
      .obtain rfl:i=j:=oM;exact hpt
     have Q:∀ W,(Fi 10000 35 (bQ #[Υ Ξ (xp.getD j Γ).side,Δ (bs (xp.getD j Γ).fr),Δ (bs (xp.getD j Γ).en)]) (bQ #[Υ Ξ (yp.getD j Γ).side,Δ (bs (yp.getD j Γ).fr),Δ (bs (yp.getD j Γ).en)])).run γ W= .ok ι W:=fun W=>by rw [aB0,decide_eq_true hpt]
     clear hpt x0 y0 HEj;generalize yp.getD j Γ=P2,xp.getD j Γ=P1 at *;obtain⟨ps,pf,pe⟩:=P1;obtain⟨qs,qf,qe⟩:=P2;simp only [] at *;generalize bs qe=QE,bs qf=QF,bs pe=PE,bs pf=PF at *;go_wp2;go_region;go_wp2;go_roundw;case rel=>exact⟨j+1,rfl,oM,bn7.o,HBj.o.drew⟩
     case measure=>simp only [ξ];omega
    .obtain rfl:j=p:=oM;have x0':=aY HBj.o x0;have Vy:=zq (HEk.o (Tk (by rw [Hpl.o,Hql.o]) (by rw [Hpl.o];exact HEj.o)));clear x0 y0 HEk HEj;go_wp2;go_roundw;case rel=>exact⟨k+1,rfl,oM,Vy.o,aW HB.o HBj.o⟩
     case measure=>simp only [ξ];omega
  .obtain rfl:k=n:=oM;have R:=zq (R3.o HE.o);go_wp2;go_ret;exact⟨by rw [R.o] <;> rfl,HB.o⟩
end
section
open Go Go.Lib
def GI(ps:List Pt)(k:Nat):List Pt:=ps.drop k++ps.take k
theorem Sp(ps k):(GI ps k).length=ps.length:=by
 unfold GI;rw[aJ,dJ,dR];omega
theorem aw1{ps:List Pt}(hk:k<ps.length)(i)(hi:i<ps.length):(GI ps k).getD i Γ=ps.getD ((i+k)%ps.length) Γ:=by
 unfold GI;simp only[Ω];by_cases c:i<ps.length-k
 .rw[List.getElem?_append_left (by rw[dJ];exact c),List.getElem?_drop,aT oM,Nat.add_comm]
 .rw[List.getElem?_append_right (by rw[dJ];omega),dJ,List.getElem?_take,ip oM,show i+k=(i-(ps.length-k))+ps.length by omega,Nat.add_mod_right,aT oM]
theorem OM(ps k):(GI ps k).Perm ps:=(List.perm_append_comm).trans (by rw[List.take_append_drop])
def KR(aZ:List Lp)(k:Nat):List (List Pt):=(aZ.map fun l=>GI l.ps (k%l.ps.length)).reverse
section
variable{fs:List Fr}{z:List UInt8}{aZ:List Lp}
theorem So.sm(h:So fs z aZ):∀p∈aZ.flatMap Lp.ps,Nm (bA fs (dL fs z) p).x/\Nm (bA fs (dL fs z) p).y:=fun p hp=>⟨(h.trd.part p hp).2.1.x,(h.trd.part p hp).2.1.y⟩
theorem So.same(h:So fs z aZ){other:List Lp}(hp:(aZ.flatMap Lp.ps).Perm (other.flatMap Lp.ps)):lY fs other z=0/\nP fs other z=aZ.map Lp.ps:=by
 have e1:nY fs (dL fs z) other=nY fs (dL fs z) aZ:=(Kv hp h.sm).symm;have e2:=h.trd.again;have hT:=h.trd.toTrd0;have XJ:FY fs z (nY fs (dL fs z) aZ)=ν:=by
  rw[MX];intro qs QJ;obtain⟨rl,h1,h2⟩:=T9 (ls:=aZ) (fun p hp=>(hT.part p hp).1) hT.brd;have h2:nY fs (dL fs z) aZ=_:=h2;rw[h2]at QJ;obtain⟨y,hy,rfl⟩:=List.mem_map.1 QJ;have hy1:y.1<aZ.length:=List.mem_range.1 (h1.mem_iff.1 (dC hy));have ha:=(MX.1 h.amb) (aZ.getD y.1 Γ).ps (dC (aN hy1 Γ));exact XN (m:=y.2) ha sP fun i hi=>rJ _ hi
 have e3:lY fs other z=0:=by
  unfold lY;rw[e1,iN (by rw[XJ];decide)]
 exact⟨e3,by unfold nP;rw[ip e3,e1,e2]⟩
theorem So.again(h:So fs z aZ):lY fs aZ z=0/\nP fs aZ z=aZ.map Lp.ps:=h.same (List.Perm.refl _)
theorem So.other(h:So fs z aZ){other:List Lp}(ho:other.map Lp.ps=KR aZ k):lY fs other z=0/\nP fs other z=aZ.map Lp.ps/\oI fs (dL fs z) other ν=ι/\Dw other/\(other.flatMap Lp.ps).length<=12/\other.length=aZ.length:=by
 have AU:(aZ.flatMap Lp.ps).Perm (other.flatMap Lp.ps):=by
  rw[tS,tS,ho];unfold KR;refine List.Perm.symm (((List.reverse_perm _).flatten).trans ?_);rw[<-fT,<-fT];exact Jg fun l _=>OM _ _
 obtain⟨a,b⟩:=h.same AU;have mG:∀o∈other,∃l∈aZ,o.ps=GI l.ps (k%l.ps.length):=fun o Pc=>by
  have:o.ps∈KR aZ k:=by rw[<-ho];exact dC Pc
  obtain⟨l,hl,e⟩:=List.mem_map.1 (List.mem_reverse.1 this);exact⟨l,hl,e.symm⟩
 refine⟨a,b,Dj fun o Pc=>?_,fun o Pc=>?_,by rw[<-AU.length_eq];exact h.cnt,?_⟩
 .obtain⟨l,hl,e⟩:=mG o Pc;have h4:=(h.len.2 l hl).1;have hk:k%l.ps.length<l.ps.length:=aV _ oM;rw[e];exact OK (wZ (h.trd.whole ν) l hl) (Sp _ _) fun i hi=>aw1 hk i hi
 .obtain⟨l,hl,e⟩:=mG o Pc;rw[e,Sp];exact⟨(h.ok l hl).1,fun p hp=>(h.ok l hl).2 p ((OM _ _).mem_iff.1 hp)⟩
 .have:=congrArg Jr ho;unfold KR at this;rw[υ,tM,υ]at this;exact this
end
end
section
open Go Go.RowKit Go.Shelf Go.Lib
def ON(aZ:List Lp)(k:Nat):List (List Pt):=aZ.map fun l=>GI l.ps (k%l.ps.length)
theorem FL(aZ k):(ON aZ k).length=aZ.length:=by unfold ON;rw[υ]
theorem yz{aZ ls:List Lp}(h:ls.map Lp.ps=ON aZ k):ls.reverse.map Lp.ps=KR aZ k:=by
 rw[List.map_reverse,h];rfl
theorem OO (a:Option Addr) (N cap:Nat) (rs:List Rg) (st fm:Nat) (w:η) (hE:mV w) (hD:KH w) (hl:rs.length=N) (tY:N<=40->bY (aF rs) N<=9223372036854775807) (hN:N<=9223372036854775807) (rr:GB w a rs) (AF:st<=255) (hfm:fm<=255) :
 aE γ 3 #[bQ #[Θ a N cap],Υ .u8 (st:Int),Υ .u8 (fm:Int)] w fun e w'=>e=σ (ω ι)/\Bw w w':=by
 have HFi:=zq (fun W (hW:Bw w W)=>ar8 a N cap rs W hl tY hN (rr.below hW));have HAw:=zq fun W (hW:Bw w W)=>xn W (hE.below hW);have fL:=nA w (π #[Θ a N cap] 24);have vH:=bE.new w #[Θ a N cap] 24;obtain⟨W0,fI⟩:=nm (w.alloc (π #[Θ a N cap] 24));rw [fI] at fL vH;have gH:=zq fL;have rD:=zq vH;have b0:=vH.ce 0;have HW:=zq fI;have H1:=zq (HFi.o _ fL);clear fL vH fI HFi;cases hfp:Xm (aF rs) N with
 | false=>
  rw [hfp] at H1;clear hfp hE hD rr tY hN hl;go_enter func3,ntmps3;go_upto_region 1 with (fail)
  rw [HW.o];clear HW;go_wp2_with fail
  refine ka H1.o fun W1 hb=>?_;have eG:=gH.bS hb;have H2:=zq (HAw.o _ eG.o);clear hb H1 gH b0;go_wp2_with fail
  refine kb H2.o eG.o fun W2 eU=>?_;clear H2;go_wp2;go_ret;exact⟨rfl,eU.o⟩
 | true=>
  rw [hfp] at H1;unfold Xm at hfp;simp only [Bool.and_eq_true,Bool.not_eq_true',decide_eq_true_eq] at hfp;obtain⟨hg,h0⟩:=hfp;obtain⟨g1,g2⟩:=RE hg;have hn:∀ r,(aF rs r).length<=1000:=fun r=>ku hl oM;have c2:=(wP h0).2.2.1;have Oj:bY (aF rs) N<=12:=oM;have HF:=zq (Sa hl h0 Oj);have CF:=nG (aF rs) N;have Ov:=zq CF;have HSt:=zq (fun W (hW:Bw w W)=>yw a N cap rs st W AF hl oM hn (rr.below hW) h0 Oj (hE.below hW) (hD.below hW));have Vy:aQ (∀ W,Bw w W->mV W):=fun W hW=>hE.below hW;have yx:=zq Oj;clear hE hD rr tY hN hl hg h0 g1 g2 hn c2 CF Oj AF;go_enter func3,ntmps3;go_upto_region 1 with (fail)
  rw [HW.o];clear HW;go_wp2_with fail
  refine ka H1.o fun W1 hb=>?_;have eG:=gH.bS hb;have b0:=aY hb b0;have H2:=zq (HSt.o _ eG.o);clear hb H1 gH rD HSt;go_wp2_with fail
  refine H2.o.mono ?_;rintro e Ws ⟨⟨fv,lv,zv,rfl⟩ | ⟨fa,fc,la,lc,z,aZ,rfl,hI,hcp,hfc,hf,hlr⟩,hb⟩
  .have eU:=eG.bS hb;have H3:=zq (HAw.o _ eU.o);clear hb H2 eG b0;go_wp2_with fail
   refine kb H3.o eU.o fun W3 HB3=>?_;clear H3;go_wp2;go_ret;exact⟨rfl,HB3.o⟩
  .have HBs:=eG.bS hb;have HFs:=HF.o.fs;have bl8:=Ov.o;have Oj:=yx.o;generalize bY (aF rs) N=M,fP (aF rs) N=FS at *;obtain⟨l1,l2⟩:=hI.len;have hT:∀ W,Bw Ws W->∀ oa (UI:List Lp),CE W oa UI->Dw UI->UI.length=aZ.length->J2 W fa oa M aZ.length FS UI:=fun W hW oa UI hr yX hlen=>
    ⟨bl8,hlen,oM,oM,HFs,yX,hf.below hW,hr⟩
   have Ka:aQ (∀ W,Bw Ws W->∀ oa oc (UI:List Lp),CE W oa UI->(UI=aZ\/UI.map Lp.ps=KR aZ fm)->aE γ 10 #[Θ fa M fc,Θ oa aZ.length oc,Δ (bs z)] W fun e w'=>(∃ ta tc,∃ t:List Lp,e=σ (.tuple #[Θ ta aZ.length tc,Υ Ξ 0])/\CE w' ta t/\t.map Lp.ps=aZ.map Lp.ps)/\Bw W w'):=fun W hW oa oc UI hr ho=>by
    obtain⟨q1,q2,q3,q4,q5,q6⟩:lY FS UI z=0/\nP FS UI z=aZ.map Lp.ps/\oI FS (dL FS z) UI ν=ι/\Dw UI/\(UI.flatMap Lp.ps).length<=12/\UI.length=aZ.length:=by
     rcases ho with rfl | ho
     .exact⟨hI.again.1,hI.again.2,hI.trd.whole ν,hI.ok,hI.cnt,rfl⟩
     .exact hI.other ho
    refine(Ow fa oa M aZ.length fc oc FS UI z W (Vy.o _ (aW HBs.o hW)) (hT W hW oa UI hr q4 q6) Oj oM hI.lz q3).mono ?_;rintro e w' ⟨⟨ta,tc,t,rfl,ht,hrt,-⟩,hb⟩;rw [q1,q2,υ];exact⟨⟨ta,tc,t,rfl,hrt,by rw [ht,q2]⟩,hb⟩
   have HTC:aQ (∀ W,Bw Ws W->aE γ 12 #[Θ fa M fc,Θ la aZ.length lc,Δ (bs z)] W fun e w'=>e=σ (Υ Ξ 0)/\Bw W w'):=fun W hW=>
    ar6 fa la M aZ.length fc lc FS aZ z W (Vy.o _ (aW HBs.o hW)) (hT W hW la aZ (hlr.below hW) hI.ok rfl) hI.lz (hI.trd.whole ι)
   have HTS:aQ (∀ W,Bw Ws W->∀ ta tc (t:List Lp),CE W ta t->t.map Lp.ps=aZ.map Lp.ps->aE γ 11 #[Θ ta aZ.length tc,Θ la aZ.length lc] W fun e w'=>e=σ (ω ι)/\Bw W w'):=fun W hW ta tc t hr hm=>by
    have hlen:t.length=aZ.length:=by rw [<- υ (f:=Lp.ps),hm,υ]
    have lI:∀ l∈t,l.ps.length<=1000000:=fun l hl=>by
     have:l.ps∈aZ.map Lp.ps:=by rw [<- hm];exact dC hl
     obtain⟨o,ho,e⟩:=List.mem_map.1 this;rw [<- e];have:=(l2 o ho).2;omega
    have:=PC ta la aZ.length aZ.length tc lc t aZ W hlen rfl oM oM lI (fun l hl=>by have:=(l2 l hl).2;omega) hr (hlr.below hW);rwa [show Ek t aZ=ι from decide_eq_true hm] at this
   have HK3:aQ (aZ.length<=3):=l1;have HPs:aQ (∀ k,k < aZ.length->4<=(aZ.getD k Γ).ps.length/\(aZ.getD k Γ).ps.length<=12/\(aZ.getD k Γ).ps.length<=(aZ.getD k Γ).cap):=fun k hk=>by
    have h:=aN hk (Γ:Lp);exact⟨(l2 _ h).1,(l2 _ h).2,hcp _ h⟩
   have HLR:=zq hlr;clear hb H2 eG b0 HF Ov yx Vy HFs bl8 Oj l1 l2 hT hI hcp hfc hf hlr;generalize bs z=SZ at *;obtain⟨n,hn⟩:=nm aZ.length;rw [hn] at Ka HTC HTS HK3 HPs |-;have Hl:=zq hn;clear hn;have hn3:=HK3.o;go_wp2;go_loopw [11,36] (fun o i wr=>∃ k:Nat,i=Υ Ξ (k:Int)/\k<=n/\aQ (Bw Ws wr)/\aQ (∃ Af,gM Ws.heap.size wr o Af/\Af.map Lp.ps=(ON aZ fm).take k)) (fun _ i _=>n - (ξ i).toNat);case atStart=>exact⟨0,rfl,oM,μ _ _,[],⟨World.ownsRow_nil _ _ _ _,fun l h=>by cases h⟩,sP⟩
   case round=>
    obtain⟨k,rfl,hk,HB,HO⟩:=hrel;rename η=>wr;by_cases hlt:k < n
    .have aC4:(k:Int) < n:=oM;have hk0:(0:Int)<=(k:Int):=oM;obtain⟨lb,lo,rfl,l0,rp⟩:=(HLR.o.below HB.o).at (i:=k) (by rw [Hl.o];exact hlt) rfl;obtain⟨q1,q2,q3⟩:=HPs.o k hlt;have PD:aQ ((ON aZ fm).take (k+1)=(ON aZ fm).take k ++ [GI (aZ.getD k Γ).ps (fm % (aZ.getD k Γ).ps.length)]):=by
      show _=_;have hkl:k < aZ.length:=by rw [Hl.o];exact hlt
      rw [List.take_succ_eq_append_getElem (by rw [FL];exact hkl)];unfold ON;simp [Ω,hkl]
     obtain⟨pb,po,NW,-⟩:=rp.at (i:=0) oM rfl;have hmi:fm % (aZ.getD k Γ).ps.length < (aZ.getD k Γ).ps.length:=aV _ oM;have aL6:((fm:Int)).tmod ((aZ.getD k Γ).ps.length:Int)=((fm % (aZ.getD k Γ).ps.length:Nat):Int):=by rw [Int.tmod_eq_emod_of_nonneg oM];rfl
     rw [NW] at l0 rp;unfold GI at PD;generalize (aZ.getD k Γ).cap=lcap at *;clear NW;generalize (aZ.getD k Γ).ps=ps at *;generalize fm % ps.length=mi at *;obtain⟨np,PO⟩:=nm ps.length;rw [PO] at l0 q1 q2 q3 hmi aL6;have Rh:=zq PO;clear PO;have al3:=zq rp;clear rp;have f0:(0:Int)<=(mi:Int):=oM;have f1:(mi:Int)<=np:=oM;have f2:(np:Int)<=lcap:=oM;have f3:(mi:Int)<=lcap:=oM;have f4:¬ ((np:Int)=0):=oM;have ru:¬ lcap=mi:=oM;go_wp2;obtain⟨Af,ZU,Pc⟩:=HO.o;obtain⟨oa,oc,PR⟩:=kU ZU.1;have ZV:Af.length=k:=by rw [<- υ (f:=Lp.ps),Pc,dR,FL,Hl.o];omega
     rw [ZV] at PR;subst PR;have Hlk:=zq ZV;clear ZV;have al2:=zq ZU;have Hom:=zq Pc;have HB3:=HB;clear ZU Pc HO HB;refine wp_region_held_drew (S:=(fun _=>True)) kF trivial (fun iW=>?_);obtain⟨Wd,hWd⟩:=nm (wr.drew);have uu:Bw wr Wd:=by rw [<- hWd];exact(μ _ _).drew
     rw [hWd];have HOd:=zq (al2.o.below uu);have HRd:=zq (al3.o.below uu);have Yr:=HB3.bS uu;clear uu hWd al2 al3 HB3 iW;refine tH 0 rfl ?_ (hS:=trivial);refine pu ?_;refine tH 1 rfl ?_ (hS:=trivial);refine pu ?_;refine tH 2 rfl ?_ (hS:=trivial);refine pu ?_;refine tH 3 rfl ?_ (hS:=trivial);refine pu ?_;refine tH 4 rfl ?_ (hS:=trivial);refine pu ?_;refine tH 5 rfl ?_ (hS:=trivial);refine pu ?_;refine tH 6 rfl ?_ (hS:=trivial);refine pu ?_;refine eM (rs:=[7]) kF sP ?_;refine cP rfl (fun K hK=>?_) dH;go_simp;show K _ _;obtain⟨V1,hV1⟩:=nm (Wd.alloc (π #[Θ (ζ ⟨pb,po+mi * 3,δ⟩) (np - mi) (lcap - mi),Θ (ζ ⟨pb,po,δ⟩) mi lcap] 32));rw [hV1];have hb1:Bw Wd V1:=by rw [<- hV1];exact nA _ _
     have PI:bE V1 Wd.heap.size #[Θ (ζ ⟨pb,po+mi * 3,δ⟩) (np - mi) (lcap - mi),Θ (ζ ⟨pb,po,δ⟩) mi lcap] 32:=by rw [<- hV1];exact bE.new _ _ _
     have IU:=zq (N9 pb po np mi lcap (lcap - mi) Wd.heap.size ps V1 Rh.o oM oM oM (HRd.o.below hb1) PI);have Lj:=zq (HOd.o.below hb1);have eG:=Yr.bS hb1;clear hb1 PI hV1 HOd Yr HRd;refine hK.o _ _ trivial (fun iW=>?_);clear hK K;refine pu ?_;refine eM (rs:=[8]) kF sP ?_;refine cP rfl (fun K hK=>?_) dH;go_simp;go_at_call 8;refine IU.o.mono ?_;rintro e V2 ⟨⟨rg,rc,rfl,cT⟩,hb2⟩;have PJ:=zq (jU cT eG.o.size);have Ps:=zq (Lj.o.below hb2);have eU:=eG.bS hb2;clear cT hb2 Lj eG IU;show K _ _;refine hK.o _ _ trivial (fun iW=>?_);clear hK K;refine pu ?_;refine eM (rs:=[9]) kF sP ?_;refine cP rfl (fun K hK=>?_) dH;go_simp;show K _ _;obtain⟨V3,hV3⟩:=nm (V2.alloc (π #[Θ (ζ ⟨rg,0,δ⟩) np rc] 32));rw [hV3];have hb3:Bw V2 V3:=by rw [<- hV3];exact nA _ _
     have HNb:aQ (bE V3 V2.heap.size #[Θ (ζ ⟨rg,0,δ⟩) np rc] 32):=by rw [<- hV3];exact bE.new _ _ _
     have al4:=zq (aR PJ.o hb3);have PU:=zq (Ps.o.below hb3);have HB3:=eU.bS hb3;clear hb3 hV3 PJ Ps eU;refine hK.o _ _ trivial (fun iW=>?_);clear hK K;refine pu ?_;refine eM (rs:=[10]) kF sP ?_;refine cP rfl (fun K hK=>?_) dH;refine Cc (by rfl) _ _ (by rfl) Ws.heap.size (Θ oa k oc) k (Af.map Lp.v) (by rfl) (by have:=PU.o.1;rwa [Hlk.o] at this) V2.heap.size (ζ ⟨rg,0,δ⟩) np rc (by rfl) HNb.o oM HB3.o.size ?_;intro gx PP V4 cT Et uE;have Wq:V3.ownsRow Ws.heap.size 35 3 (Lp.v ⟨ζ ⟨rg,0,δ⟩,rc,ps.drop mi ++ ps.take mi⟩) (ps.drop mi ++ ps.take mi).length (cJ (ps.drop mi ++ ps.take mi)):=by
      have e:(ps.drop mi ++ ps.take mi).length=np:=by rw [aJ,dJ,dR,Rh.o];omega
      unfold Lp.v;rw [e];exact al4.o
     have lH:V4.ownsRow Ws.heap.size 32 1 (Θ (ζ ⟨gx,0,δ⟩) (k+1) PP) (k+1) (Af.map Lp.v ++ [Lp.v ⟨ζ ⟨rg,0,δ⟩,rc,ps.drop mi ++ ps.take mi⟩]):=by
      have e:(ps.drop mi ++ ps.take mi).length=np:=by rw [aJ,dJ,dR,Rh.o];omega
      unfold Lp.v at cT |-;rw [e];exact cT
     have ho4:=PU.o.grow (g:=gx) (cap:=PP) Wq Et (by rw [Hlk.o];exact lH);rw [Hlk.o] at ho4;have HO4:=zq ho4;clear ho4;have HB4:=zq (dT HB3.o Et PU.o.1 (θ _) HB3.o.size);clear cT lH Wq Et uE PU HB3 HNb al4;show K _ _;refine hK.o _ _ trivial (fun iW=>?_);clear hK K;refine pu ?_;refine tH 11 rfl ?_ (hS:=trivial);refine pu ?_;refine wpAnyH_done kF ?_ _;go_wp2;go_roundw;case rel=>
      refine⟨k+1,by go_num,oM,HB4.o,_,HO4.o,?_⟩;rw [PD.o,List.map_append,Hom.o];rfl
     case measure=>simp only [ξ];omega
    .obtain rfl:k=n:=oM;clear HPs;obtain⟨Af,ZU,Pc⟩:=HO.o;obtain⟨oa,oc,PR⟩:=kU ZU.1;have ZV:Af.length=k:=by rw [<- υ (f:=Lp.ps),Pc,dR,FL,Hl.o];omega
     rw [ZV] at PR;subst PR;rw [eA (by rw [FL,Hl.o];exact θ _)] at Pc;have bl9:=zq (yz Pc);have HRv:=zq (yy Ws.heap.size oa k oc Af Ws wr HB.o ZV ZU oM);clear ZU Pc ZV HO HB;go_wp2_with fail
     refine HRv.o.mono ?_;rintro e W3 ⟨rfl,hor,hb3⟩;have HB3:=zq hb3;have HOr:=zq (gM.reads hor);have H4:=zq (Ka.o W3 hb3 la lc aZ (HLR.o.below hb3) (.inl rfl));clear hor hb3 HRv;go_wp2_with fail
     refine H4.o.mono ?_;rintro e W4 ⟨⟨ta,tc,t,rfl,ht1,UH⟩,hb⟩;have HB4:=zq (HB3.o.trans (hb.mono HB3.o.size));have bm0:=zq (HOr.o.below hb);have HT1:=zq ht1;have Yv:=zq UH;have H5:=zq (Ka.o W4 HB4.o oa oc Af.reverse bm0.o (.inr bl9.o));clear ht1 UH hb HB3 HOr H4 Ka;go_wp2_with fail
     refine H5.o.mono ?_;rintro e W5 ⟨⟨ua,uc,u,rfl,hu1,hu2⟩,hb⟩;have wG:=zq (HB4.o.trans (hb.mono HB4.o.size));have bm1:=zq (HT1.o.below hb);have HU1:=zq hu1;have HU2:=zq hu2;have H6:=zq (HTS.o W5 wG.o ta tc t bm1.o Yv.o);clear hu1 hu2 hb HB4 H5 HT1 bm1 Yv bm0 bl9;go_wp2_with fail
     refine ka H6.o fun W6 hb=>?_;have xU:=zq (wG.o.trans (hb.mono wG.o.size));have H7:=zq (HTS.o W6 xU.o ua uc u (HU1.o.below hb) HU2.o);clear hb H6 wG HU1 HU2 HTS;go_wp2_with fail
     refine ka H7.o fun W7 hb=>?_;have Dx:=zq (xU.o.trans (hb.mono xU.o.size));have H8:=zq (HTC.o W7 Dx.o);clear hb H7 xU HTC;go_wp2_with fail
     refine ka H8.o fun W8 hb=>?_;have HB8:=zq (aW HBs.o (Dx.o.trans (hb.mono Dx.o.size)));have H9:=zq (HAw.o _ HB8.o);clear hb H8 Dx;go_wp2_with fail
     refine kb H9.o HB8.o fun W9 HB9=>?_;clear H9;go_wp2;go_ret;exact⟨rfl,HB9.o⟩
end
end Go.Proofs.YtncclggcfgnhpaaGreatDoor
