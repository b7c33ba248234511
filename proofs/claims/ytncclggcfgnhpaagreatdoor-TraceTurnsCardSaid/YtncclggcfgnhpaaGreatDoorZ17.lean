import Derived.Test.YtncclggcfgnhpaaGreatDoorZ12
namespace Go.Proofs.YtncclggcfgnhpaaGreatDoor
set_option maxRecDepth 100000
set_option maxHeartbeats 8000000
set_option linter.all false
open Go.Proofs.Tryz
open _root_.Bool renaming true->ι,false->ν,and_eq_true->aI
open _root_.Classical renaming byContradiction->aG
open _root_.Go renaming World->η,Value->χ,Calls->aE,TypeId->cS,reachBytes->oT,laidMetH->JG
open Go.DataW renaming weightsEach->vU
open Go.Ending renaming returned->σ
open Go.Instr renaming index->M4
open Go.IntKind renaming i64->Ξ
open Go.IntWalk renaming i64_in->aM
open Go.MakeChecks renaming laidMetH_plain->yW
open Go.Obj renaming cells->π
open Go.OpenSpec renaming ofChange->yM
open Go.Proofs.Tryz renaming prog->γ,underlying5->pG,checked->Yi
open Go.RowKit renaming intOf->ξ,Hid->aQ
open Go.RowKit.Below renaming refl->μ
open Go.Sem renaming run->fD
open Go.Value renaming string->Δ,slice->Θ,int->Υ,bool->ω,pointer->aB
open Go.Value.int renaming injEq->ff
open Go.World renaming block_lt_of_cell?->aD
open _root_.Inhabited renaming default->Γ
open _root_.Int renaming tmod_eq_emod_of_nonneg->kO
open _root_.List renaming getD_eq_getElem?_getD->Ω,length_map->υ,length_cons->aC,cons_append->bV,nodup_iff_pairwise_ne->Qe
open _root_.List.cons renaming injEq->AZ
open _root_.Nat renaming le_refl->θ,mod_eq_of_lt->aT,mod_lt->aV,zero_add->bD,mod_add_mod->eV,le_of_lt->fM,add_mod_right->gQ,add_zero->jN,mod_self->mY
open _root_.Option renaming none->δ,some->ζ
variable{j r:Nat}{fs:List Fr}{z:List UInt8}{aZ:List Lp}{l:Lp}{W:η}
section
open Go Go.RowKit Go.Lib
def bx5(fs:List Fr)(p q:Pt):Int:=(qJ (fs.getD q.side.toNat Γ)-qJ (fs.getD p.side.toNat Γ)+4).tmod 4
theorem by0(f):0<=qJ f/\qJ f<=3:=by
 unfold qJ;cases f.up<;>by_cases h:0<f.dir<;>simp[h]
def by1(w W:η)(g h:Nat)(pc qc:Array χ):Prop:=bE W g pc 35/\bE W h qc 35/\Bw w W
theorem by2(w pc qc):by1 w ((w.alloc (π pc 35)).alloc (π qc 35)).drew w.heap.size (w.heap.size+1) pc qc:=by
 refine⟨(bE.new w _ _).alloc _,?_,((nA w _).alloc sP _).drew⟩;have:=bE.new (w.alloc (π pc 35)) qc 35;rwa[World.size_alloc]at this
theorem bz1(w pc qc):by1 w ((w.alloc (π qc 35)).alloc (π pc 35)).drew (w.heap.size+1) w.heap.size pc qc:=by
 obtain⟨a,b,c⟩:=by2 w qc pc;exact⟨b,a,c⟩
theorem bz7(a b:Option Addr)(nf n ca cb m fs ps w)(hE:mV w)(hf:fs.length=nf)(Vj:nf<=24)(sR:∀ f∈fs,f.Ok)(hp:ps.length=n)(yX:Dw [⟨b,cb,ps⟩])(hmn:m < n)(Ii:∀ p∈ps,∃ s:Nat,p.side=s/\s < nf)(h2:bx5 fs (ps.getD ((m+n - 1) % n) Γ) (ps.getD m Γ)≠2)(rf:yA w a fs)(rp:Ih w b ps):
 aE γ 13 #[Θ a nf ca,Θ b n cb,Υ Ξ m] w fun e w'=>e=σ (.tuple #[ω (decide (bx5 fs (ps.getD ((m+n - 1) % n) Γ) (ps.getD m Γ)=3)),Υ Ξ 0])/\Bw w w':=by
 have bD2:n<=96:=by rw [<- hp];exact(yX _ (List.mem_singleton.2 rfl)).1
 have fL:=nA w (π #[Θ b n cb] 32);have rl:CE (w.alloc (π #[Θ b n cb] 32)) (ζ ⟨w.heap.size,0,δ⟩) [⟨b,cb,ps⟩]:=by
  intro j hj;have hj:j < 1:=hj;obtain rfl:j=0:=oM;refine⟨_,_,rfl,?_,rp.below fL⟩;have:=(bE.new w #[Θ b n cb] 32).cell 0;rw [<- hp] at this |-;exact this
 have HC:=zq (uV a (ζ ⟨w.heap.size,0,δ⟩) δ nf 1 0 ca 1 0 fs [⟨b,cb,ps⟩] [] _ (hE.below fL) ⟨hf,rfl,Vj,dD,sR,yX,rf.below fL,rl⟩ rfl dD (fun x hx=>absurd hx sP) (fun i hi=>absurd hi sP));have HDx:aQ (∀ j,j < nf->∀ W,aE γ 31 #[(fs.getD j Γ).v] W fun e w'=>e=σ (Υ Ξ (qJ (fs.getD j Γ)))/\Bw W w'):=fun j hj W=>uU _ W;have hkn:(m+n - 1) % n < n:=aV _ oM;obtain⟨s,xZ,hs2⟩:=Ii _ (aN (i:=(m+n - 1) % n) oM Γ);obtain⟨t,ht1,UH⟩:=Ii _ (aN (i:=m) oM Γ);have Rf:=zq rf;have Rp:=zq rp;have Hf:=zq hf;have Hp:=zq hp;have gH:=zq fL;clear hE hf hp sR rf rp fL rl yX Ii;unfold qw at HC;have s3:((m:Int)+(n:Int) - 1).tmod (n:Int)=(((m+n - 1) % n:Nat):Int):=by
  rw [kO oM];rw [show(m:Int)+(n:Int) - 1=((m+n - 1:Nat):Int) by omega];rfl
 generalize (m+n - 1) % n=k at *;obtain⟨TR,hTR⟩:=nm (bx5 fs (ps.getD k Γ) (ps.getD m Γ));obtain⟨bb,hbb⟩:=nm (decide (TR=3));rw [hTR] at h2 |-;rw [hbb];have HTR:=zq hTR;have HBb:=zq hbb;clear hTR hbb;have s1:IntKind.i64.wrap ((m:Int)+(n:Int))=(m:Int)+(n:Int):=aM _ oM;have s2:IntKind.i64.wrap ((m:Int)+(n:Int) - 1)=(m:Int)+(n:Int) - 1:=aM _ oM;have S3:=zq (And.intro s1 (And.intro s2 s3));clear s1 s2 s3;go_enter func13,ntmps13;go_wp2_with fail
 refine HC.o.mono ?_;rintro e W1 ⟨⟨a2,n2,k2,rfl,-⟩,hb1⟩;have HBq:=gH.bS hb1;have eG:=zq (HBq.o.alloc HBq.o.size (π #[Θ a nf ca,Θ a2 n2 k2] 70));obtain⟨WB,hWB⟩:=nm (W1.alloc (π #[Θ a nf ca,Θ a2 n2 k2] 70));rw [hWB] at eG;have HWB:=zq hWB;clear hb1 HC gH HBq hWB;obtain⟨pb,po,rfl,c0,c1,c2⟩:=(Rp.o.below eG.o).at (i:=k) (by rw [Hp.o];exact hkn) rfl;obtain⟨pb',po',e1,d0,d1,d2⟩:=(Rp.o.below eG.o).at (i:=m) (by rw [Hp.o];exact hmn) rfl;injection e1 with e1;injection e1 with e1 e2;subst e1 e2;generalize ps.getD m Γ=q,ps.getD k Γ=p at *;rw [xZ] at c0;rw [ht1] at d0;have lb:pb < WB.heap.size:=aD WB ⟨pb,po+k * 3,δ⟩ c0;have v1:∀ j,pb < WB.heap.size+j:=fun j=>oM;have v2:∀ j,¬ pb=WB.heap.size+j:=fun j=>oM;have v3:¬ pb=WB.heap.size:=oM;have hki:(k:Int) < (n:Int):=oM;have hk0:(0:Int)<=(k:Int):=oM;have SY:¬ n=0:=oM;obtain⟨s1,s2,s3⟩:=S3.o;go_upto_region 6 with fail
 rw [HWB.o];go_cut [10,11] (fun x y W=>∃ g h:Nat,x=aB (ζ ⟨g,0,δ⟩)/\y=aB (ζ ⟨h,0,δ⟩)/\aQ (by1 WB W g h (#[Υ Ξ s,Δ (bs p.fr),Δ (bs p.en)]) (#[Υ Ξ t,Δ (bs q.fr),Δ (bs q.en)])));case first=>
  go_region;all_goals
   go_wp2;go_meet;case rel=>first | exact⟨_,_,rfl,rfl,by2 _ _ _⟩ | exact⟨_,_,rfl,rfl,bz1 _ _ _⟩
 case rest=>
 obtain⟨g',h',rfl,rfl,HJ⟩:=hcut;have eU:=zq (aW eG.o HJ.o.2.2);obtain⟨p0,p1,p2⟩:=HJ.o.1.three;obtain⟨q0,q1,q2⟩:=HJ.o.2.1.three;clear s1 s2 s3 v1 v2 v3 lb c0 c1 c2 d0 d1 d2 HJ eG;obtain⟨psd,pfr,pen⟩:=p;obtain⟨qsd,qfr,qen⟩:=q;simp only [] at *;subst xZ ht1;have Yv:=zq h2;clear h2;generalize bs qen=QE,bs qfr=QF,bs pen=PE,bs pfr=PF at *;rename η=>wc;go_wp2;go_loopw [53] (fun i wr=>∃ k:Nat,i=Υ Ξ k/\k<=2/\aQ (Bw wc wr)) (fun i _=>2 - (ξ i).toNat);case atStart=>exact⟨0,rfl,oM,μ _ _⟩
 case round=>
 obtain⟨k2,rfl,hk2,Yx⟩:=hrel;have g1:¬ (s:Int) < 0:=oM;have g2:¬ (nf:Int)<=(s:Int):=oM;have g3:¬ (t:Int) < 0:=oM;have g4:¬ (nf:Int)<=(t:Int):=oM;by_cases hk3:k2 < 2
 .have hI0:∀ W,fD γ (M4 79 (.agg #[Υ Ξ s,Υ Ξ t]) (Υ Ξ 0)) W= .ok (Υ Ξ s) W:=fun W=>by first | kernel_rfl | rfl
  have hI1:∀ W,fD γ (M4 79 (.agg #[Υ Ξ s,Υ Ξ t]) (Υ Ξ 1)) W= .ok (Υ Ξ t) W:=fun W=>by first | kernel_rfl | rfl
  obtain rfl | rfl:k2=0\/k2=1:=oM
  .go_wp2;go_roundw;case rel=>exact⟨1,rfl,oM,Yx.o⟩
   case measure=>simp only [ξ];omega
  .go_wp2;go_roundw;case rel=>exact⟨2,rfl,oM,Yx.o⟩
   case measure=>simp only [ξ];omega
 obtain rfl:k2=2:=oM;have eU:=zq (aW eU.o Yx.o);have p0:=aY Yx.o p0;have p1:=aY Yx.o p1;have p2:=aY Yx.o p2;have q0:=aY Yx.o q0;have q1:=aY Yx.o q1;have q2:=aY Yx.o q2;clear Yx hk3 hk2 g1 g2 g3 g4;rename η=>wc;have Jv:s < nf:=hs2;have FU:t < nf:=UH;have HT:aQ (TR=(qJ (fs.getD t Γ) - qJ (fs.getD s Γ)+4).tmod 4):=HTR.o.symm;have Yk:=zq (HDx.o t FU);have Pu:=zq (HDx.o s Jv);obtain⟨fb,fo,rfl,f0,f1,f2,f3,f4⟩:=(Rf.o.below eU.o).at (i:=t) (by rw [Hf.o];exact FU) rfl;obtain⟨fb',fo',e1,e0,e1',e2,e3,e4⟩:=(Rf.o.below eU.o).at (i:=s) (by rw [Hf.o];exact Jv) rfl;injection e1 with e1;injection e1 with h1 h2;subst h1 h2;clear HDx;clear HTR;generalize fs.getD s Γ=g,fs.getD t Γ=f at *;have b1:=by0 f;have b2:=by0 g;generalize qJ g=D2,qJ f=D1 at *;unfold Fr.v Fr.cells at Yk Pu;obtain⟨fup,fco,fdir,Ll,fst⟩:=f;obtain⟨O7,re,IL,gsp,gst⟩:=g;simp only [] at *;generalize bs gst=GST,bs gsp=GSP,bs fst=FST,bs Ll=FSP at *;have w1:IntKind.i64.wrap (D1 - D2)=D1 - D2:=aM _ oM;have w2:IntKind.i64.wrap (D1 - D2+4)=D1 - D2+4:=aM _ oM;have w3:(D1 - D2+4).tmod 4=TR:=HT.o.symm;go_wp2;go_cut [14] (fun v W=>v=Υ Ξ TR/\aQ (Bw wc W));case first=>
  go_region_held3 (fun w'=>(w'.cell? ⟨g',0,δ⟩=ζ (Υ Ξ s)/\w'.cell? ⟨g',1,δ⟩=ζ (Δ PF)/\w'.cell? ⟨g',2,δ⟩=ζ (Δ PE))/\(w'.cell? ⟨h',0,δ⟩=ζ (Υ Ξ t)/\w'.cell? ⟨h',1,δ⟩=ζ (Δ QF)/\w'.cell? ⟨h',2,δ⟩=ζ (Δ QE))/\w'.cell? ⟨fb,fo+t * 5,δ⟩=ζ (ω fup)/\w'.cell? ⟨fb,fo+t * 5+1,δ⟩=ζ (Υ Ξ fco)/\w'.cell? ⟨fb,fo+t * 5+2,δ⟩=ζ (Υ Ξ fdir)/\w'.cell? ⟨fb,fo+t * 5+3,δ⟩=ζ (Δ FSP)/\w'.cell? ⟨fb,fo+t * 5+4,δ⟩=ζ (Δ FST)/\w'.cell? ⟨fb,fo+s * 5,δ⟩=ζ (ω O7)/\w'.cell? ⟨fb,fo+s * 5+1,δ⟩=ζ (Υ Ξ re)/\w'.cell? ⟨fb,fo+s * 5+2,δ⟩=ζ (Υ Ξ IL)/\w'.cell? ⟨fb,fo+s * 5+3,δ⟩=ζ (Δ GSP)/\w'.cell? ⟨fb,fo+s * 5+4,δ⟩=ζ (Δ GST)) (go_keep)
   (first
    | (go_at_call 31;with_reducible refine(Yk.o _).mono ?_;rintro e w1' ⟨rfl,hb1⟩;have hBt:=zq (aW (by first | exact hBs.o | exact(μ _ wc).drew) hb1);have:=ck hb1 g' 0 (Υ Ξ s);have:=ck hb1 g' 1 (Δ PF);have:=ck hb1 g' 2 (Δ PE);have:=ck hb1 h' 0 (Υ Ξ t);have:=ck hb1 h' 1 (Δ QF);have:=ck hb1 h' 2 (Δ QE);have m0:=aY hb1 (p:=⟨fb,fo+t * 5,δ⟩) (v:=ω fup) (by simp [*]);have m1:=aY hb1 (p:=⟨fb,fo+t * 5+1,δ⟩) (v:=Υ Ξ fco) (by simp [*]);have m2:=aY hb1 (p:=⟨fb,fo+t * 5+2,δ⟩) (v:=Υ Ξ fdir) (by simp [*]);have m3:=aY hb1 (p:=⟨fb,fo+t * 5+3,δ⟩) (v:=Δ FSP) (by simp [*]);have m4:=aY hb1 (p:=⟨fb,fo+t * 5+4,δ⟩) (v:=Δ FST) (by simp [*]);have m5:=aY hb1 (p:=⟨fb,fo+s * 5,δ⟩) (v:=ω O7) (by simp [*]);have m6:=aY hb1 (p:=⟨fb,fo+s * 5+1,δ⟩) (v:=Υ Ξ re) (by simp [*]);have m7:=aY hb1 (p:=⟨fb,fo+s * 5+2,δ⟩) (v:=Υ Ξ IL) (by simp [*]);have m8:=aY hb1 (p:=⟨fb,fo+s * 5+3,δ⟩) (v:=Δ GSP) (by simp [*]);have m9:=aY hb1 (p:=⟨fb,fo+s * 5+4,δ⟩) (v:=Δ GST) (by simp [*]))
    | (go_at_call 31;with_reducible refine(Pu.o _).mono ?_;rintro e w1' ⟨rfl,hb1⟩;have hBs:=zq (aW (by first | exact hBt.o | exact(μ _ wc).drew) hb1);have:=ck hb1 g' 0 (Υ Ξ s);have:=ck hb1 g' 1 (Δ PF);have:=ck hb1 g' 2 (Δ PE);have:=ck hb1 h' 0 (Υ Ξ t);have:=ck hb1 h' 1 (Δ QF);have:=ck hb1 h' 2 (Δ QE);have m0:=aY hb1 (p:=⟨fb,fo+t * 5,δ⟩) (v:=ω fup) (by simp [*]);have m1:=aY hb1 (p:=⟨fb,fo+t * 5+1,δ⟩) (v:=Υ Ξ fco) (by simp [*]);have m2:=aY hb1 (p:=⟨fb,fo+t * 5+2,δ⟩) (v:=Υ Ξ fdir) (by simp [*]);have m3:=aY hb1 (p:=⟨fb,fo+t * 5+3,δ⟩) (v:=Δ FSP) (by simp [*]);have m4:=aY hb1 (p:=⟨fb,fo+t * 5+4,δ⟩) (v:=Δ FST) (by simp [*]);have m5:=aY hb1 (p:=⟨fb,fo+s * 5,δ⟩) (v:=ω O7) (by simp [*]);have m6:=aY hb1 (p:=⟨fb,fo+s * 5+1,δ⟩) (v:=Υ Ξ re) (by simp [*]);have m7:=aY hb1 (p:=⟨fb,fo+s * 5+2,δ⟩) (v:=Υ Ξ IL) (by simp [*]);have m8:=aY hb1 (p:=⟨fb,fo+s * 5+3,δ⟩) (v:=Δ GSP) (by simp [*]);have m9:=aY hb1 (p:=⟨fb,fo+s * 5+4,δ⟩) (v:=Δ GST) (by simp [*])))
  all_goals
   go_wp2;go_meet;case rel=>exact⟨by first | rfl | (rw [w3];done),by first | exact hBs.o | exact hBt.o⟩
 case rest=>
 obtain⟨rfl,HB3⟩:=hcut;have Ln:=zq (aW eU.o HB3.o);clear w1 w2 w3 HT HB3 Yk Pu;have h2:=Yv.o;have t2':(TR==2)=ν:=by simpa using h2
 clear Yv h2;by_cases t3:TR=3
 .have e:bb=ι:=by rw [<- HBb.o,t3];rfl
  subst t3;go_wp2;go_ret2;exact⟨by first | rfl | (rw [e];rfl),Ln.o⟩
 .have t3':(TR==3)=ν:=by simpa using t3
  have e:bb=ν:=by rw [<- HBb.o];exact decide_eq_false t3
  clear t3;go_wp2;go_ret2;exact⟨by first | rfl | (rw [e];rfl),Ln.o⟩
end
section
def bpI(y:Int):Int:=if 0<y then 1 else 0
def kpI(vx vy wy:Int):Int:=if 0<vx then bpI wy-bpI vy else 0
def bA5(a b:Int):Prop:=(a=1/\b=0)\/(a= -1/\b=0)\/(a=0/\b=1)\/(a=0/\b= -1)
theorem bz8{x y a1 a2 b1 b2:Int}(ha:bA5 a1 a2)(hb:bA5 b1 b2)(h1:x≠0\/y≠0)(h2:x+b1≠0\/y+b2≠0)(h3:x-a1≠0\/y-a2≠0)(h4:x+b1-a1≠0\/y+b2-a2≠0):
 kpI x y (y+b2)+kpI (x+b1) (y+b2) (y+b2-a2)=kpI x y (y-a2)+kpI (x-a1) (y-a2) (y+b2-a2):=by
 unfold kpI bpI;rcases ha with⟨rfl,rfl⟩|⟨rfl,rfl⟩|⟨rfl,rfl⟩|⟨rfl,rfl⟩<;>rcases hb with⟨rfl,rfl⟩|⟨rfl,rfl⟩|⟨rfl,rfl⟩|⟨rfl,rfl⟩<;>(repeat' split)<;>omega
structure bw6(X Y:Nat->Int)(N:Nat):Prop where
 three:3<=N
 px:∀i,X (i+N)=X i
 py:∀i,Y (i+N)=Y i
 unit:∀i,bA5 (X (i+1)-X i) (Y (i+1)-Y i)
 inj:∀i j,i<j->j<i+N->X j-X i≠0\/Y j-Y i≠0
 low:∀i,0<i->i<N->0<Y i-Y 0\/(Y i-Y 0=0/\0<X i-X 0)
section
variable{X Y:Nat->Int}{N:Nat}
def fK(X Y:Nat->Int)(i j:Nat):Int:=kpI (X j-X i) (Y j-Y i) (Y (j+1)-Y i)
def gK(X Y:Nat->Int)(i j:Nat):Int:=kpI (X j-X i) (Y j-Y i) (Y j-Y (i+1))
theorem bw6.square(h:bw6 X Y N){i:Nat}(h1:i+1<j)(h2:j+1<i+N):fK X Y i j+gK X Y i (j+1)=gK X Y i j+fK X Y (i+1) j:=by
 have ha:=h.unit i;have hb:=h.unit j;have n1:=h.inj i j oM oM;have n2:=h.inj i (j+1) oM oM;have n3:=h.inj (i+1) j oM oM;have n4:=h.inj (i+1) (j+1) oM oM;have:=bz8 (x:=X j-X i) (y:=Y j-Y i) ha hb n1 oM oM oM;unfold fK gK;rw[show X (j+1)-X i=X j-X i+(X (j+1)-X j) by omega,show Y (j+1)-Y i=Y j-Y i+(Y (j+1)-Y j) by omega,show Y (j+1)-Y (i+1)=Y j-Y i+(Y (j+1)-Y j)-(Y (i+1)-Y i) by omega,show Y j-Y (i+1)=Y j-Y i-(Y (i+1)-Y i) by omega,show X j-X (i+1)=X j-X i-(X (i+1)-X i) by omega];exact this
theorem bw6.column(h:bw6 X Y N){a m:Nat}(hm:m+2<a+N):∀n,a+n<=m->fK X Y a (m+1)+dP (fun t=>gK X Y (a+t) (m+2)) n=dP (fun t=>gK X Y (a+t) (m+1)) n+fK X Y (a+n) (m+1):=by
 intro n;induction n with
 |zero=>intro _;simp only[dP,jN];omega
 |succ n ih=>
  intro hn;have h1:=ih oM;have h2:=h.square (i:=a+n) (j:=m+1) oM oM;simp only[dP];rw[show a+(n+1)=a+n+1 by omega];rw[show m+1+1=m+2 by omega]at h2;omega
theorem bw6.stairs(h:bw6 X Y N):∀m,m+2<=N->dP (fun i=>fK X Y i (i+1)+gK X Y i (i+2)) m=dP (fun j=>fK X Y 0 (j+1)) m+dP (fun i=>gK X Y i (m+1)) m:=by
 intro m;induction m with
 |zero=>intro _;rfl
 |succ m ih=>
  intro hm;have h1:=ih oM;have h2:=h.column (a:=0) (m:=m) oM m oM;simp only[bD]at h2;simp only[dP]at h1|-;rw[show m+1+1=m+2 by omega];omega
theorem bw6.hopf(h:bw6 X Y N):dP (fun i=>fK X Y i (i+1)+gK X Y i (i+2)) N=1\/dP (fun i=>fK X Y i (i+1)+gK X Y i (i+2)) N= -1:=by
 have h3:=h.three;obtain⟨n,rfl⟩:∃n,N=n+2:=⟨N-2,oM⟩;have hn:1<=n:=oM;have s1:=h.stairs n oM;have s2:=h.column (a:=1) (m:=n) oM (n-1) oM;have e1:∀f:Nat->Int,dP f n=f 0+dP (fun t=>f (1+t)) (n-1):=fun f=>by
  obtain⟨k,rfl⟩:∃k,n=k+1:=⟨n-1,oM⟩;rw[show k+1-1=k by omega];have:=CO f k;have e:dP (fun t=>f (1+t)) k=dP (fun t=>f (t+1)) k:=dI fun t _=>by rw[Nat.add_comm]
  rw[e,this];omega
 rw[e1 (fun i=>gK X Y i (n+1))]at s1;rw[show 1+(n-1)=n by omega]at s2;have low:=h.low;have f0:∀m,m<=n->dP (fun j=>fK X Y 0 (j+1)) m=bpI (Y (m+1)-Y 0)-bpI (Y 1-Y 0):=by
  intro m;induction m with
  |zero=>intro _;show(0:Int)=bpI (Y 1-Y 0)-bpI (Y 1-Y 0);omega
  |succ m ih=>
   intro hm;rw[dP,ih oM];have l1:=low (m+1) oM oM;have l2:=low (m+2) oM oM;have hu:=h.unit (m+1);rw[show m+1+1=m+2 by omega]at hu|-;unfold fK kpI bpI;rw[show m+1+1=m+2 by omega];rcases hu with⟨u1,u2⟩|⟨u1,u2⟩|⟨u1,u2⟩|⟨u1,u2⟩<;>(repeat' split)<;>omega
 have gN:∀m,m<=n-1->dP (fun t=>gK X Y (1+t) (n+2)) m=0:=by
  intro m;induction m with
  |zero=>intro _;rfl
  |succ m ih=>
   intro hm;rw[dP,ih oM];have l1:=low (1+m) oM oM;have l2:=low (1+m+1) oM oM;have py:=h.py 0;rw[bD]at py;unfold gK kpI bpI;rw[py];(repeat' split)<;>omega
 have g0:=gN (n-1) (θ _);have f1:=f0 n (θ _);have px:=h.px 0;have py:=h.py 0;have px1:=h.px 1;have py1:=h.py 1;rw[bD]at px py;rw[show 1+(n+2)=n+3 by omega]at px1 py1;have u0:=h.unit 0;have un:=h.unit (n+1);have l1:=low 1 oM oM;have ln:=low (n+1) oM oM;have hne:=h.inj 1 (n+1) oM oM;have lnn:=low n oM oM;have unn:=h.unit n;rw[bD]at u0;rw[show n+1+1=n+2 by omega]at un;simp only[dP];rw[show n+1+1=n+2 by omega,show n+1+2=n+3 by omega];have gnn:gK X Y n (n+2)=0:=by
  unfold gK kpI bpI;rw[py];(repeat' split)<;>omega
 have v1:fK X Y (n+1) (n+2)+gK X Y (n+1) (n+3)+gK X Y 0 (n+1)+fK X Y 1 (n+1)+(bpI (Y (n+1)-Y 0)-bpI (Y 1-Y 0))=1\/fK X Y (n+1) (n+2)+gK X Y (n+1) (n+3)+gK X Y 0 (n+1)+fK X Y 1 (n+1)+(bpI (Y (n+1)-Y 0)-bpI (Y 1-Y 0))= -1:=by
  have c:(X 1-X 0=1/\Y 1-Y 0=0/\X 0-X (n+1)=0/\Y 0-Y (n+1)= -1)\/(X 1-X 0=0/\Y 1-Y 0=1/\X 0-X (n+1)= -1/\Y 0-Y (n+1)=0):=by
   rw[px,py]at un;clear s1 s2 g0 f1 f0 gN e1 gnn low px1 py1 px py;rcases u0 with⟨a1,a2⟩|⟨a1,a2⟩|⟨a1,a2⟩|⟨a1,a2⟩<;>rcases un with⟨b1,b2⟩|⟨b1,b2⟩|⟨b1,b2⟩|⟨b1,b2⟩<;>omega
  unfold fK gK;rw[show n+2+1=n+3 by omega,show n+1+1=n+2 by omega,show 0+1=1 from rfl,px,py,px1,py1];clear s1 s2 g0 f1 f0 gN e1 gnn low px1 py1 px py l1 ln hne lnn unn u0 un;rcases c with⟨c1,c2,c3,c4⟩|⟨c1,c2,c3,c4⟩
  .left;rw[show Y 1-Y (n+1)= -1 by omega,show X 1-X (n+1)=1 by omega,show Y (n+1)-Y 0=1 by omega,show X (n+1)-X 0=0 by omega,show Y (n+1)-Y 1=1 by omega,show X (n+1)-X 1= -1 by omega,show Y 0-Y 1=0 by omega,c2,c3,c4];decide
  .right;rw[show Y 1-Y (n+1)=1 by omega,show X 1-X (n+1)= -1 by omega,show Y (n+1)-Y 0=0 by omega,show X (n+1)-X 0=1 by omega,show Y (n+1)-Y 1= -1 by omega,show X (n+1)-X 1=1 by omega,show Y 0-Y 1= -1 by omega,c2,c3,c4];decide
 omega
end
end
section
open Go Go.Lib
def vX(d:Nat):Int:=match d with |0=>1|2=>-1|_=>0
def vY(d:Nat):Int:=match d with |1=>1|3=>-1|_=>0
def qX(d:Nat):Int:=match d with |0=>1|3=>1|_=>-1
def qY(d:Nat):Int:=match d with |0=>1|1=>1|_=>-1
def bw3(d d':Nat):List Nat:=if d'=(d+1)%4 then[d']else if d'=d then[d,d,d]else[d,d,d',d',d']
def bw0(x y:Int):List Nat->List (Int×Int)
 |[]=>[]
 |d::ds=>(x,y)::bw0 (x+vX d) (y+vY d) ds
def bw7(x:Int):List Nat->Int
 |[]=>x
 |d::ds=>bw7 (x+vX d) ds
def bw8(y:Int):List Nat->Int
 |[]=>y
 |d::ds=>bw8 (y+vY d) ds
def eN(d d':Nat):Int:=if d=0/\d'=1 then 1 else if d=1/\d'=0 then -1 else 0
def chS(a:Nat):List Nat->Int
 |[]=>0
 |b::l=>eN a b+chS b l
theorem bA6(x y ds):(bw0 x y ds).length=ds.length:=by
 induction ds generalizing x y with
 |nil=>rfl
 |cons d ds ih=>rw[bw0,aC,ih,aC]
theorem by4(x y l m):bw0 x y (l++m)=bw0 x y l++bw0 (bw7 x l) (bw8 y l) m:=by
 induction l generalizing x y with
 |nil=>rfl
 |cons d l ih=>rw[bV,bw0,ih,bw0,bV,bw7,bw8]
theorem bz2(x l m):bw7 x (l++m)=bw7 (bw7 x l) m/\bw8 x (l++m)=bw8 (bw8 x l) m:=by
 induction l generalizing x with
 |nil=>exact⟨rfl,rfl⟩
 |cons d l ih=>exact⟨(ih _).1,(ih _).2⟩
theorem bz9(x y ds):∀i,i<ds.length->((bw0 x y ds).getD i Γ).1+vX (ds.getD i 0)=(if i+1<ds.length then((bw0 x y ds).getD (i+1) Γ).1 else bw7 x ds)/\((bw0 x y ds).getD i Γ).2+vY (ds.getD i 0)=(if i+1<ds.length then((bw0 x y ds).getD (i+1) Γ).2 else bw8 y ds):=by
 induction ds generalizing x y with
 |nil=>intro i hi;simp at hi
 |cons d ds ih=>
  intro i hi;rw[bw0];match i with
  |0=>
   cases ds with
   |nil=>simp[bw7,bw8]
   |cons e ds=>simp[bw0]
  |i+1=>
   rw[aC]at hi;have:=ih (x+vX d) (y+vY d) i oM;simp only[List.getD_cons_succ,aC,bw7,bw8];by_cases q:i+1<ds.length
   .rw[ip oM,ip oM];rw[ip q,ip q]at this;exact this
   .rw[iN oM,iN oM];rw[iN q,iN q]at this;exact this
theorem bx2(x y a b ds):bw0 (a+x) (b+y) ds=(bw0 x y ds).map fun p=>(a+p.1,b+p.2):=by
 induction ds generalizing x y with
 |nil=>rfl
 |cons d ds ih=>rw[bw0,bw0,List.map_cons,<-ih,Int.add_assoc,Int.add_assoc]
def laN(a:Nat):List Nat->Nat
 |[]=>a
 |b::l=>laN b l
theorem bB9(a l m):laN a (l++m)=laN (laN a l) m:=by
 induction l generalizing a with
 |nil=>rfl
 |cons b l ih=>exact ih b
theorem bC0(a l m):chS a (l++m)=chS a l+chS (laN a l) m:=by
 induction l generalizing a with
 |nil=>simp[chS,laN]
 |cons b l ih=>rw[bV,chS,ih,chS,laN];omega
theorem bC1(a l):chS a l=dP (fun i=>eN (if i=0 then a else l.getD (i-1) 0) (l.getD i 0)) l.length:=by
 induction l generalizing a with
 |nil=>rfl
 |cons b l ih=>
  rw[chS,ih,aC];have:=CO (fun i=>eN (if i=0 then a else(b::l).getD (i-1) 0) ((b::l).getD i 0)) l.length;have e:dP (fun i=>eN (if i=0 then b else l.getD (i-1) 0) (l.getD i 0)) l.length=dP (fun j=>(fun i=>eN (if i=0 then a else(b::l).getD (i-1) 0) ((b::l).getD i 0)) (j+1)) l.length:=dI fun j _=>by
   cases j with
   |zero=>simp
   |succ j=>simp
  rw[e,this];simp;omega
section
theorem bC2:∀ a b e f:Bool,∀ d:Fin 4,bD4 a b e f d=ι->(bw3 d (oU a b e f d)≠ []/\(bw0 (qX ((d+1) % 4)) (qY ((d+1) % 4)) (bw3 d (oU a b e f d))).Nodup/\(∀ p∈bw0 (qX ((d+1) % 4)) (qY ((d+1) % 4)) (bw3 d (oU a b e f d)),-1<=p.1/\p.1<=1/\ -1<=p.2/\p.2<=1)/\
 bw7 (qX ((d+1) % 4)) (bw3 d (oU a b e f d))=3 * vX (oU a b e f d)+qX ((oU a b e f d+1) % 4)/\bw8 (qY ((d+1) % 4)) (bw3 d (oU a b e f d))=3 * vY (oU a b e f d)+qY ((oU a b e f d+1) % 4)/\
 chS d (bw3 d (oU a b e f d))=eN d (oU a b e f d)/\laN d (bw3 d (oU a b e f d))=oU a b e f d/\(∀ x∈bw3 d (oU a b e f d),x < 4)/\(oU a b e f d=(d+2) % 4->False)):=dD
theorem by7:∀ a b e f:Bool,∀ d d':Fin 4,bD4 a b e f d=ι->bD4 a b e f d' =ι->d≠d' ->∀ p∈bw0 (qX ((d+1) % 4)) (qY ((d+1) % 4)) (bw3 d (oU a b e f d)),p ∉ bw0 (qX ((d' + 1) % 4)) (qY ((d' + 1) % 4)) (bw3 d' (oU a b e f d')):=dD
variable{c:Int->Int->Bool}
def bw4(W:Nat->Wy):Nat->List Nat
 |0=>[]
 |n+1=>bw4 W n++bw3 (W n).d (W (n+1)).d
def wbX(w:Wy):Int:=3*fU w.x w.d+qX ((w.d+1)%4)
def wbY(w:Wy):Int:=3*fV w.y w.d+qY ((w.d+1)%4)
theorem bA7(x y){d:Nat}(hd:d<4):fU x d=x+vX d/\fV y d=y+vY d:=by
 have h4:d=0\/d=1\/d=2\/d=3:=oM;rcases h4 with rfl|rfl|rfl|rfl<;>unfold fU fV vX vY<;>simp <;>omega
theorem bx7(a x l):bw7 (a+x) l=a+bw7 x l/\bw8 (a+x) l=a+bw8 x l:=by
 induction l generalizing x with
 |nil=>exact⟨rfl,rfl⟩
 |cons d l ih=>rw[bw7,bw8,bw7,bw8,Int.add_assoc,Int.add_assoc];exact⟨(ih _).1,(ih _).2⟩
theorem bA8{w:Wy}(hb:eX c w=ι):∃a b e f,∃d:Fin 4,w.d=d.1/\bD4 a b e f d=ι/\(eY c w).d=oU a b e f d/\(eY c w).x=fU w.x w.d/\(eY c w).y=fV w.y w.d/\a=c (fU w.x w.d) (fV w.y w.d)/\b=c (fU w.x w.d-1) (fV w.y w.d)/\e=c (fU w.x w.d-1) (fV w.y w.d-1)/\f=c (fU w.x w.d) (fV w.y w.d-1):=by
 obtain⟨t,h1,h2,h3,-⟩:=rT hb;have hb2:=hb;unfold eX at hb2;rw[aI,decide_eq_true_eq]at hb2;have hc:=hb2.2;rw[BE c _ _ hb2.1]at hc;exact⟨_,_,_,_,⟨w.d,hb2.1⟩,rfl,hc,by rw[h3];exact h2,by rw[h3],by rw[h3],rfl,rfl,rfl,rfl⟩
theorem bA9(a l)(h:0<l.length):laN a l=l.getD (l.length-1) 0:=by
 induction l generalizing a with
 |nil=>simp at h
 |cons b l ih=>
  rw[laN];cases l with
  |nil=>rfl
  |cons e l=>
   rw[ih b sP];simp
theorem bC3(f:Nat->Int×Int):∀n,0<n->∃i0,i0<n/\∀i,i<n->(f i0).2<(f i).2\/((f i0).2=(f i).2/\(f i0).1<=(f i).1):=by
 intro n;induction n with
 |zero=>intro h;omega
 |succ n ih=>
  intro _;by_cases h0:n=0
  .subst h0;exact⟨0,oM,fun i hi=>by rw[show i=0 by omega];omega⟩
  .obtain⟨m,hm,h⟩:=ih oM;by_cases c:(f m).2<(f n).2\/((f m).2=(f n).2/\(f m).1<=(f n).1)
   .exact⟨m,oM,fun i hi=>by
     by_cases e:i=n
     .rw[e];exact c
     .exact h i oM⟩
   .refine⟨n,oM,fun i hi=>?_⟩;by_cases e:i=n
    .rw[e];omega
    .have:=h i oM;omega
theorem bB0(F:Nat->Int)(n):∀j,dP (fun i=>F ((i+j)%n)) n=dP F n:=by
 intro j;induction j with
 |zero=>exact dI fun i hi=>by rw[jN,aT hi]
 |succ j ih=>
  rw[<-ih,<-BC (fun i=>F ((i+j)%n))];refine dI fun i _=>?_;(try simp only);rw[eV];congr 2;omega
theorem bB1:∀d d':Fin 4,(vX d+vX d'≠0\/vY d+vY d'≠0)->kpI (vX d) (vY d) (vY d+vY d')+kpI (vX d+vX d') (vY d+vY d') (vY d')=eN d d':=dD
theorem bC8:∀d:Fin 4,(vX d=1/\vY d=0)\/(vX d= -1/\vY d=0)\/(vX d=0/\vY d=1)\/(vX d=0/\vY d= -1):=dD
theorem by8{x y:Int}{D:List Nat}{d0:Nat}(h3:3<=D.length)(hlt:∀d∈D,d<4)(ex:bw7 x D=x)(ey:bw8 y D=y)(hnd:(bw0 x y D).Nodup)(hl:laN d0 D=d0):chS d0 D=1\/chS d0 D= -1:=by
 obtain⟨P,hP⟩:=nm (bw0 x y D);have hlen:P.length=D.length:=by rw[<-hP,bA6]
 have bB2:=bz9 x y D;rw[ex,ey,hP]at bB2;rw[hP]at hnd;have hP0:P.getD 0 Γ=(x,y):=by
  rw[<-hP];cases D with
  |nil=>simp at h3
  |cons d D=>rfl
 obtain⟨N,hN⟩:=nm D.length;rw[hN]at h3 hlen bB2;have hm:∀i,i%N<N:=fun i=>aV _ oM;have hD4:∀i,i<N->D.getD i 0<4:=fun i hi=>hlt _ (by
  rw[Ω,List.getElem?_eq_getElem oM];exact List.getElem_mem _)
 have bC9:∀i j,i<N->j<N->i≠j->P.getD i Γ≠P.getD j Γ:=fun i j hi hj hne e=>by
  rw[Qe,List.pairwise_iff_getElem]at hnd;have gi:P.getD i Γ=P[i]:=by simp[Ω,hlen,hi]
  have gj:P.getD j Γ=P[j]:=by simp[Ω,hlen,hj]
  rw[gi,gj]at e;rcases Nat.lt_or_gt_of_ne hne with q|q
  .exact hnd i j oM oM q e
  .exact hnd j i oM oM q e.symm
 have AF:∀t,t<N->(P.getD ((t+1)%N) Γ).1-(P.getD t Γ).1=vX (D.getD t 0)/\(P.getD ((t+1)%N) Γ).2-(P.getD t Γ).2=vY (D.getD t 0):=fun t ht=>by
  have:=bB2 t ht;by_cases q:t+1<N
  .rw[ip q,ip q]at this;rw[aT q];omega
  .rw[iN q,iN q]at this;rw[show t+1=N by omega,mY,hP0];(try simp only);omega
 obtain⟨i0,hi0,hmin⟩:=bC3 (fun i=>P.getD i Γ) N oM;have ij:∀i,((i+i0)%N+1)%N=(i+1+i0)%N:=fun i=>by rw[eV];congr 1;omega
 have hC:bw6 (fun i=>(P.getD ((i+i0)%N) Γ).1) (fun i=>(P.getD ((i+i0)%N) Γ).2) N:=by
  refine⟨h3,fun i=>?_,fun i=>?_,fun i=>?_,fun i j Le hj=>?_,fun i h1 h2=>?_⟩
  . (try simp only);rw[show i+N+i0=i+i0+N by omega,gQ]
  . (try simp only);rw[show i+N+i0=i+i0+N by omega,gQ]
  .have:=AF ((i+i0)%N) (hm _);rw[ij]at this;(try simp only);rw[this.1,this.2];exact bC8 ⟨_,hD4 _ (hm _)⟩
  .have hne:(i+i0)%N≠(j+i0)%N:=fun e=>by
    have h1:(j-i)%N=0:=by
     have h2:=Nat.sub_mod_eq_zero_of_mod_eq e.symm;rwa[show j+i0-(i+i0)=j-i by omega]at h2
    rw[aT oM]at h1;omega
   have:=bC9 _ _ (hm _) (hm _) hne;refine aG fun q=>this (Prod.ext ?_ ?_)<;>(try simp only at q)<;>omega
  .have hne:(i+i0)%N≠i0:=fun e=>by
    have h3:(i+i0)%N=(0+i0)%N:=by rw[bD,aT hi0];exact e
    have h5:=Nat.sub_mod_eq_zero_of_mod_eq h3;rw[show i+i0-(0+i0)=i by omega,aT h2]at h5;omega
   have hmn:=hmin _ (hm (i+i0));have hd:=bC9 _ _ (hm (i+i0)) hi0 hne;(try simp only);rw[bD,aT hi0];have:¬((P.getD ((i+i0)%N) Γ).1=(P.getD i0 Γ).1/\(P.getD ((i+i0)%N) Γ).2=(P.getD i0 Γ).2):=fun q=>hd (Prod.ext q.1 q.2);(try simp only at hmn);omega
 have hS:dP (fun i=>fK (fun i=>(P.getD ((i+i0)%N) Γ).1) (fun i=>(P.getD ((i+i0)%N) Γ).2) i (i+1)+gK (fun i=>(P.getD ((i+i0)%N) Γ).1) (fun i=>(P.getD ((i+i0)%N) Γ).2) i (i+2)) N=chS d0 D:=by
  have e1:dP (fun i=>fK (fun i=>(P.getD ((i+i0)%N) Γ).1) (fun i=>(P.getD ((i+i0)%N) Γ).2) i (i+1)+gK (fun i=>(P.getD ((i+i0)%N) Γ).1) (fun i=>(P.getD ((i+i0)%N) Γ).2) i (i+2)) N=dP (fun i=>(fun t=>eN (D.getD t 0) (D.getD ((t+1)%N) 0)) ((i+i0)%N)) N:=dI fun i hi=>by
   have a1:=AF ((i+i0)%N) (hm _);have a2:=AF ((i+1+i0)%N) (hm _);rw[ij]at a1 a2;have hn:=hC.inj i (i+2) oM oM;(try simp only at hn);rw[show i+1+1=i+2 by omega]at a2;have t1:=hD4 _ (hm (i+i0));have t2:=hD4 _ (hm (i+1+i0));have td:=bB1 ⟨_,t1⟩ ⟨_,t2⟩ (by(try simp only);omega);(try simp only at td);unfold fK gK;(try simp only);rw[show i+1+1=i+2 by omega,ij,<-td];rw[a1.1,a1.2,a2.2,show(P.getD ((i+2+i0)%N) Γ).2-(P.getD ((i+i0)%N) Γ).2=vY (D.getD ((i+i0)%N) 0)+vY (D.getD ((i+1+i0)%N) 0) by omega,show(P.getD ((i+2+i0)%N) Γ).1-(P.getD ((i+i0)%N) Γ).1=vX (D.getD ((i+i0)%N) 0)+vX (D.getD ((i+1+i0)%N) 0) by omega]
  rw[e1,bB0 (fun t=>eN (D.getD t 0) (D.getD ((t+1)%N) 0)) N i0,bC1,hN,<-BC (fun i=>eN (if i=0 then d0 else D.getD (i-1) 0) (D.getD i 0))];refine dI fun t ht=>?_;(try simp only);by_cases q:t+1<N
  .rw[aT q,iN oM,show t+1-1=t by omega]
  .rw[show t+1=N by omega,mY,ip rfl];rw[bA9 d0 D oM,hN]at hl;rw[<-hl,show N-1=t by omega]
 rw[<-hS];exact hC.hopf
theorem by9{w0:Wy}{L:Nat}(hb:eX c w0=ι)(hP:it (eY c) w0 L):dP (fun k=>eN (fW (eY c) k w0).d (fW (eY c) (k+1) w0).d) L=1 \/ dP (fun k=>eN (fW (eY c) k w0).d (fW (eY c) (k+1) w0).d) L=-1:=by
 obtain ⟨W,hW⟩:∃ W:Nat -> Wy,W=fun k=>fW (eY c) k w0:=⟨_,rfl⟩
 have hWk:∀ k,fW (eY c) k w0=W k:=fun k=>by rw [hW]
 have PI:∀ k,eX c (W k)=ι:=fun k=>by rw [<- hWk]; exact AL hb k
 have Re:∀ k,W (k+1)=eY c (W k):=fun k=>by rw [<- hWk,<- hWk]; rfl
 have hWL:W L=W 0:=by rw [<- hWk,<- hWk]; exact hP.2.1
 have hL:=hP.1
 have bz3:=fun k=>bA8 (PI k)
 have J5:∀ k,(W k).d < 4:=fun k=>by obtain ⟨a,b,e,f,d,h1,-⟩:=bz3 k; rw [h1]; exact d.2
 have one:∀ k,bw3 (W k).d (W (k+1)).d ≠ [] /\ (bw0 (wbX (W k)) (wbY (W k)) (bw3 (W k).d (W (k+1)).d)).Nodup /\ (∀ p ∈ bw0 (wbX (W k)) (wbY (W k)) (bw3 (W k).d (W (k+1)).d),-1 <= p.1 - 3 * fU (W k).x (W k).d /\ p.1 - 3 * fU (W k).x (W k).d <= 1 /\ -1 <= p.2 - 3 * fV (W k).y (W k).d /\ p.2 - 3 * fV (W k).y (W k).d <= 1) /\
  bw7 (wbX (W k)) (bw3 (W k).d (W (k+1)).d)=wbX (W (k+1)) /\ bw8 (wbY (W k)) (bw3 (W k).d (W (k+1)).d)=wbY (W (k+1)) /\ chS (W k).d (bw3 (W k).d (W (k+1)).d)=eN (W k).d (W (k+1)).d /\ laN (W k).d (bw3 (W k).d (W (k+1)).d)=(W (k+1)).d /\ (∀ x ∈ bw3 (W k).d (W (k+1)).d,x < 4):=fun k=>by
  obtain ⟨a,b,e,f,d,h1,h2,h3,h4,h5,-⟩:=bz3 k
  obtain ⟨p1,p2,p3,p4,p5,p6,p7,p8,-⟩:=bC2 a b e f d h2
  have hd':=J5 (k+1)
  rw [Re k] at hd' |-
  rw [h3,h1]
  rw [h3] at hd'
  have s1:=bA7 (eY c (W k)).x (eY c (W k)).y (d:=oU a b e f d) hd'
  unfold wbX wbY
  rw [h1] at h4 h5 |-
  rw [h3,s1.1,s1.2,h4,h5]
  refine ⟨p1,?_,?_,?_,?_,p6,p7,p8⟩
  .rw [bx2,Qe,List.pairwise_map]
   rw [Qe] at p2
   refine p2.imp fun {u v} hne e=>hne ?_
   injection e with e1 e2
   exact Prod.ext oM oM
  .intro p hp
   rw [bx2] at hp
   obtain ⟨q,hq,rfl⟩:=List.mem_map.1 hp
   have:=p3 q hq
   simp only
   omega
  .rw [(bx7 _ _ _).1,p4]; omega
  .rw [(bx7 _ _ _).2,p5]; omega
 have apart:∀ j k,j < L -> k < L -> j ≠ k -> ∀ p ∈ bw0 (wbX (W j)) (wbY (W j)) (bw3 (W j).d (W (j+1)).d),p ∉ bw0 (wbX (W k)) (wbY (W k)) (bw3 (W k).d (W (k+1)).d):=fun j k hj hk hne p hp hq=>by
  have hjw:W j ≠ W k:=fun e=>by
   rw [<- hWk,<- hWk] at e
   rcases Nat.lt_or_gt_of_ne hne with q | q
   .have h1:=(hP.from (fM hj)).2.2 (k - j) oM oM
    rw [<- mM,show k - j+j=k by omega] at h1
    exact h1 e.symm
   .have h1:=(hP.from (fM hk)).2.2 (j - k) oM oM
    rw [<- mM,show j - k+k=j by omega] at h1
    exact h1 e
  have r1:=(one j).2.2.1 p hp
  have r2:=(one k).2.2.1 p hq
  have ex:fU (W j).x (W j).d=fU (W k).x (W k).d:=oM
  have ey:fV (W j).y (W j).d=fV (W k).y (W k).d:=oM
  obtain ⟨a,b,e,f,d,h1,h2,h3,h4,h5,c1,c2,c3,c4⟩:=bz3 j
  obtain ⟨a',b',e',f',d',h1',h2',h3',h4',h5',c1',qj,c3',c4'⟩:=bz3 k
  rw [ex,ey,<- c1'] at c1
  rw [ex,ey,<- qj] at c2
  rw [ex,ey,<- c3'] at c3
  rw [ex,ey,<- c4'] at c4
  subst c1 c2 c3 c4
  have hdd:d ≠ d':=fun q=>hjw (by
   subst q
   have hd:=J5 j
   have s1:=bA7 (W j).x (W j).y (d:=(W j).d) hd
   have s2:=bA7 (W k).x (W k).y (d:=(W k).d) (J5 k)
   rw [s1.1,s2.1,h1,h1'] at ex
   rw [s1.2,s2.2,h1,h1'] at ey
   have e1:(W j).x=(W k).x:=oM
   have e2:(W j).y=(W k).y:=oM
   have e3:(W j).d=(W k).d:=by rw [h1,h1']
   generalize W j=u at *
   generalize W k=v at *
   obtain ⟨x,y,z⟩:=u
   obtain ⟨x',y',z'⟩:=v
   simp only at e1 e2 e3
   rw [e1,e2,e3])
  rw [Re j,h3] at hp
  rw [Re k,h3'] at hq
  unfold wbX wbY at hp hq
  rw [bx2] at hp hq
  rw [h1] at hp
  rw [h1'] at hq
  obtain ⟨u,hu,eu⟩:=List.mem_map.1 hp
  obtain ⟨v,hv,ev⟩:=List.mem_map.1 hq
  rw [<- ev,<- h1',<- h1,ex,ey] at eu
  injection eu with e1 e2
  have:u=v:=Prod.ext oM oM
  subst this
  exact by7 _ _ _ _ d d' h2 h2' hdd u hu hv
 have an3:∀ n,bw7 (wbX (W 0)) (bw4 W n)=wbX (W n) /\ bw8 (wbY (W 0)) (bw4 W n)=wbY (W n):=fun n=>by
  induction n with
  | zero=>exact ⟨rfl,rfl⟩
  | succ n ih =>
   rw [bw4,(bz2 _ _ _).1,(bz2 _ _ _).2,ih.1,ih.2]
   exact ⟨(one n).2.2.2.1,(one n).2.2.2.2.1⟩
 have mG:∀ n,∀ p ∈ bw0 (wbX (W 0)) (wbY (W 0)) (bw4 W n),∃ k,k < n /\ p ∈ bw0 (wbX (W k)) (wbY (W k)) (bw3 (W k).d (W (k+1)).d):=fun n=>by
  induction n with
  | zero=>intro p hp; simp [bw4,bw0] at hp
  | succ n ih =>
   intro p hp
   rw [bw4,by4,(an3 n).1,(an3 n).2] at hp
   rcases List.mem_append.1 hp with hp | hp
   .obtain ⟨k,h1,h2⟩:=ih p hp
    exact ⟨k,oM,h2⟩
   .exact ⟨n,oM,hp⟩
 have hnd:∀ n,n <= L -> (bw0 (wbX (W 0)) (wbY (W 0)) (bw4 W n)).Nodup:=fun n=>by
  induction n with
  | zero=>intro _; simp [bw4,bw0]
  | succ n ih =>
   intro hn
   rw [bw4,by4,(an3 n).1,(an3 n).2,List.nodup_append]
   refine ⟨ih oM,(one n).2.1,fun p hp q hq e=>?_⟩
   subst e
   obtain ⟨k,h1,h2⟩:=mG n p hp
   exact apart k n oM oM oM p h2 hq
 have hch:∀ n,chS (W 0).d (bw4 W n)=dP (fun k=>eN (W k).d (W (k+1)).d) n /\ laN (W 0).d (bw4 W n)=(W n).d:=fun n=>by
  induction n with
  | zero=>exact ⟨rfl,rfl⟩
  | succ n ih =>
   rw [bw4,bC0,ih.1,ih.2,bB9,ih.2,dP,(one n).2.2.2.2.2.1]
   exact ⟨rfl,(one n).2.2.2.2.2.2.1⟩
 have hlt:∀ n,∀ x ∈ bw4 W n,x < 4:=fun n=>by
  induction n with
  | zero=>intro x hx; simp [bw4] at hx
  | succ n ih =>
   intro x hx
   rw [bw4] at hx
   rcases List.mem_append.1 hx with hx | hx
   .exact ih x hx
   .exact (one n).2.2.2.2.2.2.2 x hx
 have hln:∀ n,n <= (bw4 W n).length:=fun n=>by
  induction n with
  | zero=>exact Nat.zero_le _
  | succ n ih =>
   rw [bw4,List.length_append]
   have:=List.length_pos_iff.2 (one n).1
   omega
 have h4:3 <= L:=by
  obtain ⟨i0,a0,b0⟩:=ym hb hL hP.2.1 0 dD
  obtain ⟨i1,a1,b1⟩:=ym hb hL hP.2.1 1 dD
  obtain ⟨i2,a2,b2⟩:=ym hb hL hP.2.1 2 dD
  have n01:i0 ≠ i1:=fun e=>by rw [e] at b0; omega
  have n02:i0 ≠ i2:=fun e=>by rw [e] at b0; omega
  have n12:i1 ≠ i2:=fun e=>by rw [e] at b1; omega
  omega
 have bD0:=by8 (x:=wbX (W 0)) (y:=wbY (W 0)) (D:=bw4 W L) (d0:=(W 0).d) (Nat.le_trans h4 (hln L)) (hlt L) (by rw [(an3 L).1,hWL]) (by rw [(an3 L).2,hWL]) (hnd L (θ _)) (by rw [(hch L).2,hWL])
 rw [(hch L).1] at bD0
 simp only [hWk]
 exact bD0
end
def bx3(d d':Nat):Int:=if d'=(d+1)%4 then 1 else if d'=(d+3)%4 then -1 else 0
theorem bD1:∀d d':Fin 4,d'.1≠(d.1+2)%4->bx3 d d'=(((d'.1+3)%4:Nat):Int)-(((d.1+3)%4:Nat):Int)+4*eN d d':=dD
theorem by5(F:Nat->Int)(len:Nat->Nat):∀n,dP F (bv7 len n)=dP (fun j=>dP (fun t=>F (bv7 len j+t)) (len j)) n:=by
 have add:∀a m,dP F (a+m)=dP F a+dP (fun t=>F (a+t)) m:=fun a m=>by
  induction m with
  |zero=>simp[dP]
  |succ m ih=>rw[<-Nat.add_assoc,dP,ih,dP];omega
 intro n;induction n with
 |zero=>rfl
 |succ n ih=>rw[bv7,add,ih,dP]
theorem uF.turns{ls:List (List Sg)}{X Y:Int}(h:uF ls X Y)(hr:r<ls.length):
 dP (fun j=>bx3 ((ls.getD r []).getD j Γ).dir ((ls.getD r []).getD ((j+1)%(ls.getD r []).length) Γ).dir) (ls.getD r []).length=4\/
 dP (fun j=>bx3 ((ls.getD r []).getD j Γ).dir ((ls.getD r []).getD ((j+1)%(ls.getD r []).length) Γ).dir) (ls.getD r []).length= -4:=by
 have h2:=h.two r hr;have hgo:=h.goes hr;have ZC:=h.per hr;have Re:=fun j t hj ht=>h.next hr (j:=j) (t:=t) hj ht;have hb:=h.bord hr (j:=0) (t:=0) oM (h.len0 hr oM);have hl0:=fun j hj=>h.len0 hr (j:=j) hj;have hbj:=fun k=>rE (AL hb k);have hlt:=by9 hb ZC;generalize eY (dK X Y ls.flatten)=f,ls.getD r []=E at *;obtain⟨W,hW⟩:∃W:Nat->Wy,∀k,fW f k (cV (E.getD 0 Γ) 0)=W k:=⟨_,fun _=>rfl⟩;simp only[hW]at hlt hgo hbj;have hWs:∀k,W (k+1)=f (W k):=fun k=>by rw[<-hW,<-hW];rfl
 have hWL:W (vN E E.length)=W 0:=by rw[<-hW,<-hW];exact ZC.2.1
 have e1:dP (fun k=>bx3 (W k).d (W (k+1)).d) (vN E E.length)=4*dP (fun k=>eN (W k).d (W (k+1)).d) (vN E E.length):=by
  have key:∀n,dP (fun k=>bx3 (W k).d (W (k+1)).d) n=((((W n).d+3)%4:Nat):Int)-((((W 0).d+3)%4:Nat):Int)+4*dP (fun k=>eN (W k).d (W (k+1)).d) n:=fun n=>by
   induction n with
   |zero=>simp only[dP];omega
   |succ n ih=>
    have hb:=hbj n;rw[<-hWs]at hb;have Ju:=hbj (n+1);have:=bD1 ⟨(W n).d,hb.1⟩ ⟨(W (n+1)).d,Ju.1⟩ (by simp only;omega);simp only at this;rw[dP,ih,this,dP];omega
  rw[key,hWL];omega
 have e2:dP (fun k=>bx3 (W k).d (W (k+1)).d) (vN E E.length)=dP (fun j=>bx3 (E.getD j Γ).dir (E.getD ((j+1)%E.length) Γ).dir) E.length:=by
  rw[Fa,by5];refine dI fun j hj=>?_;have hl:=hl0 j hj;rw[<-Fa];have Ji:∀t,t<(E.getD j Γ).len->bx3 (W (vN E j+t)).d (W (vN E j+t+1)).d=if t+1<(E.getD j Γ).len then 0 else bx3 (E.getD j Γ).dir (E.getD ((j+1)%E.length) Γ).dir:=fun t ht=>by
   have g:=hgo j hj t ht;have hn:=Re j t hj ht;rw[hWs,g,hn];have hd:=(E.getD j Γ).dir_lt;by_cases q:t+1<(E.getD j Γ).len
   .rw[ip q,ip q];show bx3 (E.getD j Γ).dir (E.getD j Γ).dir=0;unfold bx3;rw[iN oM,iN oM]
   .rw[iN q,iN q];rfl
  rw[rG (i:=(E.getD j Γ).len-1) oM fun t ht hne=>by rw[Ji t ht,ip oM],Ji _ oM,iN oM]
 rw[<-e2,e1];rcases hlt with q|q<;>rw[q]<;>simp
def bw9(f g:Fr):Int:=if f.up=g.up then 0 else if(qJ g-qJ f+4)%4=3 then -1 else 1
theorem So.corner(h:So fs z aZ)(hr:r<aZ.length)(hj:j<(aZ.getD r Γ).ps.length):
 bx3 (((eC fs (dL fs z) (Cg fs (dL fs z) aZ) (Ch fs (dL fs z) aZ) aZ).getD r []).getD j Γ).dir (((eC fs (dL fs z) (Cg fs (dL fs z) aZ) (Ch fs (dL fs z) aZ) aZ).getD r []).getD ((j+1)%(aZ.getD r Γ).ps.length) Γ).dir=bw9 (fs.getD ((aZ.getD r Γ).ps.getD j Γ).side.toNat Γ) (fs.getD ((aZ.getD r Γ).ps.getD ((j+1)%(aZ.getD r Γ).ps.length) Γ).side.toNat Γ)/\(qJ (fs.getD ((aZ.getD r Γ).ps.getD ((j+1)%(aZ.getD r Γ).ps.length) Γ).side.toNat Γ)-qJ (fs.getD ((aZ.getD r Γ).ps.getD j Γ).side.toNat Γ)+4)%4≠2:=by
 have hT:=h.trd;have hB:=hT.brd;have Ez:=hT.part;obtain⟨n1,n2,ax,ay⟩:=hT.nm;generalize Ch fs (dL fs z) aZ=ys,Cg fs (dL fs z) aZ=xs at *;have hlen:(eC fs (dL fs z) xs ys aZ).length=aZ.length:=by unfold eC;rw[υ]
 have Sj:=fun j hj=>rE (hB.bord (by rw[hlen];exact hr) (j:=j) hj (t:=(((eC fs (dL fs z) xs ys aZ).getD r []).getD j Γ).len-1) (by have:=hB.len0 (by rw[hlen];exact hr) hj;omega));have FU:=fun j hj=>hB.turn r j (by rw[hlen];exact hr) hj;have Si:=hB.long r (by rw[hlen];exact hr);have hrl:((eC fs (dL fs z) xs ys aZ).getD r []).length=(aZ.getD r Γ).ps.length:=by rw[iM,υ]
 have hj':j<((eC fs (dL fs z) xs ys aZ).getD r []).length:=by rw[hrl];exact hj
 have hm:(j+1)%(aZ.getD r Γ).ps.length<(aZ.getD r Γ).ps.length:=aV _ oM;have ht:=Sj j hj';rw[FU j hj',hrl]at ht;have hd:(((eC fs (dL fs z) xs ys aZ).getD r []).getD ((j+1)%(aZ.getD r Γ).ps.length) Γ).dir=(((eC fs (dL fs z) xs ys aZ).getD r []).getD j Γ).dir\/(((eC fs (dL fs z) xs ys aZ).getD r []).getD ((j+1)%(aZ.getD r Γ).ps.length) Γ).dir=((((eC fs (dL fs z) xs ys aZ).getD r []).getD j Γ).dir+1)%4\/(((eC fs (dL fs z) xs ys aZ).getD r []).getD ((j+1)%(aZ.getD r Γ).ps.length) Γ).dir=((((eC fs (dL fs z) xs ys aZ).getD r []).getD j Γ).dir+3)%4:=ht.2.2.2.2;have l1:=Si j hj';have l2:=Si _ (by rw[hrl];exact hm);have e1:((eC fs (dL fs z) xs ys aZ).getD r []).getD j Γ=eP fs (dL fs z) xs ys ((aZ.getD r Γ).ps.getD j Γ):=by rw[iM,kX _ _ hj]
 have e2:((eC fs (dL fs z) xs ys aZ).getD r []).getD ((j+1)%(aZ.getD r Γ).ps.length) Γ=eP fs (dL fs z) xs ys ((aZ.getD r Γ).ps.getD ((j+1)%(aZ.getD r Γ).ps.length) Γ):=by rw[iM,kX _ _ hm]
 rw[e1]at hd l1|-;rw[e2]at hd l2|-;have p1:=(Ez _ (List.mem_flatMap.2 ⟨_,aN hr Γ,aN hj Γ⟩)).1;have p2:=(Ez _ (List.mem_flatMap.2 ⟨_,aN hr Γ,aN hm Γ⟩)).1;generalize(aZ.getD r Γ).ps.getD j Γ=p at *;generalize(aZ.getD r Γ).ps.getD ((j+1)%(aZ.getD r Γ).ps.length) Γ=q at *;have sb1:=Jj (Ew ax ay n1 n2 p1) l1;have sb2:=Jj (Ew ax ay n1 n2 p2) l2;have u1:(eP fs (dL fs z) xs ys p).up=(fs.getD p.side.toNat Γ).up:=by unfold eP;cases(fs.getD p.side.toNat Γ).up<;>simp
 have u2:(eP fs (dL fs z) xs ys q).up=(fs.getD q.side.toNat Γ).up:=by unfold eP;cases(fs.getD q.side.toNat Γ).up<;>simp
 have f1:=NP (fs.getD p.side.toNat Γ);have f2:=NP (fs.getD q.side.toNat Γ);rw[u1]at sb1;rw[u2]at sb2;rw[<-sb1]at f1;rw[<-sb2]at f2;have d1:=qG (eP fs (dL fs z) xs ys p);have d2:=qG (eP fs (dL fs z) xs ys q);have k1:=(eP fs (dL fs z) xs ys p).dir_lt;have k2:=(eP fs (dL fs z) xs ys q).dir_lt;rw[u1]at d1;rw[u2]at d2;refine⟨?_,?_⟩;rotate_left
 .rw[f1,f2];clear f1 f2;generalize(eP fs (dL fs z) xs ys p).dir=a at *;generalize(eP fs (dL fs z) xs ys q).dir=b at *;omega
 unfold bw9 bx3;rw[f1,f2];generalize(eP fs (dL fs z) xs ys p).dir=a at *;generalize(eP fs (dL fs z) xs ys q).dir=b at *;generalize(fs.getD p.side.toNat Γ).up=up at *;generalize(fs.getD q.side.toNat Γ).up=uq at *;cases up<;>cases uq<;>simp only[Bool.false_eq_true,if_false,if_true,reduceCtorEq]at d1 d2|-<;>(repeat' split)<;>omega
theorem So.turns(h:So fs z aZ)(hl:l∈aZ):
 dP (fun j=>bw9 (fs.getD (l.ps.getD j Γ).side.toNat Γ) (fs.getD (l.ps.getD ((j+1)%l.ps.length) Γ).side.toNat Γ)) l.ps.length=4\/
 dP (fun j=>bw9 (fs.getD (l.ps.getD j Γ).side.toNat Γ) (fs.getD (l.ps.getD ((j+1)%l.ps.length) Γ).side.toNat Γ)) l.ps.length= -4:=by
 obtain⟨r,hr,rfl⟩:=List.mem_iff_getElem.1 hl;have er:aZ[r]=aZ.getD r Γ:=by simp[Ω,hr]
 rw[er];have hB:=h.trd.brd;have hlen:(eC fs (dL fs z) (Cg fs (dL fs z) aZ) (Ch fs (dL fs z) aZ) aZ).length=aZ.length:=by unfold eC;rw[υ]
 have hts:=hB.turns (by rw[hlen];exact hr);have hrl:((eC fs (dL fs z) (Cg fs (dL fs z) aZ) (Ch fs (dL fs z) aZ) aZ).getD r []).length=(aZ.getD r Γ).ps.length:=by rw[iM,υ]
 rw[hrl]at hts;rw[<-dI fun j hj=>(h.corner hr hj).1];exact hts
end
section
open Go Go.RowKit Go.Shelf Go.Lib
def bx1(fs:List Fr)(ps:List Pt)(j:Nat):Int:=bw9 (fs.getD (ps.getD ((j+ps.length-1)%ps.length) Γ).side.toNat Γ) (fs.getD (ps.getD j Γ).side.toNat Γ)
theorem bC4(f g):-1<=bw9 f g/\bw9 f g<=1:=by
 unfold bw9;split
 .omega
 .split <;>omega
theorem bC7(T:Nat->Int)(h:∀j,-1<=T j/\T j<=1):∀n:Nat,-(n:Int)<=dP T n/\dP T n<=n
 |0=>by simp[dP]
 |n+1=>by
  have:=bC7 T h n
  have:=h n
  rw[dP]
  omega
theorem bA0(f g)(h:f.up=g.up):(qJ g-qJ f+4)%4≠3:=by
 unfold qJ;rw[h];cases g.up<;>by_cases h1:0<f.dir<;>by_cases h2:0<g.dir<;>simp[h1,h2]
theorem by6(fs p q):bx5 fs p q=(qJ (fs.getD q.side.toNat Γ)-qJ (fs.getD p.side.toNat Γ)+4)%4:=by
 unfold bx5;have b1:=by0 (fs.getD q.side.toNat Γ);have b2:=by0 (fs.getD p.side.toNat Γ);exact kO oM
theorem So.turns'(h:So fs z aZ)(hl:l∈aZ):dP (bx1 fs l.ps) l.ps.length=4\/dP (bx1 fs l.ps) l.ps.length= -4:=by
 have h0:=h.turns hl;have h4:=(h.len.2 l hl).1;rw[<-BC];have e:dP (fun j=>bx1 fs l.ps ((j+1)%l.ps.length)) l.ps.length=dP (fun j=>bw9 (fs.getD (l.ps.getD j Γ).side.toNat Γ) (fs.getD (l.ps.getD ((j+1)%l.ps.length) Γ).side.toNat Γ)) l.ps.length:=by
  refine dI fun j hj=>?_;unfold bx1;have e:((j+1)%l.ps.length+l.ps.length-1)%l.ps.length=j:=by
   by_cases q:j+1<l.ps.length
   .rw[aT q,show j+1+l.ps.length-1=j+l.ps.length by omega,gQ,aT hj]
   .rw[show j+1=l.ps.length by omega,mY,bD,aT oM];omega
  rw[e]
 rw[e];exact h0
theorem So.noback(h:So fs z aZ)(hr:r<aZ.length)(hj:j<(aZ.getD r Γ).ps.length):
 bx5 fs ((aZ.getD r Γ).ps.getD ((j+(aZ.getD r Γ).ps.length-1)%(aZ.getD r Γ).ps.length) Γ) ((aZ.getD r Γ).ps.getD j Γ)≠2:=by
 rw[by6];have hm:(j+(aZ.getD r Γ).ps.length-1)%(aZ.getD r Γ).ps.length<(aZ.getD r Γ).ps.length:=aV _ oM;have h2:=(h.corner hr hm).2;have e:((j+(aZ.getD r Γ).ps.length-1)%(aZ.getD r Γ).ps.length+1)%(aZ.getD r Γ).ps.length=j:=by
  by_cases q:j=0
  .subst q;have e1:(0+(aZ.getD r Γ).ps.length-1)%(aZ.getD r Γ).ps.length=(aZ.getD r Γ).ps.length-1:=by rw[bD];exact aT oM
   rw[e1,show(aZ.getD r Γ).ps.length-1+1=(aZ.getD r Γ).ps.length by omega,mY]
  .rw[show j+(aZ.getD r Γ).ps.length-1=j-1+(aZ.getD r Γ).ps.length by omega,gQ,aT (a:=j-1) oM,show j-1+1=j by omega,aT hj]
 rwa[e]at h2
theorem bx6 (a:Option Addr) (N cap:Nat) (rs:List Rg) (st:Nat) (w:η) (hE:mV w) (hD:KH w) (hl:rs.length=N) (tY:N<=40->bY (aF rs) N<=9223372036854775807) (hN:N<=9223372036854775807) (rr:GB w a rs) (AF:st<=255) :
 aE γ 4 #[.agg #[Θ a N cap],Υ .u8 (st:Int)] w fun e w'=>e=σ (ω ι)/\Bw w w':=by
 have HFi:=zq (fun W (hW:Bw w W)=>ar8 a N cap rs W hl tY hN (rr.below hW));have HAw:=zq fun W (hW:Bw w W)=>xn W (hE.below hW);have fL:=nA w (π #[Θ a N cap] 24);have vH:=bE.new w #[Θ a N cap] 24;obtain⟨W0,fI⟩:=nm (w.alloc (π #[Θ a N cap] 24));rw [fI] at fL vH;have gH:=zq fL;have rD:=zq vH;have b0:=vH.ce 0;have HW:=zq fI;have H1:=zq (HFi.o _ fL);clear fL vH fI HFi;cases hfp:Xm (aF rs) N with
 | false=>
  rw [hfp] at H1;clear hfp hE hD rr tY hN hl;go_enter func4,ntmps4;go_upto_region 1 with (fail)
  rw [HW.o];clear HW;go_wp2_with fail
  refine ka H1.o fun W1 hb=>?_;have eG:=gH.bS hb;have H2:=zq (HAw.o _ eG.o);clear hb H1 gH b0;go_wp2_with fail
  refine kb H2.o eG.o fun W2 eU=>?_;clear H2;go_wp2;go_ret;exact⟨rfl,eU.o⟩
 | true=>
  rw [hfp] at H1;unfold Xm at hfp;simp only [aI,Bool.not_eq_true',decide_eq_true_eq] at hfp;obtain⟨hg,h0⟩:=hfp;obtain⟨g1,g2⟩:=RE hg;have hn:∀ r,(aF rs r).length<=1000:=fun r=>ku hl oM;have c2:=(wP h0).2.2.1;have Oj:bY (aF rs) N<=12:=oM;have HF:=zq (Sa hl h0 Oj);have CF:=nG (aF rs) N;have Ov:=zq CF;have HSt:=zq (fun W (hW:Bw w W)=>yw a N cap rs st W AF hl oM hn (rr.below hW) h0 Oj (hE.below hW) (hD.below hW));have Vy:aQ (∀ W,Bw w W->mV W):=fun W hW=>hE.below hW;have yx:=zq Oj;clear hE hD rr tY hN hl hg h0 g1 g2 hn c2 CF Oj AF;go_enter func4,ntmps4;go_upto_region 1 with (fail)
  rw [HW.o];clear HW;go_wp2_with fail
  refine ka H1.o fun W1 hb=>?_;have eG:=gH.bS hb;have b0:=aY hb b0;have H2:=zq (HSt.o _ eG.o);clear hb H1 gH rD HSt;go_wp2_with fail
  refine H2.o.mono ?_;rintro e Ws ⟨⟨fv,lv,zv,rfl⟩ | ⟨fa,fc,la,lc,z,aZ,rfl,hI,hcp,hfc,hf,hlr⟩,hb⟩
  .have eU:=eG.bS hb;have H3:=zq (HAw.o _ eU.o);clear hb H2 eG b0;go_wp2_with fail
   refine kb H3.o eU.o fun W3 HB3=>?_;clear H3;go_wp2;go_ret;exact⟨rfl,HB3.o⟩
  .have HBs:=eG.bS hb;have HFs:=HF.o.fs;have bl8:=Ov.o;have Oj:=yx.o;generalize bY (aF rs) N=M,fP (aF rs) N=FS at *;obtain⟨l1,l2⟩:=hI.len;have ko:aQ (∀ k,k < aZ.length->∀ p∈(aZ.getD k Γ).ps,∃ s:Nat,p.side=s/\s < M):=fun k hk p hp=> by
    obtain⟨t,h1,h2⟩:=(hI.trd.part p (List.mem_flatMap.2 ⟨_,aN hk Γ,hp⟩)).1.side;exact⟨t,h1,by rw [<- bl8];exact h2⟩
   have HRx:aQ (∀ k,k < aZ.length->∀ j,j < (aZ.getD k Γ).ps.length->∀ W,Bw Ws W->aE γ 13 #[Θ fa M fc,Θ (aZ.getD k Γ).a (aZ.getD k Γ).ps.length (aZ.getD k Γ).cap,Υ Ξ (j:Int)] W fun e w'=>e=σ (.tuple #[ω (decide (bx5 FS ((aZ.getD k Γ).ps.getD ((j+(aZ.getD k Γ).ps.length - 1) % (aZ.getD k Γ).ps.length) Γ) ((aZ.getD k Γ).ps.getD j Γ)=3)),Υ Ξ 0])/\Bw W w'):=fun k hk j hj W hW=>by
    obtain⟨lb',lo',-,-,rp⟩:=(hlr.below hW).at (i:=k) hk rfl;have hm:=aN hk (Γ:Lp);exact bz7 fa (aZ.getD k Γ).a M (aZ.getD k Γ).ps.length fc (aZ.getD k Γ).cap j FS (aZ.getD k Γ).ps W (Vy.o _ (aW HBs.o hW)) bl8 oM HFs rfl (fun l hl=>by
     obtain rfl:=List.mem_singleton.1 hl;exact hI.ok _ hm) hj (ko.o k hk) (hI.noback hk hj) (hf.below hW) rp
   have HTn:aQ (∀ k,k < aZ.length->dP (bx1 FS (aZ.getD k Γ).ps) (aZ.getD k Γ).ps.length=4\/dP (bx1 FS (aZ.getD k Γ).ps) (aZ.getD k Γ).ps.length= -4):=fun k hk=>hI.turns' (aN hk Γ);have HPt:aQ (∀ k,k < aZ.length->4<=(aZ.getD k Γ).ps.length/\(aZ.getD k Γ).ps.length<=12):=fun k hk=>l2 _ (aN hk Γ);have HFz:=zq bl8;have HRf:=zq hf;have HLR:=zq hlr;have hM:M<=12:=Oj;clear hb H2 eG b0 HF Ov yx Vy HFs bl8 Oj l2 hI hcp hfc hf hlr;obtain⟨n,hn⟩:=nm aZ.length;rw [hn] at ko HRx HTn HPt l1 |-;have Hl:=zq hn;clear hn;go_wp2;go_loopw [34] (fun i wr=>∃ k:Nat,i=Υ Ξ (k:Int)/\k<=n/\aQ (Bw Ws wr)) (fun i _=>n - (ξ i).toNat);case atStart=>exact⟨0,rfl,oM,μ _ _⟩
   case round=>
    obtain⟨k,rfl,hk,HB⟩:=hrel;rename η=>wr;by_cases hlt:k < n
    .have aC4:(k:Int) < n:=oM;have hk0:(0:Int)<=(k:Int):=oM;obtain⟨lb,lo,rfl,l0,rp⟩:=(HLR.o.below HB.o).at (i:=k) (by rw [Hl.o];exact hlt) rfl;obtain⟨q1,q2⟩:=HPt.o k hlt;have HSk:=zq (ko.o k hlt);have HRk:=zq (HRx.o k hlt);have HTk:=zq (HTn.o k hlt);obtain⟨pb,po,NW,-⟩:=rp.at (i:=0) oM rfl;have HRp:aQ (∀ W,Bw Ws W->Ih W (ζ ⟨pb,po,δ⟩) (aZ.getD k Γ).ps):=fun W hW=>by
      obtain⟨lb',lo',-,-,rp'⟩:=(HLR.o.below hW).at (i:=k) (by rw [Hl.o];exact hlt) rfl;rwa [NW] at rp'
     rw [NW] at l0 HRk;clear rp NW;generalize (aZ.getD k Γ).ps=ps,(aZ.getD k Γ).cap=lcap at *;obtain⟨np,PO⟩:=nm ps.length;rw [PO] at l0 q1 q2 HRk HTk;have Rh:=zq PO;clear PO;have HS0:aQ (dP (bx1 FS ps) 0=0):=rfl;go_wp2;go_loopw [11,40] (fun v i wi=>∃ j:Nat,i=Υ Ξ (j:Int)/\j<=np/\v=Υ Ξ (dP (bx1 FS ps) j)/\aQ (Bw Ws wi)) (fun _ i _=>np - (ξ i).toNat);case atStart=>exact⟨0,rfl,oM,rfl,HB.o⟩
     case round=>
      clear HB l0;obtain⟨j,rfl,hj,rfl,HB⟩:=hrel;rename η=>wi;by_cases hjn:j < np
      .have hkn:(j+np - 1) % np < np:=aV _ oM;have il:=bC7 (bx1 FS ps) (fun _=>bC4 _ _) j;have HSn:aQ (dP (bx1 FS ps) (j+1)=dP (bx1 FS ps) j+bx1 FS ps j):=rfl;have HRj:=zq (HRk.o j hjn);have s3:((j:Int)+(np:Int) - 1).tmod (np:Int)=(((j+np - 1) % np:Nat):Int):=by
        rw [kO oM];rw [show(j:Int)+(np:Int) - 1=((j+np - 1:Nat):Int) by omega];rfl
       obtain⟨s,xZ,hs2⟩:=HSk.o _ (aN (i:=(j+np - 1) % np) (by rw [Rh.o];exact hkn) Γ);obtain⟨t,ht1,UH⟩:=HSk.o _ (aN (i:=j) (by rw [Rh.o];exact hjn) Γ);have hT:bx1 FS ps j=bw9 (FS.getD s Γ) (FS.getD t Γ):=by unfold bx1;rw [Rh.o,xZ,ht1];rfl
       have hR:bx5 FS (ps.getD ((j+np - 1) % np) Γ) (ps.getD j Γ)=(qJ (FS.getD t Γ) - qJ (FS.getD s Γ)+4) % 4:=by rw [by6,xZ,ht1];rfl
       rw [hR] at HRj;have hE:=bA0 (FS.getD s Γ) (FS.getD t Γ);have hTF:bw9 (FS.getD s Γ) (FS.getD t Γ)=if (FS.getD s Γ).up=(FS.getD t Γ).up then 0 else if (qJ (FS.getD t Γ) - qJ (FS.getD s Γ)+4) % 4=3 then -1 else 1:=rfl
       rw [hTF] at hT;rw [hT] at HSn;obtain⟨pb1,po1,e1,c0,c1,c2⟩:=(HRp.o wi HB.o).at (i:=(j+np - 1) % np) (by rw [Rh.o];exact hkn) rfl;obtain⟨pb2,po2,e2,d0,d1,d2⟩:=(HRp.o wi HB.o).at (i:=j) (by rw [Rh.o];exact hjn) rfl;injection e1 with e1;injection e1 with e3 e4;subst e3 e4;injection e2 with e2;injection e2 with e3 e4;subst e3 e4;rw [xZ] at c0;rw [ht1] at d0;generalize bs (ps.getD j Γ).en=QE,bs (ps.getD j Γ).fr=QF,bs (ps.getD ((j+np - 1) % np) Γ).en=PE,bs (ps.getD ((j+np - 1) % np) Γ).fr=PF at *;clear xZ ht1 hR hT hTF;generalize (qJ (FS.getD t Γ) - qJ (FS.getD s Γ)+4) % 4=TR,(j+np - 1) % np=pr at *;obtain⟨S,hS⟩:=nm (dP (bx1 FS ps) j);obtain⟨S1,hS1⟩:=nm (dP (bx1 FS ps) (j+1));rw [hS] at il HSn |-;rw [hS1] at HSn;have O9:=zq hS1;clear hS hS1;have lb':pb < wi.heap.size:=aD wi ⟨pb,po+pr * 3,δ⟩ c0;have v1:∀ j,pb < wi.heap.size+j:=fun j=>oM;have v2:∀ j,¬ pb=wi.heap.size+j:=fun j=>oM;have v3:¬ pb=wi.heap.size:=oM;have hki:(pr:Int) < (np:Int):=oM;have gz:(0:Int)<=(pr:Int):=oM;have hji:(j:Int) < (np:Int):=oM;have hj0:(0:Int)<=(j:Int):=oM;have SY:¬ np=0:=oM;have s1:IntKind.i64.wrap ((j:Int)+(np:Int))=(j:Int)+(np:Int):=aM _ oM;have s2:IntKind.i64.wrap ((j:Int)+(np:Int) - 1)=(j:Int)+(np:Int) - 1:=aM _ oM;go_wp2_with fail
       go_cut [13,14] (fun x y W=>∃ g h:Nat,x=aB (ζ ⟨g,0,δ⟩)/\y=aB (ζ ⟨h,0,δ⟩)/\aQ (by1 wi W g h (#[Υ Ξ s,Δ PF,Δ PE]) (#[Υ Ξ t,Δ QF,Δ QE])));case first=>
        go_region;all_goals
         go_wp2;go_meet;case rel=>first | exact⟨_,_,rfl,rfl,by2 _ _ _⟩ | exact⟨_,_,rfl,rfl,bz1 _ _ _⟩
       case rest=>
       obtain⟨g',h',rfl,rfl,HJ⟩:=hcut;rename η=>wc;have Do:=zq (HB.o.trans (HJ.o.2.2.mono HB.o.size));obtain⟨p0,p1,p2⟩:=HJ.o.1.three;obtain⟨q0,q1',q2'⟩:=HJ.o.2.1.three;clear s1 s2 s3 v1 v2 v3 lb' c0 c1 c2 d0 d1 d2 HJ HB hki gz SY hkn;have xj:=zq (HRj.o wc Do.o);have g1:¬ (s:Int) < 0:=oM;have g2:¬ (M:Int)<=(s:Int):=oM;have g3:¬ (t:Int) < 0:=oM;have g4:¬ (M:Int)<=(t:Int):=oM;have hs0:(0:Int)<=(s:Int):=oM;have hsI:(s:Int) < (M:Int):=oM;have ht0:(0:Int)<=(t:Int):=oM;have htI:(t:Int) < (M:Int):=oM;go_wp2_with fail
       refine ka xj.o fun W1 hb=>?_;have eG:=zq (Do.o.trans (hb.mono Do.o.size));have p0:=aY hb p0;have q0:=aY hb q0;obtain⟨fb,fo,rfl,f0,-⟩:=(HRf.o.below eG.o).at (i:=s) (by rw [HFz.o];exact hs2) rfl;obtain⟨fb2,fo2,e1,h0,-⟩:=(HRf.o.below eG.o).at (i:=t) (by rw [HFz.o];exact UH) rfl;injection e1 with e1;injection e1 with e3 e4;subst e3 e4;clear hb xj HRj p1 p2 q1' q2';generalize (FS.getD t Γ).up=ut,(FS.getD s Γ).up=us at *;go_wp2_with fail
       go_cut [92] (fun v W=>v=ω (us==ut)/\aQ (Bw Ws W));case first=>
        go_region;all_goals
         go_wp2;go_meet;case rel=>exact⟨rfl,eG.o.drew⟩
       case rest=>
       obtain⟨rfl,eU⟩:=hcut;rename η=>wd;clear p0 q0 f0 h0 eG Do g1 g2 g3 g4 hs0 hsI ht0 htI;cases hub:(us==ut) with
       | true=>
        have hu:us=ut:=by simpa using hub
        have t3:decide (TR=3)=ν:=decide_eq_false (hE hu);rw [ip hu] at HSn;have hSS:S1=S:=by have:=HSn.o;omega
        rw [t3];clear t3 hE HSn hu hub;go_wp2;go_roundw;case rel=>exact⟨j+1,by go_num,oM,by rw [O9.o,hSS],eU.o⟩
        case measure=>simp only [ξ];omega
       | false=>
        have hu:¬ us=ut:=by simpa using hub
        rw [iN hu] at HSn;clear hE hu hub;by_cases t3:TR=3
        .rw [ip t3] at HSn;have hSS:S1=S - 1:=by have:=HSn.o;omega
         have hw:IntKind.i64.wrap (S - 1)=S - 1:=aM _ oM;rw [decide_eq_true t3];clear t3 HSn;go_wp2;go_roundw;case rel=>exact⟨j+1,by go_num,oM,by rw [O9.o,hSS],eU.o⟩
         case measure=>simp only [ξ];omega
        .rw [iN t3] at HSn;have hSS:S1=S+1:=by have:=HSn.o;omega
         have hw:IntKind.i64.wrap (S+1)=S+1:=aM _ oM;rw [decide_eq_false t3];clear t3 HSn;go_wp2;go_roundw;case rel=>exact⟨j+1,by go_num,oM,by rw [O9.o,hSS],eU.o⟩
         case measure=>simp only [ξ];omega
      .obtain rfl:j=np:=oM;rcases HTk.o with e4 | e4
       .rw [e4];clear e4;go_wp2;go_roundw;case rel=>exact⟨k+1,by go_num,oM,HB.o⟩
        case measure=>simp only [ξ];omega
       .rw [e4];clear e4;go_wp2;go_roundw;case rel=>exact⟨k+1,by go_num,oM,HB.o⟩
        case measure=>simp only [ξ];omega
    .obtain rfl:k=n:=oM;clear ko HRx HTn HPt HRf HLR;have wF:=zq (aW HBs.o HB.o);have H3:=zq (HAw.o _ wF.o);go_wp2_with fail
     refine kb H3.o wF.o fun W3 HB3=>?_;clear H3;go_wp2;go_ret;exact⟨rfl,HB3.o⟩
end
section
open Go Go.RowKit Go.Lib Go.ChangeShapes Go.WideShapes
theorem bC5(hL:JG γ Rows.traceTurnsRow.laid W)(hS:W.ShapedOpen γ):mV W:=by
 constructor
 .have h:=hL.filter (fun x=>x.1==ab6);have e:(Rows.traceTurnsRow.laid.filter fun x=>x.1==ab6)=[(ab6,Lib.tabData .u64 Lib.pow10Tab)]:=by
   rw[<-aL8];kernel_rfl
  rw[e,yW _ _ _ kF]at h;exact tabIs_of_head (g:=1) (t:=317) (e:=248) (n:=20) kF kF kF kF kF kF h
 .exact cell_of_shapedOpen_int (t:=3) (zero:=#[Υ Ξ 0]) hS (of_decide_eq_true kF) kF kF kF kF kF
theorem bB3(hL:JG γ Rows.traceTurnsRow.laid W):KH W:=by
 have h:=hL.filter (fun x=>x.1==aw3);have e:(Rows.traceTurnsRow.laid.filter fun x=>x.1==aw3)=[(aw3,DataW.agg [XP ν 1,XP ι (-1),XP ν (-1),XP ι 1])]:=kF;rw[e,yW _ _ _ kF]at h;exact ba6 kF kF h
theorem bx0:Tryz.f4.params= #[24,5]:=kF
theorem bA1{H:Type}{enc:cS×χ->H}{cH:Nat}{args:Array χ}{ds gs:List (DataW H)}{KS:List MemPlace}(Ji:∀(j:Nat)t v,Tryz.f4.params[j]? =ζ t->args[j]? =ζ v->Value.okWide γ W .any cH t v)(hW:DataW.Whole enc γ Tryz.f4.params.toList Rows.traceTurnsSpec.vars ν W args.toList ds gs KS)(hz:(vU γ (Tryz.f4.params.toList++(yM Rows.traceTurnsSpec).bare.plain.varTypes γ) (ds++gs)).all (·<=oT)=ι)(hL:JG γ Rows.traceTurnsRow.laid W)(hS:W.ShapedOpen γ):
 aE γ 4 args W fun e W'=>∃v,e=σ v/\Rows.traceTurnsSpec.post enc γ Tryz.f4 ν ι ν ν W args v W':=by
 have hE:=bC5 hL hS;have hD:=bB3 hL;have hlt:=fun p hp=>DataW.Whole.lt hW p hp;have fI:=hW;obtain⟨p,q,hA,hV,rfl,-,-⟩:=hW;rw[bx0]at hA Ji hz;obtain⟨rfl,rfl⟩:=trodVars_none hV;obtain⟨v0,vs0,x0,ds0,p0,q0,ea0,rfl,rfl,h0,hA0⟩:=trodAll_cons hA;clear hA;obtain⟨v1,vs1,x1,ds1,p1,q1,rfl,rfl,rfl,h1,Yw⟩:=trodAll_cons hA0;clear hA0;obtain⟨rfl,rfl,rfl⟩:=trodAll_nil Yw;obtain⟨args⟩:=args;simp only[]at ea0;subst ea0;have hv:=Ji 0 24 v0 rfl rfl;unfold Value.okWide at hv;rw[underlying24]at hv;obtain⟨cs0,rfl,-,-⟩:=hv;obtain⟨i1,rfl⟩:=okWide_int pG (Ji 1 _ v1 rfl rfl);have g1:=h1;obtain⟨n1,t1⟩:=h1;obtain⟨j1,c1,-,hi1⟩:=DataW.trod_int pG t1;simp only[Value.cells,AZ,ff,and_true,true_and]at c1;subst c1;obtain⟨st,xZ,hb1⟩:=aw4 hi1;subst xZ;have g0:=h0;obtain⟨n0,t0⟩:=h0;obtain⟨a,n,ca,rs,c0,hl,hca,Ut,rr,hrs⟩:=zc t0 (fun k hk=>of_decide_eq_true (List.all_eq_true.1 hz k (by
  show k∈vU γ (24::_) (x0::_);rw[vU];exact List.mem_append_left _ hk)))
 obtain⟨cs0⟩:=cs0;have c0:cs0=[Θ a n ca]:=c0;subst c0;have tY:n<=40->bY (aF rs) n<=9223372036854775807:=fun h40=>by
  have key:∀k,k<=n->bY (aF rs) k<=k*140737488351232:=by
   intro k;induction k with
   |zero=>intro _;simp[bY]
   |succ k ih=>
    intro hk;have h1:=ih oM;have h2:(aF rs k).length*56<=oT:=hrs _ (aN oM Γ);have h3:oT=140737488351232:=rfl;rw[bY,Nat.succ_mul];omega
  have:=key n (θ _);have h5:n*140737488351232<=40*140737488351232:=Nat.mul_le_mul_right _ h40;omega
 have hw:=bx6 a n ca rs st W hE hD hl tY (by unfold maxLen at Ut;omega) rr hb1;refine hw.mono ?_;rintro e W'⟨rfl,hb⟩;have row:∀(t:cS)(v:χ)(d:DataW H)(ps:List MemPlace),Tryz.prog.readableRec t=ι->t<Tryz.prog.types.size->DataW.Trod enc γ W 0 (fun _=>ι) ι t v d ps->(∀x∈ps,x.block<W.heap.size)->DataW.Trod enc γ W' 0 (fun b=>decide (b<W.heap.size)) ι t v d ps:=fun t v d ps hr ht h hlt=>
  Below.trod db hr ht h hb hlt
 refine⟨_,rfl,_,_,_,[],p0++(p1++[]),[],fI,?_,?_,rfl,hb.frame _,fun h=>by cases h⟩
 .exact trodAll_mk1 (shut_bool underlying4 _)
 .show DataW.TrodAll enc γ W' 0 _ ι Tryz.f4.params.toList _ [x0,x1] _;rw[bx0];exact⟨p0,_,row _ _ _ _ kF (of_decide_eq_true kF) g0 (fun x hx=>hlt x (by simp[hx])),⟨p1,[],row _ _ _ _ kF (of_decide_eq_true kF) g1 (fun x hx=>hlt x (by simp[hx])),rfl,rfl⟩,rfl⟩
theorem bA2(os args):JG γ Rows.traceTurnsRow.laid ((World.laidAll γ os Rows.traceTurnsRow.laid).forCall (fun _ _=>0) ⟨#[],args,[]⟩).memory:=by
 rw[yW _ _ _ kF];exact laidMet_laidAll args kF kF
theorem bC6(os:Os)(Jm:os.Started)(H:Type)(enc:cS×χ->H):
 ReturnsInHanded {} Yi os 4 .any (fun w args=>(Rows.traceTurnsSpec.pre enc γ Tryz.f4 [] ν w args/\JG γ Rows.traceTurnsRow.laid w)/\sizedMet enc γ Tryz.f4 (yM Rows.traceTurnsSpec) ν w args)
  (Rows.traceTurnsSpec.post enc γ Tryz.f4 ν ι ν ν):=by
 refine Qc (C:=Yi) (X:=fun w _=>JG γ Rows.traceTurnsRow.laid w) (fun _ _ _ hh h=>h.of_heap hh) ba7 Jm kF func4
  (ChangeSpec.witness_shaped (enc:=enc) (C:=Yi) (os:=os) (X:=fun w _=>JG γ Rows.traceTurnsRow.laid w) ν (World.laidAll γ os Rows.traceTurnsRow.laid) #[.agg #[Θ δ 0 0],Υ .u8 0] 8 (World.laidAll_os _ _ _)
   (World.shaped_of_ZipB kF kF) kF kF kF (bA2 os _)) ?_
 intro W cH args ds gs KS Ji hW hz hL hS;exact bA1 Ji hW hz hL hS
end
end Go.Proofs.YtncclggcfgnhpaaGreatDoor
