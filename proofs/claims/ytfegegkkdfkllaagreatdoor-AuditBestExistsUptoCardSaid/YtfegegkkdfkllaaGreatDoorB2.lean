/- Joined texts: the walk by computed conditions, the contracts of the functions, the plain laws. -/
import Derived.Test.YtfegegkkdfkllaaGreatDoorB1
import Derived.Deep.LoopGhost
import Derived.RangeFuncRecord
import Derived.Below
import Derived.Test.YtfegegkkdfkllaaGreatDoorProg
import Derived.Lib.IndexMore
import Derived.Shelf.Strings.SlTrimAscii
import Derived.Shelf.Strconv.Itoa3
import Derived.Shelf.Strings.Search3
import Derived.Shelf.Strings.FuncGrows
set_option linter.unusedVariables false
set_option linter.unusedSimpArgs false
set_option maxRecDepth 100000
set_option maxHeartbeats 0
noncomputable section
open Array renaming all_eq_true_iff_forall_mem->Fa,getD_eq_getD_getElem?->Lk,getElem?_eq_none->I7,getElem?_setIfInBounds->Kg,getElem?_toList->KA,mem_of_getElem?->JN,replicate->Mb
open Bool renaming and_eq_false_iff->Jt,and_eq_true->NK,eq_iff_iff->MG,false_eq_true->LH,false_or->LF,not_eq_true'->Lc,not_true->K6,or_eq_false_iff->LA,or_eq_true->L4
open Classical renaming em->KN
open Function renaming Injective->Aj
open Go renaming Act->NI,Calls->Ku,Code->Np,Exit->Me,Func->L3,FuncId->L8,LoopState->NQ,Oper->Nu,Operand->NF,Program->Ng,ResultVar->GC,World->N4
open Go.Act renaming eval->F6
open Go.Code renaming region->Ge
open Go.Deferred renaming ofValue->E3
open Go.Ending renaming returned->Ex
open Go.Exit renaming inBlock->CZ
open Go.Instr renaming extract->JJ,storeAt->J6,sureAddr->JZ
open Go.IntKind renaming i64->Nq,wrap->Nl
open Go.Lib renaming contains->Hg,idxFunc->EL,idxFuncFrom->Et,occAt->BX
open Go.LoopState renaming busy->J3,ready->Mg
open Go.Oper renaming semAt_eq->KO,uponIn->Gd,uponIn_value->DJ
open Go.Proofs.Lays renaming n144->Ak,n160->Am,n171->Al
open Go.Proofs.LaysGw renaming n17->Ao
open Go.Region renaming binds->Kp,ready->K8,wanted->L5
open Go.Result renaming andThen_ok->Mt
open Go.Sem renaming run_bind->Ms,run_pure->MV
open Go.Shelf renaming Ren->Gn
open Go.Sx renaming Ext->Nw,PCall->Nn,PFn->OB,PYield->Mo,Rep->M5
open Go.Sx.AV renaming any->OI,clo->Ml,d->OF,iptr->Ma,opt->JA,ptr->N5,under->KX,yld->NE
open Go.Sx.Box renaming cells->Ns,loop->M7,under->Kd
open Go.Sx.Box.loop renaming injEq->Ae
open Go.Sx.Cx renaming grow->Fx,take->Fv
open Go.Sx.D renaming bool->OD,cells->Mw,int->OH,sl->OE,str->NZ
open Go.Sx.Ext renaming drew->LY,refl->L7,take->Jj
open Go.Sx.R1 renaming bool->Kk
open Go.Sx.RA renaming any->Jx,d->Fc
open Go.Sx.Sh renaming int->NP,sl->NB,str->NC
open Go.Sx.lL renaming nil->Ie
open Go.Sx.z8 renaming append->GF,cons->M8,nil->Mh,zero->Ii
open Go.Sx.zp renaming grow->JE,refl->Md
open Go.Utf8 renaming decode->GZ
open Go.Value renaming func->HZ
open Go.World renaming cell?->Ko,putObj_heap_other->FW
open Int renaming toNat->N1,toNat_natCast->M1
open List renaming all_eq_true->ND,any_eq_true->Jb,contains_iff_mem->Jf,countP_cons->G4,countP_le_length->IY,countP_pos_iff->Hw,drop_eq_nil_of_le->Ls,eq_nil_iff_forall_not_mem->HH,ext_getElem?->Jc,filterMap_cons_none->Dd,filterMap_cons_some->Ia,filter_sublist->FP,getD_eq_getElem?_getD->LB,getElem?_eq_getElem->LR,getElem?_eq_none->My,getElem?_map->M6,getElem?_set->LQ,getElem?_take->Ld,getElem_mem->KQ,getLast?_eq_some_iff->Dh,isEmpty_iff->G5,length->OJ,length_cons->MO,length_map->Nv,length_nil->LZ,length_pos_iff->Hv,length_take->Kr,map->OM,mapM_cons->Jq,map_cons->Mf,mem_append->LG,mem_cons->MU,mem_filter->Lh,mem_filterMap->DO,mem_iff_getElem->KS,mem_map->Mj,mem_of_getElem?->MX,mem_or_eq_of_mem_set->Di,mem_range->Lp,nodup_cons->KZ,nodup_range->E5,pairwise_cons->FL,range'->J8,range'_succ->E4,range->Mq,range_eq_range'->G1,replicate->M4,sum_cons->Jo,tail->EF,take->NW,take_length->La,take_succ_cons->Lj
open List.Nodup renaming sublist->FM
open List.Pairwise renaming nil->Ai
open Nat renaming add_zero->Jm,beq->KE,eq_of_beq_eq_true->Hx,le_of_lt->Ed,le_refl->MS,le_trans->KG,lt_irrefl->JW,lt_of_lt_of_le->MM,lt_or_ge->M0,lt_trichotomy->FD,strongRecOn->Ez,zero_add->LP
open Option renaming getD_some->Li,isSome_iff_exists->Jg,map_some->Ly
open Option.some renaming injEq->K0
open _root_ renaming Array->OC,ByteArray->NS,False->NL,List->ON,Option->OK,True->OG,absurd->No,congrArg->Mz,decide_eq_false_iff_not->M2,decide_eq_true_eq->NR,if_neg->N2,if_pos->Nf,of_decide_eq_true->M3
namespace Go.Sx
open Go
theorem nodupB_spec:∀{l:ON Nat},nodupB l=true->l.Nodup
 |[],_=>ON.nodup_nil
 |x::r,h=>by simp only[nodupB,NK,Lc]at h;refine KZ.2 ⟨λhm=>?_,nodupB_spec h.2⟩;have:=h.1;simp only[Jf.2 hm]at this;cases this
structure DOk (ops:OC Nu):Prop where
 nodup:(ops.toList.filterMap (·.dst)).Nodup
 edges:∀j o,ops[j]? = some o->∀e∈o.after.toList,Kp .any e=true->e.on<j
 allocs:∀j o,ops[j]? = some o->j<zl ops->isAllocO o.op=true->o.guard=none/\∃d,o.dst=some d
 ord:wK ops (tZ ops) (pp ops) []=true
theorem y6 {ops:OC Nu}{i:Nat}{o:Nu}(h:ops[i]? = some o):zq ops i=o:=by simp[zq,Lk,h]
theorem zi {ops:OC Nu}{i:Nat}(h:i<ops.size):ops[i]? = some (zq ops i):=by simp[zq,Lk,h]
theorem zO {ops:OC Nu}{i:Nat}{o:Nu}(h:ops[i]? = some o):i<ops.size:=by
 rcases M0 i ops.size with h' |h'
 ·exact h'
 ·simp[I7 h']at h
theorem yD (ops:OC Nu):zl ops<=ops.size:=by unfold zl;have:=ON.findIdx_le_length (p:=λ(o:Nu)=>isTail o.op) (xs:=ops.toList);simpa using this
theorem tx {ops:OC Nu}{i:Nat}{o:Nu}(ho:ops[i]? = some o) (hi:i<zl ops):isTail o.op=false:=by
 have h:=ON.not_of_lt_findIdx (p:=λ(o:Nu)=>isTail o.op) (xs:=ops.toList) (i:=i) hi;have e:ops.toList[i]'(by have:=yD ops;simp;omega)=o:=by have:=zO ho;simp[this]at ho;simpa using ho
 rw[e]at h;exact h
theorem cI {ops:OC Nu}(h:mv ops=true):DOk ops:=by
 simp only[mv,NK]at h;obtain⟨⟨⟨⟨h1,h2⟩,h3⟩,h4⟩,h5⟩:=h;refine⟨nodupB_spec h1,λj o ho e he hb=>?_,λj o ho hj ha=>?_,h5⟩
 ·have:=ND.1 h2 j (by simp;exact zO ho);rw[y6 ho]at this;have:=ND.1 this e he;simpa[hb]using this
 ·have:=ND.1 h4 j (by simpa using hj);rw[y6 ho]at this;simp only[ha,K6,LF,NK]at this;exact⟨by simpa using this.1,Jg.1 this.2⟩
theorem fN {ops:OC Nu}(h:mv ops=true):∀j,j<ops.size->zl ops<=j->∀i,i<j->xr ops j i=true:=by
 simp only[mv,NK]at h;obtain⟨⟨⟨⟨h1,h2⟩,h3⟩,h4⟩,h5⟩:=h;intro j hj hh i hi
 ·have:=ND.1 h3 j (by simpa using hj);simp only[L4,NR]at this;rcases this with h|h
  ·omega
  ·exact ND.1 h i (by simpa using hi)
theorem WJ {ops:OC Nu}(hd:DOk ops):∀(j i:Nat),xr ops j i=true->i<j:=by
 intro j;induction j using Ez with
 |_ j ih =>
  intro i hb;have hj:j<ops.size:=by
   rcases M0 j ops.size with h|h
   ·exact h
   ·unfold xr oO at hb;rw[LB,My (by rw[(masksFrom_get ops.toList [] j).1];simpa using h)]at hb;simp at hb
  obtain⟨e,he,hbe,h1⟩:=jz (zi hj) hb;have:=hd.edges j _ (zi hj) e he hbe;rcases h1 with rfl|⟨_,h1⟩
  ·exact this
  ·have:=ih e.on this i h1;omega
theorem qg {ops:OC Nu}(hd:DOk ops) {i j d:Nat}{oi oj:Nu}(hi:ops[i]? = some oi) (hj:ops[j]? = some oj) (h1:oi.dst=some d) (h2:oj.dst=some d):i=j:=by
 have key:∀(l:ON Nu) (i j:Nat) (oi oj:Nu),(l.filterMap (·.dst)).Nodup->l[i]? = some oi->l[j]? = some oj->oi.dst=some d->oj.dst=some d->i=j:=by
  intro l;induction l with
  |nil=>intro i j oi oj _ h;simp at h
  |cons o l ih =>
   intro i j oi oj hn hi hj h1 h2;have hmem:∀(k:Nat) (ok:Nu),l[k]? = some ok->ok.dst=some d->d∈l.filterMap (·.dst):=λk ok hk hdk=>DO.2 ⟨ok,MX hk,hdk⟩;cases i with
   |zero =>
    simp at hi;subst hi;cases j with
    |zero=>rfl
    |succ j =>
     simp at hj;rw[Ia h1,KZ]at hn;exact No (hmem j oj hj h2) hn.1
   |succ i =>
    simp at hi;cases j with
    |zero =>
     simp at hj;subst hj;rw[Ia h2,KZ]at hn;exact No (hmem i oi hi h1) hn.1
    |succ j =>
     simp at hj;have hn':(l.filterMap (·.dst)).Nodup:=by
      cases hod:o.dst with
      |none=>rw[Dd hod]at hn;exact hn
      |some x=>rw[Ia hod,KZ]at hn;exact hn.2
     rw[ih i j oi oj hn' hi hj h1 h2]
 exact key ops.toList i j oi oj hd.nodup (by simpa using hi) (by simpa using hj) h1 h2
def Sb (ops:OC Nu) (j t:Nat):Prop:= ∃(k:Nat) (o:Nu),ops[k]? = some o/\o.dst=some t/\¬ (xr ops j k=true/\isAllocO o.op=false)
theorem s8 (m:Nat):∀(l:ON Nu) (k:Nat) (tm:ON AV) (t:Nat),(vc m l k tm).length=tm.length/\((∃(i:Nat) (o:Nu),l[i]? = some o/\o.dst=some t/\¬ (m.testBit (k+i)=true/\isAllocO o.op=false))->(vc m l k tm)[t]? = (tm[t]?).map λ_=>.any)/\((¬ ∃(i:Nat) (o:Nu),l[i]? = some o/\o.dst=some t/\¬ (m.testBit (k+i)=true/\isAllocO o.op=false))->(vc m l k tm)[t]? = tm[t]?)
 |[],k,tm,t=>by simp[vc]
 |o::l,k,tm,t=>by
  obtain⟨h1,h2,h3⟩:=s8 m l (k+1) tm t;have shift:(∃(i:Nat) (o':Nu),(o::l)[i]? = some o'/\o'.dst=some t/\¬ (m.testBit (k+i)=true/\isAllocO o'.op=false)) ↔
    (o.dst=some t/\¬ (m.testBit k=true/\isAllocO o.op=false))∨(∃(i:Nat) (o':Nu),l[i]? = some o'/\o'.dst=some t/\¬ (m.testBit (k+1+i)=true/\isAllocO o'.op=false)):=by
   constructor
   ·rintro⟨i,o',hi,hd,hn⟩;cases i with
    |zero=>simp at hi;subst hi;exact .inl ⟨hd,by simpa using hn⟩
    |succ i=>simp at hi;exact .inr ⟨i,o',hi,hd,by rw[show k+1+i=k+(i+1) by omega];exact hn⟩
   ·rintro (⟨hd,hn⟩|⟨i,o',hi,hd,hn⟩)
    ·exact⟨0,o,rfl,hd,by simpa using hn⟩
    ·exact⟨i+1,o',by simpa using hi,hd,by rw[show k+(i+1)=k+1+i by omega];exact hn⟩
  rw[shift];simp only[vc];cases hod:o.dst with
  |none =>
   simp only;refine⟨h1,λh=>h2 (h.resolve_left (by simp)),λh=>h3 (λh'=>h (.inr h'))⟩
  |some d =>
   simp only;by_cases hb:(m.testBit k&& !isAllocO o.op)=true
   ·rw[Nf hb];have hb':m.testBit k=true/\isAllocO o.op=false:=by simpa using hb
    refine⟨h1,λh=>h2 (h.resolve_left (λh'=>h'.2 hb')),λh=>h3 (λh'=>h (.inr h'))⟩
   ·rw[N2 hb];have hb' :¬ (m.testBit k=true/\isAllocO o.op=false):=by simpa using hb
    refine⟨by simp[h1],λh=>?_,λh=>?_⟩
    ·by_cases hdt:d=t
     ·subst hdt;rw[LQ];simp only[if_true,h1];by_cases hlt:d<tm.length
      ·simp[hlt]
      ·simp[hlt]
     ·rw[zG hdt];exact h2 (h.resolve_left (λh'=>hdt (by simpa using h'.1)))
    ·have hdt:d≠t:=λe=>h (.inl ⟨by rw[e],hb'⟩);rw[zG hdt];exact h3 (λh'=>h (.inr h'))
theorem vY {ops:OC Nu}{j t:Nat}{tm:ON AV}:(mw ops j tm).length=tm.length/\(Sb ops j t->(mw ops j tm)[t]? = (tm[t]?).map λ_=>.any)/\(¬ Sb ops j t->(mw ops j tm)[t]? = tm[t]?):=by
 obtain⟨h1,h2,h3⟩:=s8 ((oO ops).getD j 0) ops.toList 0 tm t;refine⟨h1,λh=>h2 ?_,λh=>h3 λh'=>h ?_⟩
 ·obtain⟨k,o,hk,hd,hn⟩:=h;exact⟨k,o,by simpa using hk,hd,by simpa[xr]using hn⟩
 ·obtain⟨k,o,hk,hd,hn⟩:=h';exact⟨k,o,by simpa using hk,hd,by simpa[xr]using hn⟩
theorem WI {ops:OC Nu}{j d:Nat}{tm:ON AV}{x:AV}(h:Sb ops j d):mw ops j (tm.set d x)=mw ops j tm:=by
 apply Jc;intro t;by_cases ht:Sb ops j t
 ·rw[vY.2.1 ht,vY.2.1 ht];by_cases e:d=t
  ·subst e;rw[LQ];by_cases hlt:d<tm.length
   ·simp[hlt]
   ·simp[hlt]
  ·rw[zG e]
 ·have e:d≠t:=λe=>ht (e ▸ h);rw[vY.2.2 ht,vY.2.2 ht,zG e]
open Go.Sx renaming DOk->LC
def po (c:Cx) (w:N4) (b:Nat) (o:Obj):Prop :=b<w.heap.size/\w.heap[b]? = some o/\(∀l k:Nat,c.ρ[l]? ≠ some (some (b,k)))/\(∀o,¬ c.I b o)/\¬ c.J b
def fM (P:Ng) (c:Cx) (w:N4) (b:Nat) (T:TypeId):Prop:= ∃z,yo P T=some z/\po c w b (.cells z.cells T (0,0))
theorem po.ext {c w c' w' b} {o:Obj}(e:Nw c w c' w') (h:po c w b o):po c' w' b o:=by
 obtain⟨h1,h3,h4,h5,h6⟩:=h;refine⟨MM h1 e.size,by rw[e.frame b h1 h4];exact h3,λl k hl=>?_,λo ho=>?_,λhj=>?_⟩
 ·rcases e.fresh l b k hl with⟨l',k',h⟩|h
  ·exact h4 l' k' h
  ·omega
 ·rcases e.inew b o ho with h|h|⟨l,k,h⟩
  ·exact h5 o h
  ·omega
  ·exact h4 l k h
 ·rcases e.jnew b hj with h|h
  ·exact h6 h
  ·omega
theorem fM.ext {P c w c' w' b T} (e:Nw c w c' w') (h:fM P c w b T):fM P c' w' b T:=by obtain⟨z,hz,h⟩:=h;exact⟨z,hz,h.ext e⟩
section
variable {P:Ng}{G:Nat->OK (ON D)}{nb:Nat}{rd:OK Nat}{ops:OC Nu}{H:ON Box}{c0:Cx}{w0:N4}{Kend:ON AV->Prop}
def y4 (listed:OC Bool) (i:Nat):Bool:=listed.getD i false
def TY (P:Ng) (G:Nat->OK (ON D)) (ops:OC Nu) (i:Nat) (tm:ON AV) (H:ON Box):Prop :=w9 P G ops i (mw ops i tm) H λ_ a2 H2=>H2=H/\∀d,(zq ops i).dst=some d->d<tm.length->tm[d]? = some a2
structure Din (P:Ng) (G:Nat->OK (ON D)) (nb:Nat) (ops:OC Nu) (H:ON Box) (c0:Cx) (w0:N4) (Kend:ON AV->Prop) (listed:OC Bool) (a:NI) (w:N4) (c:Cx) (tm:ON AV) (done r:ON Nat) (B:Nat->Nat) (Z:Nat->Obj) (X:Nat->Prop):Prop where
 hr:HR c H w
 gr:GR G c w
 ext:Nw c0 w0 c w
 keep:zp c0 H c H
 df:lL nb c w a.defers
 lsz:listed.size=ops.size
 closed:xt ops listed
 len:tm.length=a.tmps.size
 rng:∀(k:Nat) o d,ops[k]? = some o->o.dst=some d->d<tm.length
 slot:∀(t:Nat) x v,tm[t]? = some x->a.tmps[t]? = some v->(∀(k:Nat) o,ops[k]? = some o->o.dst=some t->zl ops<=k∨(y4 listed k=true/\isAllocO o.op=false))->yA c H w a.tmps x v
 opt:∀(t g:Nat) p x,tm[t]? = some (.opt g p x)->∃(i j:Nat) (oi oj:Nu),ops[i]? = some oi/\ops[j]? = some oj/\oi.dst=some t/\oj.dst=some g/\xr ops i j=true/\i<zl ops
 v:jy P G ops r tm H Kend
 ord:wK ops (tZ ops) r done=true
 dn:∀k∈done,∀i∈tZ ops,xr ops k i=true->i∈done
 dh:∀k∈done,k∈tZ ops
 unl:∀i∈r,y4 listed i=false
 pend:∀i∈done,y4 listed i=false->¬ X i->TY P G ops i tm H
 fresh:∀(i:Nat) o T,ops[i]? = some o->o.op = .alloc T->i<zl ops->y4 listed i=true->∃d,o.dst=some d/\a.tmps[d]? = some (.pointer (some ⟨B i,0,none⟩))/\po c w (B i) (Z i)/\w0.heap.size<=B i
 binj:∀(i i':Nat) o o' T T',ops[i]? = some o->ops[i']? = some o'->o.op = .alloc T->o'.op = .alloc T'->i<zl ops->i'<zl ops->y4 listed i=true->y4 listed i'=true->B i=B i'->i=i'
theorem x8 {hs:ON Nat}:∀{r done:ON Nat},wK ops hs r done=true->∀i∈r,i∈hs/\i∉done
 |[],_,_,i,hi=>by simp at hi
 |j::r,done,h,i,hi=>by
  simp only[wK,NK,Lc]at h;obtain⟨⟨⟨⟨h1,h2⟩,_⟩,_⟩,h5⟩:=h;rcases MU.1 hi with rfl|hi
  ·exact⟨Jf.1 h1,λhm=>by rw[Jf.2 hm]at h2;cases h2⟩
  ·obtain⟨a,b⟩:=x8 h5 i hi;exact⟨a,λhm=>b (by simp[hm])⟩
theorem qf {hs:ON Nat}:∀{r done:ON Nat},wK ops hs r done=true->∀i∈hs,i∈done∨i∈r
 |[],done,h,i,hi=>by simp only[wK]at h;exact .inl (Jf.1 (ND.1 h i hi))
 |j::r,done,h,i,hi=>by
  simp only[wK,NK]at h;rcases qf h.2 i hi with h1|h1
  ·rcases LG.1 h1 with h1|h1
   ·exact .inl h1
   ·right;simp at h1;simp[h1]
  ·right;simp[h1]
theorem yS {i:Nat}:i∈tZ ops↔i<zl ops/\isAllocO (zq ops i).op=false:=by simp[tZ]
theorem oM {i:Nat}(h:i∈tZ ops):ops[i]? = some (zq ops i):=zi (MM (yS.1 h).1 (yD ops))
theorem vX {tm:ON AV}{d:OK Nat}{x:AV}{t:Nat}(h:d≠some t):(xI tm d x)[t]? = tm[t]? :=by
 cases d with
 |none=>rfl
 |some d=>exact zG (λe=>h (by rw[e]))
theorem xo {tm:ON AV}{d:OK Nat}{x:AV}:(xI tm d x).length=tm.length:=by cases d<;>simp[xI]
theorem WH {i j d:Nat}{o:Nu}(ho:ops[i]? = some o) (hdst:o.dst=some d) (hb:xr ops j i=false):Sb ops j d:=⟨i,o,ho,hdst,λh=>by rw[hb]at h;cases h.1⟩
theorem go {i j:Nat}{o:Nu}{tm:ON AV}{x:AV}(ho:ops[i]? = some o) (hb:xr ops j i=false):mw ops j (xI tm o.dst x)=mw ops j tm:=by
 cases hdst:o.dst with
 |none=>rfl
 |some d=>exact WI (WH ho hdst hb)
theorem WG (hd:LC ops) (i:Nat):xr ops i i=false:=by
 cases h:xr ops i i with
 |false=>rfl
 |true=>exact No (WJ hd i i h) (JW _)
theorem gn {i:Nat}{tm:ON AV}{K:AV->AV->ON Box->Prop}(h:w9 P G ops i (mw ops i tm) H K):∀(g:Nat) (p:Bool),(∃j,(zq ops i).guard=some (j,p)/\(ops[j]?).bind (·.dst)=some g)->∃(j:Nat) (oj:Nu),ops[j]? = some oj/\oj.dst=some g/\xr ops i j=true:=by
 rintro g p ⟨j,hg,hgd⟩;unfold w9 at h;rw[hg]at h;simp only[hgd]at h;split at h
 ·exact h.elim
 ·split at h
  ·rename_i tags C hch;cases hoj:ops[j]? with
   |none=>rw[hoj]at hgd;simp at hgd
   |some oj =>
    rw[hoj]at hgd;simp only[OK.bind_some]at hgd;refine⟨j,oj,hoj,hgd,?_⟩;by_cases hh:Sb ops i g
    ·exfalso;have hget:=(vY (tm:=tm)).2.1 hh;have:(mw ops i tm).getD g .any = .any:=by rw[LB,hget];cases tm[g]? <;> rfl
     simp only[chain,this]at hch;cases hch
    ·rcases KN (xr ops i j=true)with hb|hb
     ·exact hb
     ·exact No ⟨j,oj,hoj,hgd,λh=>hb h.1⟩ hh
  ·exact h.elim
theorem wE {i:Nat}{tv:ON AV}{K:AV->AV->ON Box->Prop}(h:w9 P G ops i tv H K):w9 P G ops i tv H λav a' H'=>K av a' H'/\∀g p x,a' = .opt g p x->∃j,(zq ops i).guard=some (j,p)/\(ops[j]?).bind (·.dst)=some g:=by
 have mono:∀(o:Nu) (tags:ON (Nat×Bool)) (C:Prop) (K1 K2:AV->ON Box->Prop),(∀av H',K1 av H'->K2 av H')->pQ P G o tags C tv H K1->pQ P G o tags C tv H K2:=by
  intro o tags C K1 K2 hk h;unfold pQ at h ⊢;split at h
  ·rename_i hop;split at h
   ·exact hk _ _ h
   ·exact h
  ·split at h
   ·rename_i hcal;split at h
    ·rename_i hok;rw[Nf hok];split at h
     ·exact h.mono λrs hrs=>exTys_mono _ _ _ (λds hd=>⟨hd.1,hk _ _ hd.2⟩) hrs
     ·unfold cO at h ⊢;split at h
      ·rename_i hsee;rw[Nf hsee];exact h.mono λrs H' hrs=>⟨hrs.1,exTys_mono _ _ _ (λds hd=>⟨hd.1,hk _ _ hd.2⟩) hrs.2⟩
      ·exact h.elim
    ·exact h.elim
   ·unfold WO at h ⊢;split at h
    ·split at h
     ·obtain⟨k,h3,h4,h5⟩:=h;exact⟨k,h3,h4,h5.mono λrs hrs=>exTys_mono _ _ _ (λds hd=>⟨hd.1,hk _ _ hd.2⟩) hrs⟩
     ·exact h.elim
    ·exact h.elim
  ·unfold r8 at h ⊢;cases hf:aP P (ev G (yr tags tv)) H o.op with
   |none =>
    rw[hf]at h;simp only at h ⊢;cases tags with
    |nil =>
     simp only at h ⊢;cases hh:vg P (ev G (yr [] tv)) H o.op with
     |none=>rw[hh]at h;exact h
     |some q =>
      obtain⟨av,H',F⟩:=q;rw[hh]at h;simp only at h ⊢;split at h
      ·rename_i ht;rw[Nf ht];exact hk _ _ h
      ·rename_i ht;rw[N2 ht];exact⟨h.1,hk _ _ h.2⟩
    |cons t ts=>exact h
   |some q =>
    obtain⟨av,F⟩:=q;rw[hf]at h;simp only at h ⊢;split at h
    ·rename_i ht;rw[Nf ht];exact hk _ _ h
    ·rename_i ht;rw[N2 ht];cases tags<;>exact⟨h.1,hk _ _ h.2⟩
 unfold w9 at h ⊢;split at h
 ·exact mono _ _ _ _ _ (λav H' hk=>⟨hk,λg p x hx=>by cases av<;>simp[dull]at hx⟩) h
 ·rename_i j p hg;split at h
  ·rename_i g hgd;split at h
   ·exact h.elim
   ·rename_i hne;simp only[N2 hne];split at h
    ·rename_i tags C hch;exact mono _ _ _ _ _ (λav H' hk=>⟨hk,λg' p' x hx=>by cases hx;exact⟨j,hg,hgd⟩⟩) h
    ·exact h.elim
  ·exact h.elim
end
open Go.Sx renaming Din->Kh
section
variable {P:Ng}{G:Nat->OK (ON D)}{nb:Nat}{rd:OK Nat}{ops:OC Nu}{H:ON Box}{c0:Cx}{w0:N4}{Kend:ON AV->Prop}{listed:OC Bool}{a:NI}{w:N4}{c:Cx}{tm:ON AV}{done r:ON Nat}{B:Nat->Nat}{Z:Nat->Obj}{X:Nat->Prop}
theorem Din.note {i:Nat}{r':ON Nat}{a2:AV}(hd:LC ops) (h:Kh P G nb ops H c0 w0 Kend listed a w c tm done (i::r') B Z X) (hv:jy P G ops r' (xI tm (zq ops i).dst a2) H Kend) (hopt:∀g p x,a2 = .opt g p x->∃(j:Nat) (oj:Nu),ops[j]? = some oj/\oj.dst=some g/\xr ops i j=true) (hp:y4 listed i=false->¬ X i->TY P G ops i (xI tm (zq ops i).dst a2) H):Kh P G nb ops H c0 w0 Kend listed a w c (xI tm (zq ops i).dst a2) (done++[i]) r' B Z X:=by
 obtain⟨hih,hid⟩:=x8 h.ord i (by simp);have hoi:=oM hih;have hul:=h.unl i (by simp);have hord:=h.ord;simp only[wK,NK,Lc]at hord;obtain⟨⟨⟨⟨_,_⟩,hpre⟩,_⟩,hrest⟩:=hord;refine { hr:=h.hr,gr:=h.gr,ext:=h.ext,keep:=h.keep,df:=h.df,lsz:=h.lsz,closed:=h.closed,len:=by rw[xo];exact h.len,rng:=by rw[xo];exact h.rng,slot:= ?_,opt:= ?_,v:=hv,ord:=hrest,dn:= ?_,dh:= ?_,unl:=λk hk=>h.unl k (by simp[hk]),pend:= ?_,fresh:=h.fresh,binj:=h.binj }
 ·intro t x v hx hv hall;have hne:(zq ops i).dst≠some t:=λe=>by
   rcases hall i _ hoi e with h1|⟨h1,_⟩
   ·have:=(yS.1 hih).1;omega
   ·rw[hul]at h1;cases h1
  rw[vX hne]at hx;exact h.slot t x v hx hv hall
 ·intro t g p x hx;by_cases e:(zq ops i).dst=some t
  ·have hx2:a2 = .opt g p x:=by
    rw[e]at hx;simp only[xI]at hx;rw[LQ]at hx;simp only[if_true]at hx;split at hx
    ·simpa using hx
    ·simp at hx
   obtain⟨j,oj,h1,h2,h3⟩:=hopt g p x hx2;exact⟨i,j,_,oj,hoi,h1,e,h2,h3,(yS.1 hih).1⟩
  ·rw[vX e]at hx;exact h.opt t g p x hx
 ·intro k hk m hm hb;rcases LG.1 hk with hk|hk
  ·exact LG.2 (.inl (h.dn k hk m hm hb))
  ·simp at hk;subst hk;have:=ND.1 hpre m hm;simp only[hb,K6,LF]at this;exact LG.2 (.inl (Jf.1 this))
 ·intro k hk;rcases LG.1 hk with hk|hk
  ·exact h.dh k hk
  ·simp at hk;subst hk;exact hih
 ·intro k hk hkl hkx;rcases LG.1 hk with hk|hk
  ·have hki:k≠i:=λe=>hid (e ▸ hk);have hb:xr ops k i=false:=by
    cases hbb:xr ops k i with
    |false=>rfl
    |true=>exact No (h.dn k hk i hih hbb) hid
   have hp:=h.pend k hk hkl hkx;unfold TY at hp ⊢;rw[go hoi hb];have hok:=oM (h.dh k hk);have hform:=wE hp;revert hp;have:(λ(_:AV) (a3:AV) (H2:ON Box)=>H2=H/\∀d,(zq ops k).dst=some d->d<tm.length->tm[d]? = some a3)=λ_ a3 H2=>H2=H/\∀d,(zq ops k).dst=some d->d<(xI tm (zq ops i).dst a2).length->(xI tm (zq ops i).dst a2)[d]? = some a3:=by funext _ a3 H2;rw[xo];refine propext (and_congr_right λ_=>forall_congr' λd=>forall_congr' λhd'=>?_);rw[vX (λe=>hki (qg hd hok hoi hd' e))]
   rw[←this];exact λh=>h
  ·simp at hk;subst hk;exact hp hkl hkx
theorem Din.advance (hd:LC ops):∀{r:ON Nat}{tm:ON AV}{done:ON Nat},Kh P G nb ops H c0 w0 Kend listed a w c tm done r B Z X->∃tm' done' r',Kh P G nb ops H c0 w0 Kend listed a w c tm' done' r' B Z X/\(r'=[]∨ ∃i r'',r'=i::r''/\isCallV (zq ops i).op=true)
 |[],tm,done,h=>⟨tm,done,[],h,.inl rfl⟩
 |i::r,tm,done,h=>by
  cases hc:isCallV (zq ops i).op with
  |true=>exact⟨tm,done,i::r,h,.inr ⟨i,r,rfl,hc⟩⟩
  |false =>
   obtain⟨hih,hid⟩:=x8 h.ord i (by simp);have hoi:=oM hih;have hv:=h.v;simp only[jy]at hv;have ht:isTail (zq ops i).op=false:=tx hoi (yS.1 hih).1;have ha:isAllocO (zq ops i).op=false:=(yS.1 hih).2;obtain⟨av,a2,⟨hk,hform⟩,hpend⟩:=mu hc ht ha (wE hv);refine Din.advance hd (h.note hd hk (λg p x hx=>?_) λ_ _=>?_)
   ·obtain⟨j,hj1,hj2⟩:=hform g p x hx;exact gn hv g p ⟨j,hj1,hj2⟩
   ·unfold TY;rw[go hoi (WG hd i)];have hkk:∀(a3:AV) (H2:ON Box),(H2=H/\a3=a2)->(H2=H/\∀d,(zq ops i).dst=some d->d<(xI tm (zq ops i).dst a2).length->(xI tm (zq ops i).dst a2)[d]? = some a3):=by rintro a3 H2 ⟨rfl,rfl⟩;refine⟨rfl,λd hdd hlt=>?_⟩;rw[xo]at hlt;rw[hdd];simp[xI,hlt]
    have hs:=mu hc ht ha hpend;obtain⟨av',a',⟨h1,h2⟩,h3⟩:=hs;subst h2;have mono:=wE h3;unfold w9 at h3 ⊢;split at h3
    ·rcases um ht ha h3 with⟨av2,h4,h5⟩|⟨h4,_⟩
     ·exact h5 _ (hkk _ _ h4)
     ·rw[hc]at h4;cases h4
    ·split at h3
     ·split at h3
      ·exact h3.elim
      ·rename_i hne;rw[N2 hne];split at h3
       ·rcases um ht ha h3 with⟨av2,h4,h5⟩|⟨h4,_⟩
        ·exact h5 _ (hkk _ _ h4)
        ·rw[hc]at h4;cases h4
       ·exact h3.elim
     ·exact h3.elim
theorem zj (hs:listed.size=ops.size) {i k:Nat}(hi:i<ops.size):y4 (listed.setIfInBounds i true) k=if k=i then true else y4 listed k:=by
 unfold y4;rw[Lk,Kg,Lk];by_cases e:k=i
 ·subst e;simp[hs,hi]
 ·simp[e,Ne.symm e]
theorem Din.rep (h:Kh P G nb ops H c0 w0 Kend listed a w c tm done r B Z X) {i:Nat}(hb:∀k,xr ops i k=true->y4 listed k=true):M5 G nb c H w (mw ops i tm) a:=by
 refine⟨h.hr,h.gr,⟨by rw[vY (t:=0).1,h.len];simp,λt v x hv hx=>?_⟩,h.df⟩;simp only[KA]at hv;by_cases hh:Sb ops i t
 ·rw[vY.2.1 hh]at hx;cases hy:tm[t]? with
  |none=>rw[hy]at hx;simp at hx
  |some y=>rw[hy]at hx;simp at hx;subst hx;exact Jx v
 ·rw[vY.2.2 hh]at hx;refine h.slot t x v hx hv λk o hk hdst=>?_;have:xr ops i k=true/\isAllocO o.op=false:=by
   rcases KN (xr ops i k=true/\isAllocO o.op=false)with h1|h1
   ·exact h1
   ·exact No ⟨k,o,hk,hdst,h1⟩ hh
  exact .inr ⟨hb k this.1,this.2⟩
theorem xt.add' {i:Nat}(hs:listed.size=ops.size) (hi:i<ops.size) (hc:xt ops listed) (hb:∀k,xr ops i k=true->y4 listed k=true):xt ops (listed.setIfInBounds i true):=by
 intro j k hj hbjk;have hj':y4 (listed.setIfInBounds i true) j=true:=hj;show y4 (listed.setIfInBounds i true) k=true;rw[zj hs hi]at hj' ⊢;split
 ·rfl
 ·by_cases e:j=i
  ·subst e;exact hb k hbjk
  ·rw[N2 e]at hj';exact hc j k hj' hbjk
theorem Din.ran {i:Nat}{v:Value}{c':Cx}{w':N4}{a2:AV}(hd:LC ops) (h:Kh P G nb ops H c0 w0 Kend listed a w c tm done r B Z X) (hX:∀m,X m->m=i) (hdone:i∈done) (hul:y4 listed i=false) (hb:∀k,xr ops i k=true->y4 listed k=true) (ha2:∀d,(zq ops i).dst=some d->d<tm.length->tm[d]? = some a2) (e:Nw c w c' w') (k:zp c H c' H) (hr:HR c' H w') (hs:yA c' H w' (a.put (zq ops i).dst v).tmps a2 v): Kh P G nb ops H c0 w0 Kend (listed.setIfInBounds i true) (a.put (zq ops i).dst v) w' c' tm done r B Z (λ_=>NL):=by
 have hih:=h.dh i hdone;have hoi:=oM hih;have hi:i<ops.size:=zO hoi;have hoth:∀t,(zq ops i).dst≠some t->(a.put (zq ops i).dst v).tmps[t]? = a.tmps[t]? :=by
  intro t hne;cases hdst:(zq ops i).dst with
  |none=>rfl
  |some d =>
   rw[yV,Kg];have:d≠t:=λe=>hne (by rw[hdst,e]);simp[this]
 refine { hr:=hr,gr:=h.gr.ext e,ext:=h.ext.trans e,keep:=h.keep.trans k,df:= ?_,lsz:=by simp[h.lsz],closed:=xt.add' h.lsz hi h.closed hb,len:= ?_,rng:=h.rng,slot:= ?_,opt:=h.opt,v:=h.v,ord:=h.ord,dn:=h.dn,dh:=h.dh,unl:= ?_,pend:= ?_,fresh:= ?_,binj:= ?_ }
 ·cases hdst:(zq ops i).dst<;>exact h.df.ext e
 ·rw[h.len];cases hdst:(zq ops i).dst with
  |none=>rfl
  |some d=>rw[yV];simp
 ·intro t x u hx hu hall;by_cases et:(zq ops i).dst=some t
  ·have hlt:t<tm.length:=by rcases M0 t tm.length with h' |h';exact h';simp[My h']at hx
   rw[ha2 t et hlt]at hx;simp at hx;subst hx;have:u=v:=by
    rw[et,yV,Kg]at hu;simp only[if_true]at hu;split at hu
    ·simpa using hu.symm
    ·rename_i hge;rw[h.len]at hlt;exact No hlt hge
   subst this;exact hs
  ·rw[hoth t et]at hu;have h1:=h.slot t x u hx hu λm o hm hdm=>by
    rcases hall m o hm hdm with h4|⟨h2,h3⟩
    ·exact .inl h4
    ·rw[zj h.lsz hi]at h2;have:m≠i:=λe'=>et (by rw[e']at hm;rw[hm]at hoi;simp at hoi;rw[←hoi];exact hdm);rw[N2 this]at h2;exact .inr ⟨h2,h3⟩
   have h2:=h1.ext e k;cases x<;>first
    |exact h2
    |skip
   rename_i g p y;simp only[yA]at h2 ⊢;have hg:(a.put (zq ops i).dst v).tmps[g]? = a.tmps[g]? :=by refine hoth g λeg=>?_;obtain⟨i1,j1,oi1,oj1,a1,a2',a3,a4,a5,a6⟩:=h.opt t g p y hx;have hl:=((hall i1 oi1 a1 a3).resolve_left (by omega)).1;have hi1:i1≠i:=λe'=>et (by rw[e']at a1;rw[a1]at hoi;simp at hoi;rw[←hoi];exact a3);rw[zj h.lsz hi,N2 hi1]at hl;have hj:=h.closed i1 j1 hl a5;have:j1=i:=qg hd a2' hoi a4 eg;rw[this]at hj;have hj':y4 listed i=true:=hj;rw[hul]at hj';cases hj'
   rw[hg];exact h2
 ·intro m hm;rw[zj h.lsz hi];have hne:m≠i:=λe'=>by have:=(x8 h.ord m hm).2;exact this (e' ▸ hdone)
  rw[N2 hne];exact h.unl m hm
 ·intro m hm hml _;rw[zj h.lsz hi]at hml;split at hml
  ·cases hml
  ·rename_i hmi;exact h.pend m hm hml (λhx=>hmi (hX m hx))
 ·intro m o T hm hop hmh hml;have hne:m≠i:=λe'=>by have h1:=(yS.1 hih).2;rw[e']at hm;rw[y6 hm,hop]at h1;simp[isAllocO]at h1
  rw[zj h.lsz hi,N2 hne]at hml;obtain⟨d,h1,h2,h3⟩:=h.fresh m o T hm hop hmh hml;refine⟨d,h1,?_,h3.1.ext e,h3.2⟩;rw[hoth d λe'=>hne (qg hd hm hoi h1 e')];exact h2
 ·intro m m' o o' T T' hm hm' h1 h2 h3 h4 h5 h6 h7;have key:∀(q:Nat) oq Tq,ops[q]? = some oq->oq.op = .alloc Tq->q≠i:=λq oq Tq hq hoq e'=>by have h1:=(yS.1 hih).2;rw[e']at hq;rw[y6 hq,hoq]at h1;simp[isAllocO]at h1
  rw[zj h.lsz hi,N2 (key m o T hm h1)]at h5;rw[zj h.lsz hi,N2 (key m' o' T' hm' h2)]at h6;exact h.binj m m' o o' T T' hm hm' h1 h2 h3 h4 h5 h6 h7
end
open Go.Sx.xt renaming add'->Ih
section
variable {P:Ng}{G:Nat->OK (ON D)}{nb:Nat}{rd:OK Nat}{ops:OC Nu}{H:ON Box}{c0:Cx}{w0:N4}{Kend:ON AV->Prop}{listed:OC Bool}{a:NI}{w:N4}{c:Cx}{tm:ON AV}{done r:ON Nat}{B:Nat->Nat}{Z:Nat->Obj}
def Tl (P:Ng) (G:Nat->OK (ON D)) (nb:Nat) (ops:OC Nu) (H:ON Box) (c0:Cx) (w0:N4) (Kend:ON AV->Prop) (listed:OC Bool) (a:NI) (w:N4):Prop :=∃c tm done r B Z,Kh P G nb ops H c0 w0 Kend listed a w c tm done r B Z (λ_=>NL)/\(∀(k:Nat) o T,ops[k]? = some o->o.op = .alloc T->k<zl ops->y4 listed k=true->∃z,yo P T=some z/\Z k = .cells z.cells T (0,0))/\(∀j,zl ops<=j->y4 listed j=false)/\(r=[]∨ ∃i r',r=i::r'/\isCallV (zq ops i).op=true)
theorem s9 {o:Nu}{T:TypeId}{z:Value}(ho:o.op = .alloc T) (hz:yo P T=some z) (ev:NF->Value):(execOp ev o).run P w = .ok (.value (.pointer (some ⟨w.heap.size,0,none⟩))) { w with heap:=w.heap.push (.cells z.cells T) }:=by simp[execOp,ho,Instr.alloc,wH hz,newVar,newRow]
theorem Ext.push_free (c:Cx) (w:N4) (o:Obj) (hi:∀b o,c.I b o->b<w.heap.size) (hj:∀r,c.J r->r<w.heap.size):Nw c w c { w with heap:=w.heap.push o } where
 os:=rfl
 tape:=rfl
 output:=rfl
 isub _ _ h:=h
 jsub _ h:=h
 icell b o h:=xz (zC (hi b o h)) _ _
 jobj r h:=zC (hj r h)
 size:=by simp
 frame b hb _:=zC hb
 inew _ _ h:= .inl h
 jnew _ h:= .inl h
 fresh l b k h:= .inl ⟨l,k,h⟩
theorem HR.push_free {c:Cx}(h:HR c H w) (o:Obj):HR c H { w with heap:=w.heap.push o } where
 len:=h.len
 inj:=h.inj
 box l b k x h1 h2:=(h.box l b k x h1 h2).ext (Ext.push_free c w o h.ilt h.jlt) (Md _ _) (zC (h.lt l b k h1))
 non:=h.non
 lt l b k h1:=by have:=h.lt l b k h1;simp;omega
 ilt b o hi:=by have:=h.ilt b o hi;simp;omega
 jlt r hr:=by have:=h.jlt r hr;simp;omega
 iap:=h.iap
 jap:=h.jap
theorem Din.alloc {i:Nat}{T:TypeId}{z:Value}(hd:LC ops) (h:Kh P G nb ops H c0 w0 Kend listed a w c tm done r B Z (λ_=>NL)) (hi:i<zl ops) (hop:(zq ops i).op = .alloc T) (hz:yo P T=some z) (hul:y4 listed i=false) (hb:∀k,xr ops i k=true->y4 listed k=true): Kh P G nb ops H c0 w0 Kend (listed.setIfInBounds i true) (a.put (zq ops i).dst (.pointer (some ⟨w.heap.size,0,none⟩))) { w with heap:=w.heap.push (.cells z.cells T) } c tm done r (λk=>if k=i then w.heap.size else B k) (λk=>if k=i then .cells z.cells T (0,0)else Z k) (λ_=>NL):=by
 have hisz:i<ops.size:=MM hi (yD ops);have hoi:=zi hisz;obtain⟨_,d,hdst⟩:=hd.allocs i _ hoi hi (by rw[hop];rfl);have e:=Ext.push_free c w (.cells z.cells T) h.hr.ilt h.hr.jlt;have hoth:∀t,d≠t->(a.put (zq ops i).dst (.pointer (some ⟨w.heap.size,0,none⟩))).tmps[t]? = a.tmps[t]? :=by intro t hne;rw[hdst,yV,Kg];simp[hne]
 have hnd:∀k∈done,k≠i:=λk hk e'=>by have:=(yS.1 (h.dh k hk)).2;rw[e',hop]at this;simp[isAllocO]at this
 have hnr:∀k∈r,k≠i:=λk hk e'=>by have:=(yS.1 (x8 h.ord k hk).1).2;rw[e',hop]at this;simp[isAllocO]at this
 refine { hr:=h.hr.push_free _,gr:=h.gr.ext e,ext:=h.ext.trans e,keep:=h.keep,df:= ?_,lsz:=by simp[h.lsz],closed:=Ih h.lsz hisz h.closed hb,len:= ?_,rng:=h.rng,slot:= ?_,opt:=h.opt,v:=h.v,ord:=h.ord,dn:=h.dn,dh:=h.dh,unl:= ?_,pend:= ?_,fresh:= ?_,binj:= ?_ }
 ·rw[hdst];exact h.df.ext e
 ·rw[h.len,hdst,yV];simp
 ·intro t x u hx hu hall;have hne:d≠t:=λe'=>by have:=((hall i _ hoi (by rw[hdst,e'])).resolve_left (by omega)).2;rw[hop]at this;simp[isAllocO]at this
  rw[hoth t hne]at hu;have h1:=h.slot t x u hx hu λm o hm hdm=>by
   rcases hall m o hm hdm with h4|⟨h2,h3⟩
   ·exact .inl h4
   ·rw[zj h.lsz hisz]at h2;have:m≠i:=λe'=>by rw[e',hoi]at hm;simp at hm;rw[←hm,hdst]at hdm;simp at hdm;exact hne hdm
    rw[N2 this]at h2;exact .inr ⟨h2,h3⟩
  have h2:=h1.ext e (Md c H);cases x<;>first
   |exact h2
   |skip
  rename_i g p y;simp only[yA]at h2 ⊢;have hg:(a.put (zq ops i).dst (.pointer (some ⟨w.heap.size,0,none⟩))).tmps[g]? = a.tmps[g]? :=by
   refine hoth g λeg=>?_;obtain⟨i1,j1,oi1,oj1,a1,a2',a3,a4,a5,a6⟩:=h.opt t g p y hx;have hl:=((hall i1 oi1 a1 a3).resolve_left (by omega)).1;have hi1:i1≠i:=λe'=>by rw[e',hoi]at a1;simp at a1;rw[←a1,hdst]at a3;simp at a3;exact hne a3
   rw[zj h.lsz hisz,N2 hi1]at hl;have hj:=h.closed i1 j1 hl a5;have:j1=i:=qg hd a2' hoi a4 (by rw[hdst,eg]);rw[this]at hj;have hj':y4 listed i=true:=hj;rw[hul]at hj';cases hj'
  rw[hg];exact h2
 ·intro m hm;rw[zj h.lsz hisz,N2 (hnr m hm)];exact h.unl m hm
 ·intro m hm hml hx;rw[zj h.lsz hisz,N2 (hnd m hm)]at hml;exact h.pend m hm hml hx
 ·intro m o T' hm hop' hmh hml;by_cases e':m=i
  ·subst e';rw[hoi]at hm;simp at hm;subst hm;rw[hop]at hop';cases hop';refine⟨d,hdst,?_,?_⟩
   ·rw[hdst,yV,Kg];have hlt:d<a.tmps.size:=by have:=h.rng m _ d hoi hdst;rw[h.len]at this;exact this
    simp[hlt]
   ·simp only[if_true];refine⟨⟨by simp,by simp,λl k hl=>?_,λo ho=>?_,λhj=>?_⟩,h.ext.size⟩
    ·have:=h.hr.lt l _ k hl;omega
    ·have:=h.hr.ilt _ o ho;omega
    ·have:=h.hr.jlt _ hj;omega
  ·rw[zj h.lsz hisz,N2 e']at hml;obtain⟨d',h1,h2,h3⟩:=h.fresh m o T' hm hop' hmh hml;simp only[N2 e'];refine⟨d',h1,?_,h3.1.ext e,h3.2⟩;rw[hoth d' λe2=>e' (qg hd hm hoi h1 (by rw[hdst,e2]))];exact h2
 ·intro m m' o o' T1 T2 hm hm' h1 h2 h3 h4 h5 h6 h7;rw[zj h.lsz hisz]at h5 h6;by_cases e1:m=i<;>by_cases e2:m'=i
  ·omega
  ·rw[Nf e1,N2 e2]at h7;rw[N2 e2]at h6;obtain⟨_,_,_,h8⟩:=h.fresh m' o' T2 hm' h2 h4 h6;have:=h8.1.1;omega
  ·rw[N2 e1,Nf e2]at h7;rw[N2 e1]at h5;obtain⟨_,_,_,h8⟩:=h.fresh m o T1 hm h1 h3 h5;have:=h8.1.1;omega
  ·rw[N2 e1,N2 e2]at h7;rw[N2 e1]at h5;rw[N2 e2]at h6;exact h.binj m m' o o' T1 T2 hm hm' h1 h2 h3 h4 h5 h6 h7
theorem sy {i:Nat}{o:Nu}{K:NI->N4->Prop}{Q:Me->NI->N4->Prop}(ho:ops[i]? = some o) (hg:o.guard=none) (h:o.wpIn (wF rd) 0 P a w K Q):wpOpIn (wF rd) 0 P ops Q i K a w:=by
 unfold wpOpIn;rw[ho];simp only;have hw:L5 o (yielded ops a.tmps)=true:=by simp[L5,hg]
 rw[Nf hw];exact h
theorem Tl.step {Q:Me->NI->N4->Prop}{i:Nat}(hd:LC ops) (hal:∀(k:Nat) o T,ops[k]? = some o->o.op = .alloc T->k<zl ops->∃z,yo P T=some z) (h:Tl P G nb ops H c0 w0 Kend listed a w) (hi:i<zl ops) (hul:y4 listed i=false) (hb:∀k,xr ops i k=true->y4 listed k=true): wpOpIn (wF rd) 0 P ops Q i (λa' w'=>Tl P G nb ops H c0 w0 Kend (listed.setIfInBounds i true) a' w') a w:=by
 obtain⟨c,tm,done,r,B,Z,hD,hZ,htl,hrc⟩:=h;have hsz0:=hD.lsz;have hisz:i<ops.size:=MM hi (yD ops);have hoi:=zi hisz;have htl' :∀j,zl ops<=j->y4 (listed.setIfInBounds i true) j=false:=λj hj=>by
  rw[zj hsz0 hisz];have:j≠i:=λe'=>by omega
  rw[N2 this];exact htl j hj
 cases ha:isAllocO (zq ops i).op with
 |true =>
  cases hop:(zq ops i).op<;>rw[hop]at ha<;>simp[isAllocO]at ha
  rename_i T;obtain⟨z,hz⟩:=hal i _ T hoi hop hi;refine sy hoi (hd.allocs i _ hoi hi (by rw[hop];rfl)).1 ?_;refine⟨λ_ _=>trivial,?_⟩;rw[KO _ _ _ (by rw[hop];intro d hd;cases hd),s9 hop hz];refine⟨c,tm,done,r,_,_,hD.alloc hd hi hop hz hul hb,λk o T' hk hop' hkh hkl=>?_,htl',hrc⟩;by_cases e':k=i
  ·subst e';rw[hoi]at hk;simp at hk;rw[←hk,hop]at hop';cases hop';exact⟨z,hz,by simp⟩
  ·rw[zj hsz0 hisz,N2 e']at hkl;obtain⟨z',h1,h2⟩:=hZ k o T' hk hop' hkh hkl;exact⟨z',h1,by simp[e',h2]⟩
 |false =>
  have hZ' :∀(k:Nat) o T,ops[k]? = some o->o.op = .alloc T->k<zl ops->y4 (listed.setIfInBounds i true) k=true->∃z,yo P T=some z/\Z k = .cells z.cells T (0,0):=by
   intro k o T hk hop hkh hkl;have hne:k≠i:=λe'=>by subst e';rw[y6 hk,hop]at ha;simp[isAllocO]at ha
   rw[zj hsz0 hisz,N2 hne]at hkl;exact hZ k o T hk hop hkh hkl
  have hih:i∈tZ ops:=yS.2 ⟨hi,ha⟩;have ht:isTail (zq ops i).op=false:=tx hoi hi;have hrep:=hD.rep hb;rcases qf hD.ord i hih with hdone|hr
  ·have hp:=hD.pend i hdone hul (λh=>h);refine vZ hoi hrep ht ha hp λv w' c' av a2 hk e k hr hs=>?_;exact⟨c',tm,done,r,B,Z,hD.ran hd (λm hm=>hm.elim) hdone hul hb hk.2 e k hr hs,hZ',htl',hrc⟩
  ·rcases hrc with rfl|⟨i0,r',rfl,hcall⟩
   ·simp at hr
   ·have hi0:i=i0:=by
     rcases MU.1 hr with e|hr'
     ·exact e
     ·have hord:=hD.ord;simp only[wK,NK]at hord;have h1:=hord.1.2;simp only[hcall,K6,LF]at h1;have h2:=ND.1 h1 i hr';have h3:=hb i0 h2;have h4:=hD.unl i0 (by simp);rw[h3]at h4;cases h4
    subst hi0;have hv:=hD.v;simp only[jy]at hv;refine vZ hoi hrep ht ha (wE hv) λv w' c' av a2 hk e k hr2 hs=>?_;obtain⟨hk,hform⟩:=hk;have hDX:Kh P G nb ops H c0 w0 Kend listed a w c tm done (i::r') B Z (λm=>m=i):= { hD with pend:=λm hm hml hx=>hD.pend m hm hml (λh=>h) };have hN:=hDX.note hd hk (λg p x hx=>by obtain⟨j,hj1,hj2⟩:=hform g p x hx;exact gn hv g p ⟨j,hj1,hj2⟩) (λ_ hx=>No rfl hx);have hRan:=hN.ran hd (λm hm=>hm) (by simp) hul hb (λd hdd hlt=>by rw[xo]at hlt;rw[hdd];simp[xI,hlt]) e k hr2 hs;obtain⟨tm3,done3,r3,hD3,hrc3⟩:=hRan.advance hd;exact⟨c',tm3,done3,r3,B,Z,hD3,hZ',htl',hrc3⟩
end
open Go.Sx.Ext renaming push_free->Hk
open Go.Sx.Tl renaming step->D5
section
variable {P:Ng}{G:Nat->OK (ON D)}{nb:Nat}{rd:OK Nat}{ops:OC Nu}{H:ON Box}{c0:Cx}{w0:N4}{Kend:ON AV->Prop}{listed:OC Bool}{a:NI}{w:N4}{c:Cx}{tm:ON AV}{done r:ON Nat}{B:Nat->Nat}
theorem RA.grow {b k:Nat}{x:Box}(hl:c.ρ.length=H.length) {av:AV}{v:Value}(h:RA c H w av v):RA (c.grow b k) (H++[x]) w av v:=by
 have kp:=JE c H b k x hl;induction h with
 |d h=>exact .d h
 |@ptr l o b q T cs hH h =>
  obtain⟨⟨cs',h1⟩,h2⟩:=kp l _ hH;exact .ptr h1 (by rw[h2];exact h)
 |iptr h=>exact .iptr h
 |clo hf hc _ _ ih1 ih2=>exact .clo hf hc ih1 ih2
 |full h=>exact .full h
 |nils=>exact .nils
 |nilf=>exact .nilf
 |fsym o=>exact .fsym o
 |@vec l n sz ds a m q h hH hn he =>
  obtain⟨n',a',b',e'⟩:=kp l _ hH;refine .vec h a' (by omega) λhl=>?_;have e1:n=n':=by omega
  rcases he (by omega)with h1|⟨b,h1,h2⟩
  ·exact .inl h1
  ·exact .inr ⟨b,h1,by rw[e' e1];exact h2⟩
 |@map l b q es hH h =>
  obtain⟨⟨cs',h1⟩,h2⟩:=kp l _ hH;exact .map h1 (by rw[h2];exact h)
 |tup hl _ ih=>exact .tup hl ih
 |agg hl _ ih=>exact .agg hl ih
 |any v=>exact .any v
 |opt g p x v=>exact .opt g p x v
 |yld h1 h2=>exact .yld (yG h1) (yG h2)
 |@msl l b q sz ds hH h =>
  obtain⟨⟨ds',h1,hn⟩,h2⟩:=kp l _ hH;rw[←hn];exact .msl h1 (by rw[h2];exact h)
 |@eptr l i o b q sz ds hH h =>
  obtain⟨⟨ds',h1,hn⟩,h2⟩:=kp l _ hH;exact .eptr h1 (by rw[h2];exact h)
theorem lL.grow {T:TypeId}{b k:Nat}{ds:ON Deferred}(h:lL nb c w ds) {cs:OC Value}(hb:w.heap[b]? = some (.cells cs T (0,0))):lL nb (c.grow b k) w ds:=by
 obtain⟨h0,ms,h1,h2,h3⟩:=h;refine⟨h0,ms,h1,h2,λm hm=>?_⟩;obtain⟨a1,a2,a3,a4,a5⟩:=h3 m hm;refine⟨a1,a2,λl k' hl=>?_,a4,a5⟩;rcases zw hl with hl|⟨_,hl⟩
 ·exact a3 l k' hl
 ·simp at hl;obtain⟨rfl,_⟩:=hl;rw[a2]at hb;cases hb
theorem HR.adopt {b:Nat}{T:TypeId}{cs:OC Value}{aas:ON AV}(hR:HR c H w) (ho:po c w b (.cells cs T (0,0))) (hz:z8 (λv a=>RA c H w a v) cs.toList aas):HR (c.grow b 0) (H++[.cells T aas]) w:=by
 obtain⟨h1,h3,h4,h5,h6⟩:=ho;refine⟨by simp[Fx,hR.len],?_,?_,?_,?_,hR.ilt,hR.jlt,?_,?_⟩
 ·intro l l' b' k k' e1 e2;rcases zw e1 with f1|⟨l1,f1⟩<;>rcases zw e2 with f2|⟨l2,f2⟩
  ·exact hR.inj l l' b' k k' f1 f2
  ·simp at f2;obtain⟨rfl,_⟩:=f2;exact No f1 (h4 l k)
  ·simp at f1;obtain⟨rfl,_⟩:=f1;exact No f2 (h4 l' k')
  ·omega
 ·intro l b' k y e1 e2;rcases zw e1 with e1|⟨l1,e1⟩
  ·rcases zw e2 with e2|⟨l2,e2⟩
   ·have h7:=hR.box l b' k y e1 e2;cases y with
    |cells T' cs=>obtain⟨vs,h8,h9⟩:=h7;exact⟨vs,h8,h9.mono λ_ _ h=>h.grow hR.len⟩
    |map es=>exact h7
    |vec n sz=>exact h7
    |dead=>trivial
    |arr sz ds=>exact h7
    |loop tm ps asn bd pend st=>obtain⟨r,h8,h9,h10,h11,h12,h13,h14⟩:=h7;exact⟨r,h8,h9,h10,h11,h12,h13,h14.mono λ_ _ h=>h.grow hR.len⟩
   ·have:=hR.len;rw[My (by omega)]at e1;simp at e1
  ·rcases zw e2 with e2|⟨l2,e2⟩
   ·have:=hR.len;rw[My (by omega)]at e2;simp at e2
   ·simp at e1;obtain⟨rfl,rfl⟩:=e1;subst e2;exact⟨cs.toList,by simpa using h3,hz.mono λ_ _ h=>h.grow hR.len⟩
 ·intro l y e1 e2;rcases zw e1 with e1|⟨l1,e1⟩
  ·rcases zw e2 with e2|⟨l2,e2⟩
   ·exact hR.non l y e1 e2
   ·have:=hR.len;rw[My (by omega)]at e1;simp at e1
  ·simp at e1
 ·intro l b' k e1;rcases zw e1 with e1|⟨l1,e1⟩
  ·exact hR.lt l b' k e1
  ·simp at e1;omega
 ·intro b' o l k hi e1;rcases zw e1 with e1|⟨l1,e1⟩
  ·obtain⟨n,sz,h8,h9⟩:=hR.iap b' o l k hi e1;exact⟨n,sz,yG h8,h9⟩
  ·simp at e1;obtain⟨rfl,_⟩:=e1;exact No hi (h5 o)
 ·intro r' l k hr e1;rcases zw e1 with e1|⟨l1,e1⟩
  ·exact hR.jap r' l k hr e1
  ·simp at e1;obtain⟨rfl,_⟩:=e1;exact h6 hr
structure Left (P:Ng) (G:Nat->OK (ON D)) (nb:Nat) (ops:OC Nu) (H:ON Box) (c0:Cx) (w0:N4) (a:NI) (w:N4) (C:Nat->TypeId->OK (ON AV)) (B:Nat->Nat) (l:ON Nat) (tm:ON AV) (H':ON Box) (c:Cx):Prop where
 hr:HR c H' w
 gr:GR G c w
 ext:Nw c0 w0 c w
 keep:zp c0 H c H'
 df:lL nb c w a.defers
 len:tm.length=a.tmps.size
 no:∀g p x,JA g p x∉tm
 slot:∀(t:Nat) x v,tm[t]? = some x->a.tmps[t]? = some v->(∀i∈l,(zq ops i).dst≠some t)->RA c H' w x v
 own:∀i∈l,∃T d,(zq ops i).op = .alloc T/\(zq ops i).dst=some d/\a.tmps[d]? = some (.pointer (some ⟨B i,0,none⟩))/\(∃cs aas,po c w (B i) (.cells cs T (0,0))/\C i T=some aas/\z8 (λv a=>RA c H' w a v) cs.toList aas)/\w0.heap.size<=B i
 nd:l.Nodup
 inj:∀i∈l,∀j∈l,B i=B j->i=j
theorem uO {C:Nat->TypeId->OK (ON AV)}{K:ON AV->ON Box->Prop}{S:ON Nat}(hsz:∀(k:Nat),k∈S->k<ops.size):∀(l:ON Nat) (tm:ON AV) (H':ON Box) (c:Cx),(∀i∈l,i∈S)->Left P G nb ops H c0 w0 a w C B l tm H' c->tz ops C l tm H' K->∃tm2 H2 c2,K tm2 H2/\M5 G nb c2 H2 w tm2 a/\Nw c0 w0 c2 w/\zp c0 H c2 H2
 |[],tm,H',c,_,h,hk=>by
  refine⟨tm,H',c,hk,⟨h.hr,h.gr,⟨by rw[h.len];simp,λt v x hv hx=>?_⟩,h.df⟩,h.ext,h.keep⟩;simp only[KA]at hv;have:=h.slot t x v hx hv (by simp);cases x<;>first
   |exact this
   |exact No (MX hx) (h.no _ _ _)
 |i::l,tm,H',c,hal,h,hk=>by
  obtain⟨T,d,hop,hdst,htmp,⟨cs,aas,hown,hC,hcs⟩,hge⟩:=h.own i (by simp);simp only[tz,hop,hC]at hk
  ·have hR2:=h.hr.adopt hown hcs;have hnd:=KZ.1 h.nd;refine uO hsz l _ _ (c.grow (B i) 0) (λk hk=>hal k (by simp[hk])) ?_ hk;have hoi:=zi (hsz i (hal i (by simp)));refine { hr:=hR2,gr:= ?_,ext:= ?_,keep:= ?_,df:=h.df.grow hown.2.1,len:=by rw[xo];exact h.len,no:= ?_,slot:= ?_,own:= ?_,nd:=hnd.2,inj:=λp hp q hq=>h.inj p (by simp[hp]) q (by simp[hq]) }
   ·exact h.gr
   ·refine⟨h.ext.os,h.ext.tape,h.ext.output,h.ext.isub,h.ext.jsub,h.ext.icell,h.ext.jobj,h.ext.size,h.ext.frame,h.ext.inew,h.ext.jnew,λl' b k hl=>?_⟩;rcases zw hl with hl|⟨_,hl⟩
    ·exact h.ext.fresh l' b k hl
    ·simp at hl;right;omega
   ·intro l' x hx;have h1:=h.keep l' x hx;have kp:=JE c H' (B i) 0 (.cells T aas) h.hr.len;cases x with
    |vec m sz =>
     obtain⟨m',a1,b1,e1⟩:=h1;obtain⟨m'',a2,b2,e2⟩:=kp l' _ a1;exact⟨m'',a2,KG b1 b2,λhe=>by
      have x1:m=m':=by omega
      have x2:m'=m'':=by omega
      rw[e2 x2,e1 x1]⟩
    |dead=>trivial
    |arr sz ds =>
     obtain⟨⟨ds',a1,n1⟩,e1⟩:=h1;obtain⟨⟨ds'',a2,n2⟩,e2⟩:=kp l' _ a1;exact⟨⟨ds'',a2,n2.trans n1⟩,by rw[e2,e1]⟩
    |cells T' cs =>
     obtain⟨⟨cs',a1⟩,e1⟩:=h1;obtain⟨⟨cs'',a2⟩,e2⟩:=kp l' _ a1;exact⟨⟨cs'',a2⟩,by rw[e2,e1]⟩
    |map es =>
     obtain⟨⟨cs',a1⟩,e1⟩:=h1;obtain⟨⟨cs'',a2⟩,e2⟩:=kp l' _ a1;exact⟨⟨cs'',a2⟩,by rw[e2,e1]⟩
    |loop tm ps asn bd pend st =>
     obtain⟨⟨p1,s1,a1⟩,e1⟩:=h1;obtain⟨⟨p2,s2,a2⟩,e2⟩:=kp l' _ a1;exact⟨⟨p2,s2,a2⟩,by rw[e2,e1]⟩
   ·intro g p x hm;rw[hdst]at hm;simp only[xI]at hm;rcases Di hm with hm|hm
    ·exact h.no g p x hm
    ·cases hm
   ·intro t x v hx hv hall;by_cases e:d=t
    ·subst e;rw[hdst]at hx;simp only[xI]at hx;rw[LQ]at hx;simp only[if_true]at hx;split at hx
     ·simp at hx;subst hx;rw[htmp]at hv;simp at hv;subst hv;refine .ptr (T:=T) (cs:=aas) (k:=0) (by simp) ?_;have:(c.grow (B i) 0).ρ=c.ρ++[some (B i,0)]:=rfl;rw[this,←h.hr.len];simp
     ·simp at hx
    ·rw[vX (by rw[hdst];simpa using e)]at hx;refine(h.slot t x v hx hv λk hk=>?_).grow h.hr.len;rcases MU.1 hk with rfl|hk
     ·rw[hdst];simpa using e
     ·exact hall k hk
   ·intro k hk;obtain⟨T',d',p1,p2,p3,p4,p5⟩:=h.own k (by simp[hk]);obtain⟨cs',aas',p4,p6,p7⟩:=p4;refine⟨T',d',p1,p2,p3,⟨cs',aas',⟨p4.1,p4.2.1,λl' q hl=>?_,p4.2.2.2.1,p4.2.2.2.2⟩,p6,p7.mono λ_ _ h'=>h'.grow h.hr.len⟩,p5⟩;rcases zw hl with hl|⟨_,hl⟩
    ·exact p4.2.2.1 l' q hl
    ·simp at hl;have:=h.inj k (by simp[hk]) i (by simp) hl.1;exact hnd.1 (this ▸ hk)
end
theorem wD {p q:Nat->Bool}{i:Nat}:∀(l:ON Nat),(∀k,q k=true->p k=true)->p i=true->q i=false->i∈l->l.countP q+1<=l.countP p
 |[],_,_,_,h=>by simp at h
 |x::l,h1,h2,h3,hm=>by
  have mono:l.countP q<=l.countP p:=ON.countP_mono_left λk _ hk=>h1 k hk;rcases MU.1 hm with rfl|hm
  ·rw[ON.countP_cons_of_neg (by rw[h3];simp),ON.countP_cons_of_pos h2];omega
  ·have ih:=wD l h1 h2 h3 hm;rw[G4,G4];by_cases hq:q x=true
   ·simp[hq,h1 x hq];omega
   ·simp only[hq];by_cases hp:p x=true
    ·simp[hp];omega
    ·simp[hp];omega
theorem ry {p:Nat->Bool}(j:Nat):∀n,(∀k,j<=k->k<n->p k=true)->n - j<=(Mq n).countP p
 |0,_=>by simp
 |n+1,h=>by
  have ih:=ry j n λk h1 h2=>h k h1 (by omega);rw[ON.range_succ,ON.countP_append];by_cases hj:j<=n
  ·have:=h n hj (by omega);simp[this];omega
  ·omega
section
variable {P:Ng}{G:Nat->OK (ON D)}{nb:Nat}{rd:OK Nat}{ops:OC Nu}{Q:Me->NI->N4->Prop}
def wC (ops:OC Nu) (listed:OC Bool):Nat:=(Mq ops.size).countP λi=>!y4 listed i
theorem zE {listed:OC Bool}{i:Nat}(hs:listed.size=ops.size):i∈K8 .any ops listed↔ ∃o,ops[i]? = some o/\y4 listed i=false/\∀e∈o.after.toList,Kp .any e=true->y4 listed e.on=true:=by
 simp only[K8,Lh,Lp,NK,Lc];constructor
 ·rintro⟨hi,h1,h2⟩;have ho:=zi hi;rw[ho]at h2;simp only[Ly,Li]at h2;refine⟨_,ho,?_,λe he hb=>?_⟩
  ·unfold y4;rw[Lk]at h1 ⊢;have:i<listed.size:=by omega
   simp[this]at h1 ⊢;exact h1
  ·have:=(Fa.1 h2) e (by simpa using he);simp only[hb,K6,LF]at this;exact this
 ·rintro⟨o,ho,h1,h2⟩;have hi:=zO ho;refine⟨hi,?_,?_⟩
  ·unfold y4 at h1;rw[Lk]at h1 ⊢;have:i<listed.size:=by omega
   simp[this]at h1 ⊢;exact h1
  ·rw[ho];simp only[Ly,Li];refine Fa.2 λe he=>?_;by_cases hb:Kp .any e=true
   ·have:=h2 e (by simpa using he) hb;simp only[hb,K6,LF];exact this
   ·simp[hb]
theorem jx {K:ON AV->ON Box->Prop}(hed:∀j o,ops[j]? = some o->∀e∈o.after.toList,Kp .any e=true->e.on<j) {hn:Nat}(htl:∀j,j<ops.size->hn<=j->∀i,hn<=i->i<j->xr ops j i=true):∀(fuel j:Nat) (listed:OC Bool) (c:Cx) (H:ON Box) (w:N4) (tm:ON AV) (a:NI),hn<=j->j<=ops.size->listed.size=ops.size->(∀k,k<ops.size->(y4 listed k=true↔k<j))->xt ops listed->ops.size - j<=fuel->M5 G nb c H w tm a->t8 P G ops (ops.toList.drop j) tm H K->(∀a' w' c' tm' H',K tm' H'->M5 G nb c' H' w' tm' a'->Nw c w c' w'->zp c H c' H'->Q .normal a' w')->wpAnyIn (wF rd) 0 P .any ops Q fuel listed a w:=by
 intro fuel;induction fuel with
 |zero =>
  intro j listed c H w tm a hj hjs hs hl hcl hf hR h hq;have e:j=ops.size:=by omega
  subst e;have hd0:ops.toList.drop ops.size=[]:=Ls (by simp);rw[hd0]at h;refine⟨HH.2 λi hi=>?_,hq a w c tm H h hR (L7 _ _) (Md _ _)⟩;obtain⟨o,ho,h1,_⟩:=(zE hs).1 hi;have:=(hl i (zO ho)).2 (zO ho);rw[h1]at this;cases this
 |succ fuel ih =>
  intro j listed c H w tm a hj hjs hs hl hcl hf hR h hq;rcases M0 j ops.size with hlt|hge
  ·have hoj:=zi hlt;have hjr:j∈K8 .any ops listed:=(zE hs).2 ⟨_,hoj,by
    cases hx:y4 listed j with
    |false=>rfl
    |true=>exact No ((hl j hlt).1 hx) (JW _),λe he hb=>by
    have:=hed j _ hoj e he hb;exact(hl e.on (by omega)).2 this⟩
   refine⟨λh0=>by rw[h0]at hjr;simp at hjr,λi hi=>?_⟩;obtain⟨o,ho,h1,h2⟩:=(zE hs).1 hi;have hij:i=j:=by
    rcases FD i j with h3|h3|h3
    ·have:=(hl i (zO ho)).2 h3;rw[h1]at this;cases this
    ·exact h3
    ·have hb:=htl i (zO ho) (by omega) j hj h3;have:=wr hcl ho hi j hb;exact No ((hl j hlt).1 this) (JW _)
   subst hij;have hdrop:ops.toList.drop i=zq ops i::ops.toList.drop (i+1):=by
    have hlt':i<ops.toList.length:=by simpa using hlt
    rw[ON.drop_eq_getElem_cons hlt'];congr 1;simp[zq,Lk,hlt]
   rw[hdrop]at h;have hb:∀k,xr ops i k=true->y4 listed k=true:=wr hcl ho hi;refine j8 hoj hR h ?_;intro a' w' c' tm' H' hk hR' e k;refine ih (i+1) (listed.setIfInBounds i true) c' H' w' tm' a' (by omega) (by omega) (by simp[hs]) (λm hm=>?_) (Ih hs hlt hcl hb) (by omega) hR' hk λa2 w2 c2 tm2 H2 hk2 hR2 e2 k2=>hq a2 w2 c2 tm2 H2 hk2 hR2 (e.trans e2) (k.trans k2);rw[zj hs hlt];by_cases e':m=i
   ·simp[e']
   ·simp only[N2 e'];rw[hl m hm];omega
  ·have e:j=ops.size:=by omega
   subst e;have hd0:ops.toList.drop ops.size=[]:=Ls (by simp);rw[hd0]at h;refine⟨λ_=>hq a w c tm H h hR (L7 _ _) (Md _ _),λi hi=>?_⟩;obtain⟨o,ho,h1,_⟩:=(zE hs).1 hi;have:=(hl i (zO ho)).2 (zO ho);rw[h1]at this;cases this
theorem ru {H:ON Box}{c0:Cx}{w0:N4}{K:ON AV->ON Box->Prop}{fuel:Nat}{listed:OC Bool}{a:NI}{w:N4}(hd:LC ops) (hdt:∀j,j<ops.size->zl ops<=j->∀i,zl ops<=i->i<j->xr ops j i=true) (hq:∀a' w' c' tm' H',K tm' H'->M5 G nb c' H' w' tm' a'->Nw c0 w0 c' w'->zp c0 H c' H'->Q .normal a' w') (hf:wC ops listed<=fuel) (hall:∀i,i<zl ops->y4 listed i=true) (hM:Tl P G nb ops H c0 w0 (λtm1=>x7 P ops (zU ops) (za tm1) H λtm2 H2=>t8 P G ops (ops.toList.drop (zl ops)) tm2 H2 K) listed a w):wpAnyIn (wF rd) 0 P .any ops Q fuel listed a w:=by
 obtain⟨c,tm,done,r,B,Z,hD,hZ,htl,hrc⟩:=hM;have hr:r=[]:=by
  rcases hrc with h|⟨i,r',rfl,_⟩
  ·exact h
  ·have h1:=hD.unl i (by simp);have h2:=hall i (yS.1 (x8 hD.ord i (by simp)).1).1;rw[h2]at h1;cases h1
 subst hr;have hk:=hD.v;simp only[jy]at hk;have hsz:∀k,k∈zU ops->k<ops.size:=λk hk=>by simp only[zU,Lh,Lp]at hk;exact MM hk.1 (yD ops)
 have hown:∀i∈zU ops,∃T d,(zq ops i).op = .alloc T/\(zq ops i).dst=some d/\a.tmps[d]? = some (.pointer (some ⟨B i,0,none⟩))/\(∃cs aas,po c w (B i) (.cells cs T (0,0))/\oN P T=some aas/\z8 (λv a=>RA c H w a v) cs.toList aas)/\w0.heap.size<=B i:=by
  intro i hi;simp only[zU,Lh,Lp]at hi;cases hop:(zq ops i).op<;>rw[hop]at hi<;>simp[isAllocO]at hi
  rename_i T;obtain⟨d,h1,h2,h3,h4⟩:=hD.fresh i _ T (zi (MM hi (yD ops))) hop hi (hall i hi);obtain⟨z,hz,hzi⟩:=hZ i _ T (zi (MM hi (yD ops))) hop hi (hall i hi);rw[hzi]at h3;exact⟨T,d,rfl,h1,h2,⟨_,_,h3,by simp[oN,hz],Ii _⟩,h4⟩
 have hLeft:Left P G nb ops H c0 w0 a w (λ_ T=>oN P T) B (zU ops) (za tm) H c:=by
  refine { hr:=hD.hr,gr:=hD.gr,ext:=hD.ext,keep:=hD.keep,df:=hD.df,len:=by simp[za,hD.len],no:= ?_,slot:= ?_,own:=hown,nd:= ?_,inj:= ?_ }
  ·intro g p x hm;simp only[za,Mj]at hm;obtain⟨y,_,hy⟩:=hm;cases y<;>simp[dull]at hy
  ·intro t x v hx hv hno;simp only[za,M6]at hx;cases hy:tm[t]? with
   |none=>rw[hy]at hx;simp at hx
   |some y =>
    rw[hy]at hx;simp at hx;subst hx;have hs:=hD.slot t y v hy hv λk o hk hdk=>by
     rcases M0 k (zl ops)with h1|h1
     ·right;refine⟨hall k h1,?_⟩;cases ha:isAllocO o.op with
      |false=>rfl
      |true =>
       have hka:k∈zU ops:=by simp only[zU,Lh,Lp];exact⟨h1,by rw[y6 hk];exact ha⟩
       exact No (by rw[y6 hk];exact hdk) (hno k hka)
     ·exact .inl h1
    cases y<;>first
     |exact hs
     |exact Jx v
  ·exact FM (FP) (E5)
  ·intro i hi j hj hB;have hi':=hi;have hj':=hj;simp only[zU,Lh,Lp]at hi' hj';obtain⟨T,d,o1,_⟩:=hown i hi;obtain⟨T',d',o2,_⟩:=hown j hj;exact hD.binj i j _ _ T T' (zi (hsz i hi)) (zi (hsz j hj)) o1 o2 hi'.1 hj'.1 (hall i hi'.1) (hall j hj'.1) hB
 obtain⟨tm2,H2,c2,hk2,hR2,he2,hkp2⟩:=uO hsz (zU ops) (za tm) H c (λ_ h=>h) hLeft hk;refine jx hd.edges hdt fuel (zl ops) listed c2 H2 w tm2 a (MS _) (yD ops) hD.lsz (λk hk=>⟨λh=>?_,λh=>hall k h⟩) hD.closed ?_ hR2 hk2 λa' w' c' tm' H' hk' hR' e k=>hq a' w' c' tm' H' hk' hR' (he2.trans e) (hkp2.trans k)
 ·rcases M0 k (zl ops)with h1|h1
  ·exact h1
  ·have:=htl k h1;rw[h]at this;cases this
 ·refine KG (ry (zl ops) ops.size λk h1 _=>?_) hf;rw[htl k h1];rfl
theorem xn {listed:OC Bool}:∀n,(∃i,i<n/\y4 listed i=false)->∃i,i<n/\y4 listed i=false/\∀k,k<i->y4 listed k=true
 |0,⟨i,hi,_⟩=>by omega
 |n+1,⟨i,hi,h⟩=>by
  by_cases hex:∃i,i<n/\y4 listed i=false
  ·obtain⟨j,h1,h2,h3⟩:=xn n hex;exact⟨j,by omega,h2,h3⟩
  ·have hin:i=n:=by
    rcases M0 i n with h1|h1
    ·exact No ⟨i,h1,h⟩ hex
    ·omega
   subst hin;refine⟨i,hi,h,λk hk=>?_⟩;cases hx:y4 listed k with
   |true=>rfl
   |false=>exact No ⟨k,hk,hx⟩ hex
theorem TX {H:ON Box}{c0:Cx}{w0:N4}{K:ON AV->ON Box->Prop}(hd:LC ops) (hdt:∀j,j<ops.size->zl ops<=j->∀i,i<j->xr ops j i=true) (hal:∀(k:Nat) o T,ops[k]? = some o->o.op = .alloc T->k<zl ops->∃z,yo P T=some z) (hq:∀a' w' c' tm' H',K tm' H'->M5 G nb c' H' w' tm' a'->Nw c0 w0 c' w'->zp c0 H c' H'->Q .normal a' w'):∀(fuel:Nat) (listed:OC Bool) (a:NI) (w:N4),wC ops listed<=fuel->Tl P G nb ops H c0 w0 (λtm1=>x7 P ops (zU ops) (za tm1) H λtm2 H2=>t8 P G ops (ops.toList.drop (zl ops)) tm2 H2 K) listed a w->wpAnyIn (wF rd) 0 P .any ops Q fuel listed a w:=by
 intro fuel;induction fuel with
 |zero =>
  intro listed a w hf hM;refine ru hd (λj hj hh i _ hi=>hdt j hj hh i hi) hq hf (λi hi=>?_) hM;cases hx:y4 listed i with
  |true=>rfl
  |false =>
   have:0<wC ops listed:=Hw.2 ⟨i,by simp;exact MM hi (yD ops),by simp[hx]⟩;omega
 |succ fuel ih =>
  intro listed a w hf hM;by_cases hall:∀i,i<zl ops->y4 listed i=true
  ·exact ru hd (λj hj hh i _ hi=>hdt j hj hh i hi) hq hf hall hM
  ·have hex:∃i,i<zl ops/\y4 listed i=false:=by
    rcases KN (∃i,i<zl ops/\y4 listed i=false)with h|h
    ·exact h
    ·exact No (λi hi=>by
      cases hx:y4 listed i with
      |true=>rfl
      |false=>exact No ⟨i,hi,hx⟩ h) hall
   obtain⟨i0,h1,h2,h3⟩:=xn (zl ops) hex;have hlsz:listed.size=ops.size:=by obtain⟨_,_,_,_,_,_,hD,_⟩:=hM;exact hD.lsz
   have hcl:xt ops listed:=by obtain⟨_,_,_,_,_,_,hD,_⟩:=hM;exact hD.closed
   have hi0:i0<ops.size:=MM h1 (yD ops);have hready:i0∈K8 .any ops listed:=(zE hlsz).2 ⟨_,zi hi0,h2,λe he hb=>h3 _ (hd.edges i0 _ (zi hi0) e he hb)⟩;refine⟨λh0=>by rw[h0]at hready;simp at hready,λi hi=>?_⟩;obtain⟨o,ho,hul,_⟩:=(zE hlsz).1 hi;have hb:∀k,xr ops i k=true->y4 listed k=true:=wr hcl ho hi;have hisz:=zO ho;have hih:i<zl ops:=by
    rcases M0 i (zl ops)with h|h
    ·exact h
    ·exact No (λk hk=>hb k (hdt i hisz h k (by omega))) hall
   refine wpOpIn_mono (λa' w' hM'=>ih _ a' w' ?_ hM') (D5 hd hal hM hih hul hb);have hdec:wC ops (listed.setIfInBounds i true)+1<=wC ops listed:=wD (p:=λk=>!y4 listed k) (q:=λk=>!y4 (listed.setIfInBounds i true) k) (i:=i) (Mq ops.size) (λk hk=>by
    rw[zj hlsz hisz]at hk;split at hk
    ·simp at hk
    ·exact hk) (by simp[hul]) (by rw[zj hlsz hisz];simp) (by simpa using hisz)
   omega
theorem gm {c:Cx}{H:ON Box}{w:N4}{tm:ON AV}{a:NI}{K:ON AV->ON Box->Prop}(hR:M5 G nb c H w tm a) (h:Yj P G ops tm H K) (hq:∀a' w' c' tm' H',K tm' H'->M5 G nb c' H' w' tm' a'->Nw c w c' w'->zp c H c' H'->Q .normal a' w'):wpAnyIn (wF rd) 0 P .any ops Q ops.size (Mb ops.size false) a { w with drawn:=w.drawn+1 }:=by
 unfold Yj at h;split at h
 ·rename_i hok;simp only[NK]at hok;obtain⟨⟨⟨hok,hno⟩,hrng⟩,halz⟩:=hok;have hd:=cI hok;have hdt:=fN hok;have hal:∀(k:Nat) o T,ops[k]? = some o->o.op = .alloc T->k<zl ops->∃z,yo P T=some z:=by intro k o T hk hop _;have:=ND.1 halz o (by simpa using JN hk);rw[hop]at this;exact Jg.1 this
  have hlst:∀k,y4 (Mb ops.size false) k=false:=by
   intro k;unfold y4;rw[Lk];by_cases hk:k<ops.size
   ·simp[hk]
   ·simp[I7 (show(Mb ops.size false).size<=k by simpa using hk)]
  have hnoopt:∀g p x,JA g p x∉tm:=λg p x hx=>by have:=ND.1 hno _ hx;simp[noOptB]at this
  have hD:Kh P G nb ops H c w (λtm1=>x7 P ops (zU ops) (za tm1) H λtm2 H2=>t8 P G ops (ops.toList.drop (zl ops)) tm2 H2 K) (Mb ops.size false) a { w with drawn:=w.drawn+1 } c tm [] (pp ops) (λ_=>0) (λ_=>.cells #[] 0 (0,0)) (λ_=>NL):=by
   refine { hr:=hR.hr.drew _,gr:=hR.gr.ext (LY c w _),ext:=LY c w _,keep:=Md _ _,df:=hR.df.ext (LY c w _),lsz:=by simp,closed:= ?_,len:= ?_,rng:= ?_,slot:= ?_,opt:= ?_,v:=h,ord:=hd.ord,dn:= ?_,dh:= ?_,unl:=λi _=>hlst i,pend:= ?_,fresh:= ?_,binj:= ?_ }
   ·intro j i hj _;have:y4 (Mb ops.size false) j=true:=hj;rw[hlst]at this;cases this
   ·have:=hR.tm.1;simpa using this.symm
   ·intro k o d hk hdk;have:=ND.1 hrng o (by simpa using JN hk);rw[hdk]at this;simpa using this
   ·intro t x v hx hv _;have:=hR.tm.2 t v x (by simpa using hv) hx;exact this.ext (LY c w _) (Md _ _)
   ·intro t g p x hx;exact No (MX hx) (hnoopt g p x)
   ·intro k hk;simp at hk
   ·intro k hk;simp at hk
   ·intro k hk;simp at hk
   ·intro i o T _ _ _ hl;rw[hlst]at hl;cases hl
   ·intro i i' o o' T T' _ _ _ _ _ _ hl;rw[hlst]at hl;cases hl
  obtain⟨tm',done',r',hD',hrc⟩:=hD.advance hd;refine TX hd hdt hal hq ops.size _ a _ ?_ ⟨c,tm',done',r',_,_,hD',(λk o T _ _ _ hl=>by rw[hlst]at hl;cases hl),(λj _=>hlst j),hrc⟩;have:=IY (p:=λi=>!y4 (Mb ops.size false) i) (l:=Mq ops.size);simpa[wC]using this
 ·exact h.elim
theorem cH {id:Nat}{c:Cx}{H:ON Box}{w:N4}{tm:ON AV}{a:NI}{K:ON AV->ON Box->Prop}(hm:P.follows .mixedOrders=true) (hR:M5 G nb c H w tm a) (h:Yj P G ops tm H K) (hq:∀a' w' c' tm' H',K tm' H'->M5 G nb c' H' w' tm' a'->Nw c w c' w'->zp c H c' H'->Q .normal a' w'):(Ge id ops true).wpIn (wF rd) 0 P Q a w:=wpIn_region_any hm (gm hR h hq)
end
section
variable {P:Ng}{G:Nat->OK (ON D)}{nb:Nat}{c:Cx}{H:ON Box}{w:N4}{tm:ON AV}{a:NI}
theorem RA.world {w1:N4}(e:∀v x,R1 c.I c.J w v x->R1 c.I c.J w1 v x) (ei:∀b o,c.I b o->w1.cell? ⟨b,o,none⟩=w.cell? ⟨b,o,none⟩) {av:AV}{v:Value}(h:RA c H w av v):RA c H w1 av v:=by
 induction h with
 |@d x v h =>
  refine .d ?_;cases x<;>simp only[RV]at h ⊢ <;> first
   |exact e _ _ h
   |(obtain⟨vs,rfl,hv⟩:=h;exact⟨vs,rfl,hv.mono λ_ _=>e _ _⟩)
 |ptr hH h=>exact .ptr hH h
 |iptr h=>exact .iptr λj x hx=>⟨(h j x hx).1,by obtain⟨hi,v,hv,hr⟩:=h j x hx;exact⟨v,by rw[ei _ _ hi];exact hv,e _ _ hr⟩⟩
 |clo hf hc _ _ ih1 ih2=>exact .clo hf hc ih1 ih2
 |full h=>exact .full (e _ _ h)
 |nils=>exact .nils
 |nilf=>exact .nilf
 |fsym o=>exact .fsym o
 |vec h hH hn he=>exact .vec (e _ _ h) hH hn he
 |map hH h=>exact .map hH h
 |tup hl _ ih=>exact .tup hl ih
 |agg hl _ ih=>exact .agg hl ih
 |any v=>exact .any v
 |opt g p x v=>exact .opt g p x v
 |yld hH h=>exact .yld hH h
 |msl hH h=>exact .msl hH h
 |eptr hH h=>exact .eptr hH h
theorem R1.world {w1:N4}(hi:∀b o,c.I b o->w1.cell? ⟨b,o,none⟩=w.cell? ⟨b,o,none⟩) (hj:∀r,c.J r->w1.heap[r]? = w.heap[r]?) {v:Value}{x:D}(h:R1 c.I c.J w v x):R1 c.I c.J w1 v x:=by
 induction h with
 |int k n=>exact .int k n
 |bool b=>exact .bool b
 |str s=>exact .str s
 |fn f=>exact .fn f
 |nil=>exact .nil
 |emp a cap=>exact .emp a cap
 |sl b off cap sz ds vals hsz hc hr hcap ih =>
  exact .sl b off cap sz ds vals hsz (λi j d hd=>⟨(hc i j d hd).1,by rw[hi _ _ (hc i j d hd).1];exact(hc i j d hd).2⟩) ih hcap
 |gmap r ents clk es hJ hw hlen hk hv ihk ihv=>exact .gmap r ents clk es hJ (by rw[hj _ hJ];exact hw) hlen ihk ihv
theorem RV.world {w1:N4}(e:∀v x,R1 c.I c.J w v x->R1 c.I c.J w1 v x) {v:Value}{x:D}(h:RV c.I c.J w v x):RV c.I c.J w1 v x:=by
 cases x<;>simp only[RV]at h ⊢ <;> first
  |exact e _ _ h
  |(obtain⟨vs,rfl,hv⟩:=h;exact⟨vs,rfl,hv.mono λ_ _=>e _ _⟩)
structure Aside' (c:Cx) (w w1:N4) (m:Nat):Prop where
 os:w1.os=w.os
 tape:w1.tape=w.tape
 output:w1.output=w.output
 size:w1.heap.size=w.heap.size
 other:∀b,b≠m->w1.heap[b]? = w.heap[b]?
 nρ:∀l k:Nat,c.ρ[l]? ≠ some (some (m,k))
 nI:∀o,¬ c.I m o
 nJ:¬ c.J m
theorem Aside'.icell {m:Nat}{w1:N4}(h:Aside' c w w1 m):∀b o,c.I b o->w1.cell? ⟨b,o,none⟩=w.cell? ⟨b,o,none⟩:=λb o hi=>by have:b≠m:=λe=>h.nI o (e ▸ hi);simp[Ko,h.other b this]
theorem Aside'.jobj {m:Nat}{w1:N4}(h:Aside' c w w1 m):∀r,c.J r->w1.heap[r]? = w.heap[r]? :=λr hr=>h.other r λe=>h.nJ (e ▸ hr)
theorem Aside'.r1 {m:Nat}{w1:N4}(h:Aside' c w w1 m):∀v x,R1 c.I c.J w v x->R1 c.I c.J w1 v x:=λ_ _ hr=>hr.world h.icell h.jobj
theorem Aside'.ra {m:Nat}{w1:N4}(h:Aside' c w w1 m) {av:AV}{v:Value}(hr:RA c H w av v):RA c H w1 av v:=hr.world h.r1 h.icell
theorem Aside'.hr {m:Nat}{w1:N4}(h:Aside' c w w1 m) (hR:HR c H w):HR c H w1 where
 len:=hR.len
 inj:=hR.inj
 box l b k x h1 h2:=by
  have hb:w1.heap[b]? = w.heap[b]? :=h.other b λe=>h.nρ l k (e ▸ h1);have h3:=hR.box l b k x h1 h2;cases x with
  |cells T cs=>obtain⟨vs,h4,h5⟩:=h3;exact⟨vs,by rw[hb];exact h4,h5.mono λ_ _ hx=>h.ra hx⟩
  |map es=>obtain⟨en,clk,h4,h5⟩:=h3;exact⟨en,clk,by rw[hb];exact h4,h5.mono λ_ _ hx=>⟨hx.1.world h.r1,hx.2.world h.r1⟩⟩
  |vec n sz=>obtain⟨vs,T,h4,h5⟩:=h3;exact⟨vs,T,by rw[hb];exact h4,h5⟩
  |dead=>trivial
  |arr sz ds=>obtain⟨vs,T,h4,h5,h6⟩:=h3;exact⟨vs,T,by rw[hb];exact h4,h5,h6.mono λ_ _ hx=>h.r1 _ _ hx⟩
  |loop tm ps asn bd pend st=>obtain⟨r,h4,h5,h6,h7,h8,h9,h10⟩:=h3;exact⟨r,by rw[hb];exact h4,h5,h6,h7,h8,h9,h10.mono λ_ _ hx=>h.ra hx⟩
 non:=hR.non
 lt l b k h1:=by rw[h.size];exact hR.lt l b k h1
 ilt b o hi:=by rw[h.size];exact hR.ilt b o hi
 jlt r hr:=by rw[h.size];exact hR.jlt r hr
 iap:=hR.iap
 jap:=hR.jap
theorem Aside'.gr {m:Nat}{w1:N4}(h:Aside' c w w1 m) (hG:GR G c w):GR G c w1:=by intro g cs hg j y hy;obtain⟨h1,v,h2,h3⟩:=hG g cs hg j y hy;exact⟨h1,v,by rw[h.icell _ _ h1];exact h2,h.r1 _ _ h3⟩
theorem Aside'.slots {m:Nat}{w1:N4}(h:Aside' c w w1 m) (hT:Tc c H w a.tmps tm):Tc c H w1 a.tmps tm:=hT.mono λv x hx=>by
 cases x<;>simp only[yA]at hx ⊢ <;> first
  |exact h.ra hx
  |exact⟨λhg=>h.ra (hx.1 hg),hx.2⟩
theorem Aside'.ext {c0:Cx}{w0:N4}{m:Nat}{w1:N4}(h:Aside' c w w1 m) (e:Nw c0 w0 c w) (hm:w0.heap.size<=m):Nw c0 w0 c w1 where
 os:=h.os.trans e.os
 tape:=h.tape.trans e.tape
 output:=h.output.trans e.output
 isub:=e.isub
 jsub:=e.jsub
 icell b o hi:=by rw[h.icell b o (e.isub b o hi),e.icell b o hi]
 jobj r hr:=by rw[h.jobj r (e.jsub r hr),e.jobj r hr]
 size:=by rw[h.size];exact e.size
 frame b hb hn:=by rw[h.other b (by omega),e.frame b hb hn]
 inew:=e.inew
 jnew:=e.jnew
 fresh:=e.fresh
end
def isGrow:Op->Bool
 |.call { callee:= .builtin .append,.. }=>true
 |_=>false
def isAssign:Op->Bool
 |.assign _=>true
 |_=>false
def yy (ops:OC Nu):Nat:=ops.toList.findIdx λo=>isAssign o.op||(isTail o.op&& !isGrow o.op)
def jw (ops:OC Nu):Bool:=ops.toList.any λo=>match o.op,o.dst with
 |.assign _,some d=>ops.toList.any λo'=>match o'.op with
  |.move (.tmp t)=>KE t d
  |_=>false
 |_,_=>false
def tw (ops:OC Nu):ON Nat:=(Mq (yy ops)).filter λi=>!isAllocO (zq ops i).op
def TW (ops:OC Nu):ON Nat:=Yk ops (yy ops) (tw ops) []
def xH (ops:OC Nu):ON Nat:=(Mq (yy ops)).filter λi=>isAllocO (zq ops i).op
def fL (ops:OC Nu):Bool :=nodupB (ops.toList.filterMap (·.dst)) && ((Mq ops.size).all λj=>(zq ops j).after.toList.all λe=>!Kp .any e||decide (e.on<j)) && (decide (yy ops<=ops.size)&&(Mq ops.size).all λj=>decide (j<yy ops)||(Mq j).all λi=>xr ops j i) && ((Mq (yy ops)).all λj=>!isAllocO (zq ops j).op||((zq ops j).guard.isNone&&(zq ops j).dst.isSome)) && wK ops (tw ops) (TW ops) [] && ((Mq (yy ops)).all λi=>match (zq ops i).guard with|some (j,_)=>xr ops i j|none=>true) && ((Mq (yy ops)).all λj=>!isTail (zq ops j).op||(isGrow (zq ops j).op&&(zq ops j).guard.isNone&&(Mq j).all λi=>!isTail (zq ops i).op||xr ops j i))
def uN (ops:OC Nu) (j:Nat) (tm:ON AV):ON AV:=vc ((oO ops).getD j 0) (ops.toList.take (yy ops)) 0 tm
def WF (ops:OC Nu) (j t:Nat):Prop:= ∃(k:Nat) (o:Nu),k<yy ops/\ops[k]? = some o/\o.dst=some t/\¬ (xr ops j k=true/\isAllocO o.op=false)
theorem wB {ops:OC Nu}{j t:Nat}{tm:ON AV}:(uN ops j tm).length=tm.length/\(WF ops j t->(uN ops j tm)[t]? = (tm[t]?).map λ_=>.any)/\(¬ WF ops j t->(uN ops j tm)[t]? = tm[t]?):=by
 obtain⟨h1,h2,h3⟩:=s8 ((oO ops).getD j 0) (ops.toList.take (yy ops)) 0 tm t;refine⟨h1,λh=>h2 ?_,λh=>h3 λh'=>h ?_⟩
 ·obtain⟨k,o,hk0,hk,hd,hn⟩:=h;exact⟨k,o,by rw[Ld,Nf hk0];simpa using hk,hd,by simpa[xr]using hn⟩
 ·obtain⟨k,o,hk,hd,hn⟩:=h';rw[Ld]at hk;split at hk
  ·rename_i hk0;exact⟨k,o,hk0,by simpa using hk,hd,by simpa[xr]using hn⟩
  ·cases hk
theorem XX {ops:OC Nu}{j d:Nat}{tm:ON AV}{x:AV}(h:WF ops j d):uN ops j (tm.set d x)=uN ops j tm:=by
 apply Jc;intro t;by_cases ht:WF ops j t
 ·rw[wB.2.1 ht,wB.2.1 ht];by_cases e:d=t
  ·subst e;rw[LQ];by_cases hlt:d<tm.length
   ·simp[hlt]
   ·simp[hlt]
  ·rw[zG e]
 ·have e:d≠t:=λe=>ht (e ▸ h);rw[wB.2.2 ht,wB.2.2 ht,zG e]
theorem ul {ops:OC Nu}{i j:Nat}{o:Nu}{tm:ON AV}{x:AV}(hi:i<yy ops) (ho:ops[i]? = some o) (hb:xr ops j i=false):uN ops j (xI tm o.dst x)=uN ops j tm:=by
 cases hdst:o.dst with
 |none=>rfl
 |some d=>exact XX ⟨i,o,hi,ho,hdst,λh=>by rw[hb]at h;cases h.1⟩
def TV (P:Ng) (G:Nat->OK (ON D)) (o:Nu) (tags:ON (Nat×Bool)) (tm:ON AV):Bool :=match o.op with
 |.call { callee:= .value f,args,argTypes:=_ } =>
  match calleeAV (ev G (yr tags tm) f)with
  |some (_,fi,ca)=>((fi++args.toList.map (ev G (yr tags tm))++ca).mapM avD).isSome
  |none=>false
 |_=>true
def lH (P:Ng) (G:Nat->OK (ON D)) (ops:OC Nu) (i:Nat) (tv:ON AV):Bool :=match (zq ops i).guard with
 |none=>TV P G (zq ops i) [] tv
 |some (j,p) =>
  match (ops[j]?).bind (·.dst)with
  |some g =>
   match chain 9 tv g p with
   |some (tags,_)=>TV P G (zq ops i) tags tv
   |none=>false
  |none=>false
def ls (P:Ng) (G:Nat->OK (ON D)) (ops:OC Nu) (Hb:ON Box):ON Nat->ON AV->ON Box->(ON AV->ON Box->Prop)->Prop
 |[],tm,H,K=>K tm H
 |i::r,tm,H,K =>
  if isTail (zq ops i).op then pQ P G (zq ops i) [] OG (uN ops i tm) H λav H'=>ls P G ops Hb r (xI tm (zq ops i).dst (dull av)) H' K
  else if lH P G ops i (uN ops i tm)then w9 P G ops i (uN ops i tm) Hb λ_ a _=>ls P G ops Hb r (xI tm (zq ops i).dst a) H K
  else NL
def Yi (P:Ng) (G:Nat->OK (ON D)) (ops:OC Nu) (tm:ON AV) (H:ON Box) (K:ON AV->ON Box->Prop):Prop :=if fL ops&&tm.all noOptB&&(ops.toList.all λo=>match o.dst with|some d=>decide (d<tm.length)|none=>true)&&(ops.toList.all λo=>match o.op with|.alloc T=>(yo P T).isSome|_=>true)then ls P G ops H (TW ops) tm H λtm1 H1=>x7 P ops (xH ops) (za tm1) H1 λtm2 H2=>t8 P G ops (ops.toList.drop (yy ops)) tm2 H2 K else NL
def iH (H H':ON Box):Prop:= ∀(l:Nat) x,H[l]? = some x->(∃n sz,x = .vec n sz)∨H'[l]? = some x
theorem iH.refl (H:ON Box):iH H H:=λ_ _ h=>.inr h
theorem iH.trans {A B C:ON Box}(h1:iH A B) (h2:iH B C):iH A C:=by
 intro l x h;rcases h1 l x h with hv|hx
 ·exact .inl hv
 ·exact h2 l x hx
section
variable {P:Ng}{G:Nat->OK (ON D)}{nb:Nat}{rd:OK Nat}{c:Cx}{H H':ON Box}{w:N4}{tm:ON AV}{a:NI}{ops:OC Nu}
theorem TU {e:NF->AV}{o:Op}{r:AV×Prop}(hl:iH H H') (h:xa P e H o=some r):xa P e H' o=some r:=by
 cases o with
 |load T x =>
  simp only[xa]at h ⊢;cases hx:e x with
  |ptr l q =>
   rw[hx]at h;simp only at h ⊢;cases hb:H[l]? with
   |none=>rw[hb]at h;cases h
   |some b =>
    rw[hb]at h;cases b with
    |cells T' cs =>
     rcases hl l _ hb with⟨n,sz,hv⟩|hv
     ·cases hv
     ·rw[hv];exact h
    |_=>cases h
  |_=>rw[hx]at h;exact h
 |lookup T x k ok =>
  simp only[xa]at h ⊢;cases hx:e x with
  |map l =>
   rw[hx]at h;cases hk:Rp (e k)with
   |none=>rw[hk]at h;cases h
   |some kd =>
    rw[hk]at h;simp only at h ⊢;cases hb:H[l]? with
    |none=>rw[hb]at h;cases h
    |some b =>
     rw[hb]at h;cases b with
     |map es =>
      rcases hl l _ hb with⟨n,sz,hv⟩|hv
      ·cases hv
      ·rw[hv];exact h
     |_=>cases h
  |d y =>
   rw[hx]at h;cases y<;>first
    |exact h
    |(cases hk:Rp (e k)<;>rw[hk]at h<;>exact h)
  |_=>rw[hx]at h;exact h
 |call cc =>
  obtain⟨callee,args,types⟩:=cc;cases callee with
  |builtin b=>cases b<;>exact h
  |_=>exact h
 |unOp q T x=>cases q<;>exact h
 |slice T x lo hi mx=>cases mx<;>first|exact h|(cases lo<;>cases hi<;>exact h)
 |makeFunc f x y=>cases f<;>exact h
 |_=>exact h
theorem TT {e:NF->AV}{o:Op}(hl:iH H H'):(∀r,tB P e H o=some r->tB P e H' o=some r):=by
 have keyM:∀(l:Nat) es,H[l]? = some (.map es)->H'[l]? = some (.map es):=λl es h=>by
  rcases hl l _ h with⟨n,s,hv⟩|hv
  ·cases hv
  ·exact hv
 have key:∀(l:Nat) sz ds,H[l]? = some (.arr sz ds)->H'[l]? = some (.arr sz ds):=λl sz ds h=>by
  rcases hl l _ h with⟨n,s,hv⟩|hv
  ·cases hv
  ·exact hv
 intro r h;unfold tB at h ⊢;split at h
 ·split at h
  ·split at h
   ·rename_i hb hs;rw[key _ _ _ hb,hs];exact h
   ·cases h
  ·cases h
 ·exact h
 ·split at h
  ·split at h
   ·rename_i hu hi hb;rw[hu,hi,key _ _ _ hb];exact h
   ·cases h
  ·cases h
 ·split at h
  ·rename_i x T ha ht;split at h
   ·rename_i l hx;try rw[hx]
    split at h
    ·rename_i hu hb;rw[hu,key _ _ _ hb];exact h
    ·cases h
   ·rename_i l hx;try rw[hx]
    split at h
    ·rename_i hu hb;rw[hu,keyM _ _ hb];exact h
    ·cases h
   ·cases h
  ·cases h
 ·exact h
 ·exact h
 ·exact h
 ·exact h
 ·cases h
theorem WE {e:NF->AV}{o:Op}{q:AV×Prop}(h:tB P e H' o=some q) (h0:tB P e H o=none):xa P e H o=none:=by
 unfold tB at h;split at h
 ·split at h
  ·rename_i hx;simp only[xa,hx]
  ·cases h
 ·split at h
  ·rename_i hx;split at h
   ·rename_i hu;split at h
    ·rename_i hf;split at h
     ·rename_i hs;simp only[xa,hu,hf,hs,hx]
     ·cases h
    ·cases h
   ·cases h
  ·cases h
 ·split at h
  ·rename_i hx;split at h
   ·rename_i hu hi hb;simp only[xa,hu,hi,hx,avSl]
   ·cases h
  ·cases h
 ·split at h
  ·rename_i ha ht;split at h
   ·rename_i hx;split at h
    ·rename_i hu hb;simp only[xa,ha,ht,hu,hx,avSl,OK.map_none]
    ·cases h
   ·rename_i hx;split at h
    ·rename_i hu hb;simp only[xa,ha,ht,hu,hx]
    ·cases h
   ·cases h
  ·cases h
 ·rfl
 ·rfl
 ·rfl
 ·split at h
  ·rename_i hx;split at h
   ·rename_i hu h1 h2;simp only[xa,hu,hx,avSl]
   ·cases h
  ·cases h
 ·cases h
theorem Sa {e:NF->AV}{o:Op}{r:AV×Prop}(hl:iH H H') (h:aP P e H o=some r):aP P e H' o=some r:=by
 unfold aP at h ⊢;cases hm:tB P e H o with
 |some q=>rw[hm]at h;rw[TT hl _ hm];exact h
 |none =>
  rw[hm]at h;cases hm':tB P e H' o with
  |none=>exact TU hl h
  |some q =>
   have:=WE hm' hm;simp only[this]at h;cases h
theorem Yh {e:NF->AV}{o:Op}{av:AV}{F:Prop}(hg:isGrow o=true) (h:vg P e H o=some (av,H',F)):iH H H':=by
 cases o with
 |call cc =>
  obtain⟨callee,args,types⟩:=cc;cases callee with
  |builtin b =>
   cases b<;>simp[isGrow]at hg
   simp only[vg]at h;split at h
   ·split at h
    ·unfold lN at h;split at h
     ·split at h
      ·split at h
       ·split at h
        ·split at h
         ·split at h
          ·cases h;intro l x hx;exact .inr (yG hx)
          ·split at h
           ·rename_i l _ _ _ _ _ hb;cases h;intro l' x hx;by_cases e':l=l'
            ·subst e';rw[hb]at hx;cases hx;exact .inl ⟨_,_,rfl⟩
            ·right;rw[LQ];rw[N2 e'];exact hx
           ·cases h
          ·cases h
         ·cases h
        ·cases h
       ·cases h
      ·cases h
     ·cases h
    ·cases h
   ·cases h
  |_=>simp[isGrow]at hg
 |_=>simp[isGrow]at hg
theorem WD {o:Nu}{tags:ON (Nat×Bool)}{C:Prop}{K:AV->ON Box->Prop}(h1:isTail o.op=false) (h2:isAllocO o.op=false) (hl:iH H H') (hd:TV P G o tags tm=true) (h:pQ P G o tags C tm H K): pQ P G o tags C tm H' λav H2=>H2=H'/\K av H:=by
 unfold pQ at h ⊢;split at h
 ·split at h
  ·exact⟨by first|rfl|trivial,h⟩
  ·exact h.elim
 ·rename_i f args types hop;unfold TV at hd;rw[hop]at hd;simp only at hd;split at h
  ·rename_i k fi ca hcal;simp only[hcal]at hd ⊢;split at h
   ·rename_i hok;rw[Nf hok];split at h
    ·exact h.mono λrs hrs=>exTys_mono _ _ _ (λds hd=>⟨hd.1,by first|rfl|trivial,hd.2⟩) hrs
    ·rename_i hn;rw[hn]at hd;cases hd
   ·exact h.elim
  ·rename_i hcal;rw[hcal]at hd;cases hd
 ·unfold r8 at h ⊢;cases hf:aP P (ev G (yr tags tm)) H o.op with
  |none =>
   rw[hf]at h;simp only[gp h1 h2]at h;cases tags<;>exact h.elim
  |some q =>
   obtain⟨av,F⟩:=q;rw[Sa hl hf];rw[hf]at h;simp only at h ⊢;split at h
   ·rename_i ht;rw[Nf ht];exact⟨by first|rfl|trivial,h⟩
   ·rename_i ht;rw[N2 ht];cases tags<;>exact⟨h.1,by first|rfl|trivial,h.2⟩
theorem cG {i:Nat}{tv:ON AV}{K:AV->AV->ON Box->Prop}(h1:isTail (zq ops i).op=false) (h2:isAllocO (zq ops i).op=false) (hl:iH H H') (hd:lH P G ops i tv=true) (h:w9 P G ops i tv H K): w9 P G ops i tv H' λav a2 H2=>H2=H'/\K av a2 H:=by
 unfold w9 at h ⊢;unfold lH at hd;split at h
 ·rename_i hg;rw[hg]at hd;exact WD h1 h2 hl hd h
 ·rename_i j p hg;rw[hg]at hd;split at h
  ·rename_i g hgd;simp only[hgd]at hd;split at h
   ·exact h.elim
   ·rename_i hne;simp only[N2 hne];split at h
    ·rename_i tags C hch;rw[hch]at hd;exact WD h1 h2 hl hd h
    ·exact h.elim
  ·exact h.elim
theorem XW {o:Nu}{K:AV->ON Box->Prop}(hg:isGrow o.op=true) (h:pQ P G o [] OG tm H K):∃av H',iH H H'/\K av H'/\∀K2:AV->ON Box->Prop,K2 av H'->pQ P G o [] OG tm H K2:=by
 unfold pQ at h;split at h
 ·rename_i hop;rw[hop]at hg;simp[isGrow]at hg
 ·rename_i hop;rw[hop]at hg;simp[isGrow]at hg
 ·rename_i hp hc;have e:∀K2:AV->ON Box->Prop,pQ P G o [] OG tm H K2=r8 P (ev G (yr [] tm)) H o.op [] OG K2:=by
   intro K2;unfold pQ;split
   ·rename_i h3;exact No h3 (hp _ _ _)
   ·rename_i h3;exact No h3 (hc _ _ _)
   ·rfl
  simp only[e];unfold r8 at h ⊢;cases hf:aP P (ev G (yr [] tm)) H o.op with
  |some q =>
   rw[hf]at h;obtain⟨av,F⟩:=q;simp only at h ⊢;split at h
   ·rename_i ht;exact⟨av,H,iH.refl H,h,λK2 hk=>by rw[Nf ht];exact hk⟩
   ·rename_i ht;exact⟨av,H,iH.refl H,h.2,λK2 hk=>by rw[N2 ht];exact⟨h.1,hk⟩⟩
  |none =>
   rw[hf]at h;simp only at h ⊢;cases hh:vg P (ev G (yr [] tm)) H o.op with
   |none=>rw[hh]at h;exact h.elim
   |some q =>
    rw[hh]at h;obtain⟨av,H',F⟩:=q;simp only at h ⊢;split at h
    ·rename_i ht;exact⟨av,H',Yh hg hh,h,λK2 hk=>by rw[Nf ht];exact hk⟩
    ·rename_i ht;exact⟨av,H',Yh hg hh,h.2,λK2 hk=>by rw[N2 ht];exact⟨h.1,hk⟩⟩
end
open Go.Sx.iH renaming refl->HP
structure DOkT (ops:OC Nu):Prop where
 nodup:(ops.toList.filterMap (·.dst)).Nodup
 edges:∀j o,ops[j]? = some o->∀e∈o.after.toList,Kp .any e=true->e.on<j
 le:yy ops<=ops.size
 tails:∀j,j<ops.size->yy ops<=j->∀i,i<j->xr ops j i=true
 allocs:∀j o,ops[j]? = some o->j<yy ops->isAllocO o.op=true->o.guard=none/\∃d,o.dst=some d
 ord:wK ops (tw ops) (TW ops) []=true
 gbit:∀i j p,i<yy ops->(zq ops i).guard=some (j,p)->xr ops i j=true
 grow:∀j,j<yy ops->isTail (zq ops j).op=true->isGrow (zq ops j).op=true/\(zq ops j).guard=none/\∀i,i<j->isTail (zq ops i).op=true->xr ops j i=true
theorem DOkT.opt {ops:OC Nu}(hd:DOkT ops) {i j g:Nat}{p:Bool}(hi:i<yy ops) (hj1:(zq ops i).guard=some (j,p)) (hj2:(ops[j]?).bind (·.dst)=some g):∃(j:Nat) (oj:Nu),ops[j]? = some oj/\oj.dst=some g/\xr ops i j=true:=by
 have hb:=hd.gbit i j p hi hj1;cases hoj:ops[j]? with
 |none=>rw[hoj]at hj2;cases hj2
 |some oj=>rw[hoj]at hj2;exact⟨j,oj,hoj,hj2,hb⟩
theorem fK {ops:OC Nu}(h:fL ops=true):DOkT ops:=by
 simp only[fL,NK]at h;obtain⟨⟨⟨⟨⟨⟨h1,h2⟩,h0,h3⟩,h4⟩,h5⟩,h7⟩,h6⟩:=h;have hle:yy ops<=ops.size:=M3 h0;refine⟨nodupB_spec h1,λj o ho e he hb=>?_,hle,λj hj hh i hi=>?_,λj o ho hj ha=>?_,h5,λi j p hi hg=>?_,λj hj ht=>?_⟩
 ·have:=ND.1 h2 j (by simp;exact zO ho);rw[y6 ho]at this;have:=ND.1 this e he;simpa[hb]using this
 ·have:=ND.1 h3 j (by simpa using hj);simp only[L4,NR]at this;rcases this with h|h
  ·omega
  ·exact ND.1 h i (by simpa using hi)
 ·have:=ND.1 h4 j (by simpa using hj);rw[y6 ho]at this;simp only[ha,K6,LF,NK]at this;exact⟨by simpa using this.1,Jg.1 this.2⟩
 ·have:=ND.1 h7 i (by simpa using hi);rw[hg]at this;exact this
 ·have:=ND.1 h6 j (by simpa using hj);simp only[ht,K6,LF,NK]at this;refine⟨this.1.1,by simpa using this.1.2,λi hi hti=>?_⟩;have:=ND.1 this.2 i (by simpa using hi);simpa[hti]using this
theorem TS {ops:OC Nu}(hd:DOkT ops):∀(j i:Nat),xr ops j i=true->i<j:=by
 intro j;induction j using Ez with
 |_ j ih =>
  intro i hb;have hj:j<ops.size:=by
   rcases M0 j ops.size with h|h
   ·exact h
   ·unfold xr oO at hb;rw[LB,My (by rw[(masksFrom_get ops.toList [] j).1];simpa using h)]at hb;simp at hb
  obtain⟨e,he,hbe,h1⟩:=jz (zi hj) hb;have:=hd.edges j _ (zi hj) e he hbe;rcases h1 with rfl|⟨_,h1⟩
  ·exact this
  ·have:=ih e.on this i h1;omega
theorem mr {ops:OC Nu}(hd:DOkT ops) (i:Nat):xr ops i i=false:=by
 cases h:xr ops i i with
 |false=>rfl
 |true=>exact No (TS hd i i h) (JW _)
theorem tY {ops:OC Nu}(hd:DOkT ops) {i j d:Nat}{oi oj:Nu}(hi:ops[i]? = some oi) (hj:ops[j]? = some oj) (h1:oi.dst=some d) (h2:oj.dst=some d):i=j:=by
 have key:∀(l:ON Nu) (i j:Nat) (oi oj:Nu),(l.filterMap (·.dst)).Nodup->l[i]? = some oi->l[j]? = some oj->oi.dst=some d->oj.dst=some d->i=j:=by
  intro l;induction l with
  |nil=>intro i j oi oj _ h;simp at h
  |cons o l ih =>
   intro i j oi oj hn hi hj h1 h2;have hmem:∀(k:Nat) (ok:Nu),l[k]? = some ok->ok.dst=some d->d∈l.filterMap (·.dst):=λk ok hk hdk=>DO.2 ⟨ok,MX hk,hdk⟩;cases i with
   |zero =>
    simp at hi;subst hi;cases j with
    |zero=>rfl
    |succ j =>
     simp at hj;rw[Ia h1,KZ]at hn;exact No (hmem j oj hj h2) hn.1
   |succ i =>
    simp at hi;cases j with
    |zero =>
     simp at hj;subst hj;rw[Ia h2,KZ]at hn;exact No (hmem i oi hi h1) hn.1
    |succ j =>
     simp at hj;have hn':(l.filterMap (·.dst)).Nodup:=by
      cases hod:o.dst with
      |none=>rw[Dd hod]at hn;exact hn
      |some x=>rw[Ia hod,KZ]at hn;exact hn.2
     rw[ih i j oi oj hn' hi hj h1 h2]
 exact key ops.toList i j oi oj hd.nodup (by simpa using hi) (by simpa using hj) h1 h2
section
variable {P:Ng}{G:Nat->OK (ON D)}{nb:Nat}{rd:OK Nat}{ops:OC Nu}{Hb:ON Box}{c0:Cx}{w0:N4}{Kend:ON AV->ON Box->Prop}
def WC (P:Ng) (G:Nat->OK (ON D)) (ops:OC Nu) (i:Nat) (tm:ON AV) (Hb:ON Box):Prop :=lH P G ops i (uN ops i tm)=true/\w9 P G ops i (uN ops i tm) Hb λ_ a2 _=>∀d,(zq ops i).dst=some d->d<tm.length->tm[d]? = some a2
def wq (P:Ng) (G:Nat->OK (ON D)) (ops:OC Nu) (tm:ON AV):ON Box->ON Nat->ON Box->Prop
 |H,[],Ha=>Ha=H
 |H,i::q,Ha=>∃av H',iH H H'/\(∀K2:AV->ON Box->Prop,K2 av H'->pQ P G (zq ops i) [] OG (uN ops i tm) H K2)/\(∀d,(zq ops i).dst=some d->d<tm.length->tm[d]? = some (dull av))/\wq P G ops tm H' q Ha
theorem wq.snoc {tm:ON AV}{i:Nat}{Ha Ha':ON Box}(h2:wq P G ops tm Ha [i] Ha'):∀(q:ON Nat) (H:ON Box),wq P G ops tm H q Ha->wq P G ops tm H (q++[i]) Ha'
 |[],H,h=>by have h:Ha=H:=h;subst h;exact h2
 |j::q,H,h=>by obtain⟨av,H',a1,a2,a3,a4⟩:=h;exact⟨av,H',a1,a2,a3,wq.snoc h2 q H' a4⟩
theorem wq.set {tm:ON AV}{i:Nat}{x:AV}(hd:DOkT ops) (hih:i<yy ops) (hi:i<ops.size):∀(q:ON Nat) (H Ha:ON Box),(∀k∈q,k≠i/\k<ops.size/\xr ops k i=false)->wq P G ops tm H q Ha->wq P G ops (xI tm (zq ops i).dst x) H q Ha
 |[],H,Ha,_,h=>h
 |j::q,H,Ha,hq,h=>by
  obtain⟨av,H',a1,a2,a3,a4⟩:=h;obtain⟨b1,b2,b3⟩:=hq j (by simp);refine⟨av,H',a1,?_,λd hdd hlt=>?_,wq.set hd hih hi q H' Ha (λk hk=>hq k (by simp[hk])) a4⟩
  ·rw[ul hih (zi hi) b3];exact a2
  ·rw[xo]at hlt;rw[vX (λe=>b1 (tY hd (zi b2) (zi hi) hdd e))];exact a3 d hdd hlt
structure DinT (P:Ng) (G:Nat->OK (ON D)) (nb:Nat) (ops:OC Nu) (Hb:ON Box) (c0:Cx) (w0:N4) (Kend:ON AV->ON Box->Prop) (listed:OC Bool) (a:NI) (w:N4) (c:Cx) (Hc Ha:ON Box) (tm:ON AV) (done r pq:ON Nat) (B:Nat->Nat) (X:Nat->Prop):Prop where
 hr:HR c Hc w
 gr:GR G c w
 ext:Nw c0 w0 c w
 keep:zp c0 Hb c Hc
 hle:iH Hb Hc
 df:lL nb c w a.defers
 lsz:listed.size=ops.size
 closed:xt ops listed
 len:tm.length=a.tmps.size
 rng:∀(k:Nat) o d,ops[k]? = some o->o.dst=some d->d<tm.length
 slot:∀(t:Nat) x v,tm[t]? = some x->a.tmps[t]? = some v->(∀(k:Nat) o,ops[k]? = some o->o.dst=some t->yy ops<=k∨(y4 listed k=true/\isAllocO o.op=false))->yA c Hc w a.tmps x v
 opt:∀(t g:Nat) p x,tm[t]? = some (.opt g p x)->∃(i j:Nat) (oi oj:Nu),ops[i]? = some oi/\ops[j]? = some oj/\oi.dst=some t/\oj.dst=some g/\xr ops i j=true/\i<yy ops
 v:ls P G ops Hb r tm Ha Kend
 ord:wK ops (tw ops) r done=true
 dn:∀k∈done,∀i∈tw ops,xr ops k i=true->i∈done
 dh:∀k∈done,k∈tw ops
 unl:∀i∈r,y4 listed i=false
 pend:∀i∈done,y4 listed i=false->isTail (zq ops i).op=false->¬ X i->WC P G ops i tm Hb
 pqa:∀i∈done,y4 listed i=false->isTail (zq ops i).op=true->i∈pq
 pqb:∀i∈pq,i∈done/\y4 listed i=false/\isTail (zq ops i).op=true
 pqs:pq.Pairwise (· < ·)
 chain:wq P G ops tm Hc pq Ha
 fresh:∀(i:Nat) o T,ops[i]? = some o->o.op = .alloc T->i<yy ops->y4 listed i=true->∃d,o.dst=some d/\a.tmps[d]? = some (.pointer (some ⟨B i,0,none⟩))/\fM P c w (B i) T/\w0.heap.size<=B i
 binj:∀(i i':Nat) o o' T T',ops[i]? = some o->ops[i']? = some o'->o.op = .alloc T->o'.op = .alloc T'->i<yy ops->i'<yy ops->y4 listed i=true->y4 listed i'=true->B i=B i'->i=i'
 tail:∀j,yy ops<=j->y4 listed j=false
theorem zA {i:Nat}:i∈tw ops↔i<yy ops/\isAllocO (zq ops i).op=false:=by simp[tw]
theorem tX (hd:DOkT ops) {i:Nat}(h:i∈tw ops):ops[i]? = some (zq ops i):=zi (MM (zA.1 h).1 hd.le)
section
variable {listed:OC Bool}{a:NI}{w:N4}{c:Cx}{Hc Ha:ON Box}{tm:ON AV}{done r pq:ON Nat}{B:Nat->Nat}{X:Nat->Prop}
theorem DinT.note {i:Nat}{r':ON Nat}{a2:AV}{Ha':ON Box}(hd:DOkT ops) (h:DinT P G nb ops Hb c0 w0 Kend listed a w c Hc Ha tm done (i::r') pq B X) (hv:ls P G ops Hb r' (xI tm (zq ops i).dst a2) Ha' Kend) (hopt:∀g p x,a2 = .opt g p x->∃(j:Nat) (oj:Nu),ops[j]? = some oj/\oj.dst=some g/\xr ops i j=true) (hp:isTail (zq ops i).op=false->¬ X i->WC P G ops i (xI tm (zq ops i).dst a2) Hb) (hs:isTail (zq ops i).op=false->Ha'=Ha) (hg:isTail (zq ops i).op=true->wq P G ops (xI tm (zq ops i).dst a2) Ha [i] Ha'): DinT P G nb ops Hb c0 w0 Kend listed a w c Hc Ha' (xI tm (zq ops i).dst a2) (done++[i]) r' (if isTail (zq ops i).op then pq++[i]else pq) B X:=by
 obtain⟨hih,hid⟩:=x8 h.ord i (by simp);have hoi:=tX hd hih;have hisz:i<ops.size:=zO hoi;have hul:=h.unl i (by simp);have hord:=h.ord;simp only[wK,NK,Lc]at hord;obtain⟨⟨⟨⟨_,_⟩,hpre⟩,_⟩,hrest⟩:=hord;have hnb:∀k∈done,xr ops k i=false:=λk hk=>by
  cases hbb:xr ops k i with
  |false=>rfl
  |true=>exact No (h.dn k hk i hih hbb) hid
 have hne' :∀k∈done,k≠i:=λk hk e=>hid (e ▸ hk);have hch:=wq.set (x:=a2) hd (zA.1 hih).1 hisz pq Hc Ha (λk hk=>⟨hne' k (h.pqb k hk).1,zO (tX hd (h.dh k (h.pqb k hk).1)),hnb k (h.pqb k hk).1⟩) h.chain;refine { hr:=h.hr,gr:=h.gr,ext:=h.ext,keep:=h.keep,hle:=h.hle,df:=h.df,lsz:=h.lsz,closed:=h.closed,len:=by rw[xo];exact h.len,rng:=by rw[xo];exact h.rng,slot:= ?_,opt:= ?_,v:=hv,ord:=hrest,dn:= ?_,dh:= ?_,unl:=λk hk=>h.unl k (by simp[hk]),pend:= ?_,pqa:= ?_,pqb:= ?_,pqs:= ?_,chain:= ?_,fresh:=h.fresh,binj:=h.binj,tail:=h.tail }
 ·intro t x v hx hv hall;have hne:(zq ops i).dst≠some t:=λe=>by
   rcases hall i _ hoi e with h1|⟨h1,_⟩
   ·have:=(zA.1 hih).1;omega
   ·rw[hul]at h1;cases h1
  rw[vX hne]at hx;exact h.slot t x v hx hv hall
 ·intro t g p x hx;by_cases e:(zq ops i).dst=some t
  ·have hx2:a2 = .opt g p x:=by
    rw[e]at hx;simp only[xI]at hx;rw[LQ]at hx;simp only[if_true]at hx;split at hx
    ·simpa using hx
    ·simp at hx
   obtain⟨j,oj,h1,h2,h3⟩:=hopt g p x hx2;exact⟨i,j,_,oj,hoi,h1,e,h2,h3,(zA.1 hih).1⟩
  ·rw[vX e]at hx;exact h.opt t g p x hx
 ·intro k hk m hm hb;rcases LG.1 hk with hk|hk
  ·exact LG.2 (.inl (h.dn k hk m hm hb))
  ·simp at hk;subst hk;have:=ND.1 hpre m hm;simp only[hb,K6,LF]at this;exact LG.2 (.inl (Jf.1 this))
 ·intro k hk;rcases LG.1 hk with hk|hk
  ·exact h.dh k hk
  ·simp at hk;subst hk;exact hih
 ·intro k hk hkl hkt hkx;rcases LG.1 hk with hk|hk
  ·have hki:=hne' k hk;have hp:=h.pend k hk hkl hkt hkx;unfold WC at hp ⊢;rw[ul (zA.1 hih).1 hoi (hnb k hk)];refine⟨hp.1,?_⟩;have hok:=tX hd (h.dh k hk);have hp2:=hp.2;revert hp2;have:(λ(_:AV) (a3:AV) (_:ON Box)=>∀d,(zq ops k).dst=some d->d<tm.length->tm[d]? = some a3)=λ_ a3 _=>∀d,(zq ops k).dst=some d->d<(xI tm (zq ops i).dst a2).length->(xI tm (zq ops i).dst a2)[d]? = some a3:=by funext _ a3 _;rw[xo];refine propext (forall_congr' λd=>forall_congr' λhd'=>?_);rw[vX (λe=>hki (tY hd hok hoi hd' e))]
   rw[←this];exact λh=>h
  ·simp at hk;subst hk;exact hp hkt hkx
 ·intro k hk hkl hkt;rcases LG.1 hk with hk|hk
  ·have:=h.pqa k hk hkl hkt;split
   ·simp[this]
   ·exact this
  ·simp at hk;subst hk;rw[Nf hkt];simp
 ·intro k hk;split at hk
  ·rename_i ht;rcases LG.1 hk with hk|hk
   ·obtain⟨b1,b2,b3⟩:=h.pqb k hk;exact⟨by simp[b1],b2,b3⟩
   ·simp at hk;subst hk;exact⟨by simp,hul,ht⟩
  ·obtain⟨b1,b2,b3⟩:=h.pqb k hk;exact⟨by simp[b1],b2,b3⟩
 ·split
  ·rename_i ht;refine ON.pairwise_append.2 ⟨h.pqs,ON.pairwise_singleton _ _,λk hk m hm=>?_⟩;simp at hm;subst hm;obtain⟨b1,_,b3⟩:=h.pqb k hk;rcases FD k m with h1|h1|h1
   ·exact h1
   ·exact No h1 (hne' k b1)
   ·have:=(hd.grow k (zA.1 (h.dh k b1)).1 b3).2.2 m h1 ht;rw[hnb k b1]at this;cases this
  ·exact h.pqs
 ·split
  ·rename_i ht;exact wq.snoc (hg ht) pq Hc hch
  ·rename_i ht;rw[hs (by simpa using ht)];exact hch
theorem DinT.advance (hd:DOkT ops):∀{r:ON Nat}{tm:ON AV}{Ha:ON Box}{done pq:ON Nat},DinT P G nb ops Hb c0 w0 Kend listed a w c Hc Ha tm done r pq B X->∃tm' Ha' done' r' pq',DinT P G nb ops Hb c0 w0 Kend listed a w c Hc Ha' tm' done' r' pq' B X/\(r'=[]∨ ∃i r'',r'=i::r''/\isCallV (zq ops i).op=true)
 |[],tm,Ha,done,pq,h=>⟨tm,Ha,done,[],pq,h,.inl rfl⟩
 |i::r,tm,Ha,done,pq,h=>by
  cases hc:isCallV (zq ops i).op with
  |true=>exact⟨tm,Ha,done,i::r,pq,h,.inr ⟨i,r,rfl,hc⟩⟩
  |false =>
   obtain⟨hih,hid⟩:=x8 h.ord i (by simp);have hoi:=tX hd hih;have hv:=h.v;simp only[ls]at hv;have ha:isAllocO (zq ops i).op=false:=(zA.1 hih).2;cases ht:isTail (zq ops i).op with
   |true =>
    rw[Nf ht]at hv;obtain⟨hg1,hg2,_⟩:=hd.grow i (zA.1 hih).1 ht;obtain⟨av,H',hl,hk,hall⟩:=XW hg1 hv;refine DinT.advance hd (h.note (Ha':=H') hd hk (λg p x hx=>by cases av<;>simp[dull]at hx) (λh0=>by rw[ht]at h0;cases h0) (λh0=>by rw[ht]at h0;cases h0) λ_=>⟨av,H',hl,?_,λd hdd hlt=>?_,rfl⟩)
    ·rw[ul (zA.1 hih).1 hoi (mr hd i)];exact hall
    ·rw[xo]at hlt;rw[hdd];simp[xI,hlt]
   |false =>
    rw[N2 (by rw[ht];decide)]at hv;split at hv
    ·rename_i hdat;obtain⟨av,a2,⟨hk,hform⟩,hpend⟩:=mu hc ht ha (wE hv);refine DinT.advance hd (h.note (Ha':=Ha) hd hk (λg p x hx=>?_) (λ_ _=>⟨?_,?_⟩) (λ_=>rfl) (λh0=>by rw[ht]at h0;cases h0))
     ·obtain⟨j,hj1,hj2⟩:=hform g p x hx;exact hd.opt (zA.1 hih).1 hj1 hj2
     ·rw[ul (zA.1 hih).1 hoi (mr hd i)];exact hdat
     ·rw[ul (zA.1 hih).1 hoi (mr hd i)];have hkk:∀(a3:AV) (H2:ON Box),(H2=Hb/\a3=a2)->(∀d,(zq ops i).dst=some d->d<(xI tm (zq ops i).dst a2).length->(xI tm (zq ops i).dst a2)[d]? = some a3):=by rintro a3 H2 ⟨rfl,rfl⟩ d hdd hlt;rw[xo]at hlt;rw[hdd];simp[xI,hlt]
      unfold w9 at hpend ⊢;split at hpend
      ·rcases um ht ha hpend with⟨av2,h4,h5⟩|⟨h4,_⟩
       ·exact h5 _ (hkk _ _ h4)
       ·rw[hc]at h4;cases h4
      ·split at hpend
       ·split at hpend
        ·exact hpend.elim
        ·rename_i hne;rw[N2 hne];split at hpend
         ·rcases um ht ha hpend with⟨av2,h4,h5⟩|⟨h4,_⟩
          ·exact h5 _ (hkk _ _ h4)
          ·rw[hc]at h4;cases h4
         ·exact hpend.elim
       ·exact hpend.elim
    ·exact hv.elim
theorem DinT.rep (h:DinT P G nb ops Hb c0 w0 Kend listed a w c Hc Ha tm done r pq B X) {i:Nat}(hb:∀k,xr ops i k=true->y4 listed k=true):M5 G nb c Hc w (uN ops i tm) a:=by
 refine⟨h.hr,h.gr,⟨by rw[wB (t:=0).1,h.len];simp,λt v x hv hx=>?_⟩,h.df⟩;simp only[KA]at hv;by_cases hh:WF ops i t
 ·rw[wB.2.1 hh]at hx;cases hy:tm[t]? with
  |none=>rw[hy]at hx;simp at hx
  |some y=>rw[hy]at hx;simp at hx;subst hx;exact Jx v
 ·rw[wB.2.2 hh]at hx;refine h.slot t x v hx hv λk o hk hdst=>?_;rcases M0 k (yy ops)with hkh|hkh
  ·have:xr ops i k=true/\isAllocO o.op=false:=by
    rcases KN (xr ops i k=true/\isAllocO o.op=false)with h1|h1
    ·exact h1
    ·exact No ⟨k,o,hkh,hk,hdst,h1⟩ hh
   exact .inr ⟨hb k this.1,this.2⟩
  ·exact .inl hkh
theorem DinT.ran {i:Nat}{v:Value}{c':Cx}{w':N4}{a2:AV}{Hc':ON Box}{pq':ON Nat}(hd:DOkT ops) (h:DinT P G nb ops Hb c0 w0 Kend listed a w c Hc Ha tm done r pq B X) (hX:∀m,X m->m=i) (hdone:i∈done) (hul:y4 listed i=false) (hb:∀k,xr ops i k=true->y4 listed k=true) (ha2:∀d,(zq ops i).dst=some d->d<tm.length->tm[d]? = some a2) (e:Nw c w c' w') (k:zp c Hc c' Hc') (hl:iH Hc Hc') (hr:HR c' Hc' w') (hs:yA c' Hc' w' (a.put (zq ops i).dst v).tmps a2 v) (hq:(isTail (zq ops i).op=false/\Hc'=Hc/\pq'=pq)∨(isTail (zq ops i).op=true/\pq=i::pq'/\wq P G ops tm Hc' pq' Ha)): DinT P G nb ops Hb c0 w0 Kend (listed.setIfInBounds i true) (a.put (zq ops i).dst v) w' c' Hc' Ha tm done r pq' B (λ_=>NL):=by
 have hih:=h.dh i hdone;have hoi:=tX hd hih;have hi:i<ops.size:=zO hoi;have hoth:∀t,(zq ops i).dst≠some t->(a.put (zq ops i).dst v).tmps[t]? = a.tmps[t]? :=by
  intro t hne;cases hdst:(zq ops i).dst with
  |none=>rfl
  |some d =>
   rw[yV,Kg];have:d≠t:=λe=>hne (by rw[hdst,e]);simp[this]
 refine { hr:=hr,gr:=h.gr.ext e,ext:=h.ext.trans e,keep:=h.keep.trans k,hle:=h.hle.trans hl,df:= ?_,lsz:=by simp[h.lsz],closed:=Ih h.lsz hi h.closed hb,len:= ?_,rng:=h.rng,slot:= ?_,opt:=h.opt,v:=h.v,ord:=h.ord,dn:=h.dn,dh:=h.dh,unl:= ?_,pend:= ?_,pqa:= ?_,pqb:= ?_,pqs:= ?_,chain:= ?_,fresh:= ?_,binj:= ?_,tail:= ?_ }
 ·cases hdst:(zq ops i).dst<;>exact h.df.ext e
 ·rw[h.len];cases hdst:(zq ops i).dst with
  |none=>rfl
  |some d=>rw[yV];simp
 ·intro t x u hx hu hall;by_cases et:(zq ops i).dst=some t
  ·have hlt:t<tm.length:=by rcases M0 t tm.length with h' |h';exact h';simp[My h']at hx
   rw[ha2 t et hlt]at hx;simp at hx;subst hx;have:u=v:=by
    rw[et,yV,Kg]at hu;simp only[if_true]at hu;split at hu
    ·simpa using hu.symm
    ·rename_i hge;rw[h.len]at hlt;exact No hlt hge
   subst this;exact hs
  ·rw[hoth t et]at hu;have h1:=h.slot t x u hx hu λm o hm hdm=>by
    rcases hall m o hm hdm with h4|⟨h2,h3⟩
    ·exact .inl h4
    ·rw[zj h.lsz hi]at h2;have:m≠i:=λe'=>et (by rw[e']at hm;rw[hm]at hoi;simp at hoi;rw[←hoi];exact hdm);rw[N2 this]at h2;exact .inr ⟨h2,h3⟩
   have h2:=h1.ext e k;cases x<;>first
    |exact h2
    |skip
   rename_i g p y;simp only[yA]at h2 ⊢;have hg:(a.put (zq ops i).dst v).tmps[g]? = a.tmps[g]? :=by refine hoth g λeg=>?_;obtain⟨i1,j1,oi1,oj1,a1,a2',a3,a4,a5,a6⟩:=h.opt t g p y hx;have hl:=((hall i1 oi1 a1 a3).resolve_left (by omega)).1;have hi1:i1≠i:=λe'=>et (by rw[e']at a1;rw[a1]at hoi;simp at hoi;rw[←hoi];exact a3);rw[zj h.lsz hi,N2 hi1]at hl;have hj:=h.closed i1 j1 hl a5;have:j1=i:=tY hd a2' hoi a4 eg;rw[this]at hj;have hj':y4 listed i=true:=hj;rw[hul]at hj';cases hj'
   rw[hg];exact h2
 ·intro m hm;rw[zj h.lsz hi];have hne:m≠i:=λe'=>by have:=(x8 h.ord m hm).2;exact this (e' ▸ hdone)
  rw[N2 hne];exact h.unl m hm
 ·intro m hm hml hmt _;rw[zj h.lsz hi]at hml;split at hml
  ·cases hml
  ·rename_i hmi;exact h.pend m hm hml hmt (λhx=>hmi (hX m hx))
 ·intro m hm hml hmt;rw[zj h.lsz hi]at hml;split at hml
  ·cases hml
  ·rename_i hmi;have:=h.pqa m hm hml hmt;rcases hq with⟨_,_,rfl⟩|⟨_,h2,_⟩
   ·exact this
   ·rw[h2]at this;rcases MU.1 this with e' |e'
    ·exact No e' hmi
    ·exact e'
 ·intro m hm;have hmp:m∈pq/\m≠i:=by
   rcases hq with⟨h1,_,rfl⟩|⟨_,h2,_⟩
   ·refine⟨hm,λe'=>?_⟩;have:=(h.pqb m hm).2.2;rw[e',h1]at this;cases this
   ·refine⟨by rw[h2];simp[hm],λe'=>?_⟩;have:=h.pqs;rw[h2]at this;have:=(FL.1 this).1 m hm;omega
  obtain⟨b1,b2,b3⟩:=h.pqb m hmp.1;exact⟨b1,by rw[zj h.lsz hi,N2 hmp.2];exact b2,b3⟩
 ·rcases hq with⟨_,_,rfl⟩|⟨_,h2,_⟩
  ·exact h.pqs
  ·have:=h.pqs;rw[h2]at this;exact(FL.1 this).2
 ·rcases hq with⟨_,rfl,rfl⟩|⟨_,_,h3⟩
  ·exact h.chain
  ·exact h3
 ·intro m o T hm hop hmh hml;have hne:m≠i:=λe'=>by have h1:=(zA.1 hih).2;rw[e']at hm;rw[y6 hm,hop]at h1;simp[isAllocO]at h1
  rw[zj h.lsz hi,N2 hne]at hml;obtain⟨d,h1,h2,h3⟩:=h.fresh m o T hm hop hmh hml;refine⟨d,h1,?_,h3.1.ext e,h3.2⟩;rw[hoth d λe'=>hne (tY hd hm hoi h1 e')];exact h2
 ·intro m m' o o' T T' hm hm' h1 h2 h3 h4 h5 h6 h7;have key:∀(q:Nat) oq Tq,ops[q]? = some oq->oq.op = .alloc Tq->q≠i:=λq oq Tq hq hoq e'=>by have h1:=(zA.1 hih).2;rw[e']at hq;rw[y6 hq,hoq]at h1;simp[isAllocO]at h1
  rw[zj h.lsz hi,N2 (key m o T hm h1)]at h5;rw[zj h.lsz hi,N2 (key m' o' T' hm' h2)]at h6;exact h.binj m m' o o' T T' hm hm' h1 h2 h3 h4 h5 h6 h7
 ·intro j hj;rw[zj h.lsz hi];have:j≠i:=λe'=>by have:=(zA.1 hih).1;omega
  rw[N2 this];exact h.tail j hj
end
end
def oL (o:Nu):OK (TypeId×Nat×NF) :=match o.op with
 |.store T (.tmp d) x=>some (T,d,x)
 |_=>none
def Yg (ops:OC Nu) (k:Nat):OK (TypeId×Nat) :=match (zq ops k).op,(zq ops k).dst with
 |.alloc T,some d=>some (T,d)
 |_,_=>none
def mq (ops:OC Nu) (j k:Nat):Bool :=match oL (zq ops j),Yg ops k with
 |some (T,d,_),some (T',d')=>KE T T'&&KE d d'&&xr ops j k&&(zq ops j).guard.isNone&&(zq ops j).dst.isNone&&decide (k<zl ops)
 |_,_=>false
def vJ (ops:OC Nu) (k:Nat):OK Nat:=(Mq ops.size).find? λj=>decide (zl ops<=j)&&mq ops j k
def qe (ops:OC Nu):Bool :=nodupB (ops.toList.filterMap (·.dst)) && ((Mq ops.size).all λj=>(zq ops j).after.toList.all λe=>!Kp .any e||decide (e.on<j)) && ((Mq (zl ops)).all λj=>!isAllocO (zq ops j).op||((zq ops j).guard.isNone&&(zq ops j).dst.isSome)) && wK ops (tZ ops) (pp ops) [] && ((Mq (zl ops)).all λi=>!isCallV (zq ops i).op) && ((Mq ops.size).all λj=>decide (j<zl ops)||(zU ops).any λk=>mq ops j k) && ((zU ops).all λk=>(Mq ops.size).all λj=>decide (j<zl ops)|| !mq ops j k||(vJ ops k==some j))
def pn (P:Ng) (G:Nat->OK (ON D)) (ops:OC Nu) (tm:ON AV) (k:Nat) (T:TypeId):OK (ON AV) :=match vJ ops k with
 |some j=>match oL (zq ops j)with
  |some (_,_,x)=>match avCells (ev G (yr [] (mw ops j tm)) x),xq P T,yo P T with
   |some cs,some n,some z=>if KE cs.length n&&KE z.cells.size n then some cs else none
   |_,_,_=>none
  |none=>none
 |none=>oN P T
def WB (P:Ng) (G:Nat->OK (ON D)) (ops:OC Nu) (tm:ON AV) (H:ON Box) (K:ON AV->ON Box->Prop):Prop :=if qe ops&&tm.all noOptB&&(ops.toList.all λo=>match o.dst with|some d=>decide (d<tm.length)|none=>true)&&(ops.toList.all λo=>match o.op with|.alloc T=>(yo P T).isSome|_=>true)then jy P G ops (pp ops) tm H λtm1=>tz ops (pn P G ops tm1) (zU ops) (za tm1) H K else NL
theorem fJ {ops:OC Nu}(h:qe ops=true):LC ops:=by
 simp only[qe,NK]at h;obtain⟨⟨⟨⟨⟨⟨h1,h2⟩,h4⟩,h5⟩,_⟩,_⟩,_⟩:=h;refine⟨nodupB_spec h1,λj o ho e he hb=>?_,λj o ho hj ha=>?_,h5⟩
 ·have:=ND.1 h2 j (by simp;exact zO ho);rw[y6 ho]at this;have:=ND.1 this e he;simpa[hb]using this
 ·have:=ND.1 h4 j (by simpa using hj);rw[y6 ho]at this;simp only[ha,K6,LF,NK]at this;exact⟨by simpa using this.1,Jg.1 this.2⟩
structure SOk (ops:OC Nu):Prop where
 nocall:∀i,i<zl ops->isCallV (zq ops i).op=false
 fill:∀j,j<ops.size->zl ops<=j->∃k T d x,k∈zU ops/\vJ ops k=some j/\oL (zq ops j)=some (T,d,x)/\(zq ops k).op = .alloc T/\(zq ops k).dst=some d/\xr ops j k=true/\(zq ops j).guard=none/\(zq ops j).dst=none
theorem rr {ops:OC Nu}{j k:Nat}(h:mq ops j k=true):∃T d x,oL (zq ops j)=some (T,d,x)/\(zq ops k).op = .alloc T/\(zq ops k).dst=some d/\xr ops j k=true/\(zq ops j).guard=none/\(zq ops j).dst=none/\k<zl ops:=by
 unfold mq at h;split at h
 ·rename_i T d x T' d' h1 h2;simp only[NK,NR]at h;obtain⟨⟨⟨⟨⟨a1,a2⟩,a3⟩,a4⟩,a5⟩,a6⟩:=h;have e1:=Hx a1;have e2:=Hx a2;subst e1;subst e2;unfold Yg at h2;split at h2
  ·rename_i T2 d2 g1 g2;cases h2;exact⟨_,_,_,h1,g1,g2,a3,by simpa using a4,by simpa using a5,a6⟩
  ·cases h2
 ·cases h
theorem SOk.of {ops:OC Nu}(h:qe ops=true):SOk ops:=by
 simp only[qe,NK]at h;obtain⟨⟨⟨_,h1⟩,h2⟩,h3⟩:=h;refine⟨λi hi=>?_,λj hj hh=>?_⟩
 ·have:=ND.1 h1 i (by simpa using hi);simpa using this
 ·have:=ND.1 h2 j (by simpa using hj);simp only[L4,NR]at this;rcases this with h|h
  ·omega
  ·obtain⟨k,hk,hf⟩:=Jb.1 h;obtain⟨T,d,x,g1,g2,g3,g4,g5,g6,_⟩:=rr hf;refine⟨k,T,d,x,hk,?_,g1,g2,g3,g4,g5,g6⟩;have:=ND.1 (ND.1 h3 k hk) j (by simpa using hj);simp only[L4,NR,Lc,beq_iff_eq]at this;rcases this with (h|h)|h
   ·omega
   ·rw[hf]at h;cases h
   ·exact h
theorem uM {ops:OC Nu}{k j:Nat}(h:vJ ops k=some j):j<ops.size/\zl ops<=j/\mq ops j k=true:=by unfold vJ at h;have h1:=ON.find?_some h;have h2:=ON.mem_of_find?_eq_some h;simp only[NK,NR]at h1;exact⟨by simpa using h2,h1.1,h1.2⟩
theorem lr {ops:OC Nu}{C:Nat->TypeId->OK (ON AV)}{K:ON AV->ON Box->Prop}:∀{l:ON Nat}{tm:ON AV}{H:ON Box},tz ops C l tm H K->∀i∈l,∀T,(zq ops i).op = .alloc T->∃cs,C i T=some cs
 |[],_,_,_,i,hi,_,_=>by simp at hi
 |k::l,tm,H,h,i,hi,T,hT=>by
  unfold tz at h;rcases MU.1 hi with rfl|hi
  ·rw[hT]at h;simp only at h;split at h
   ·rename_i cs hc;exact⟨cs,hc⟩
   ·exact h.elim
  ·split at h
   ·split at h
    ·exact lr h i hi T hT
    ·exact h.elim
   ·exact h.elim
section
variable {P:Ng}{G:Nat->OK (ON D)}{nb:Nat}{rd:OK Nat}{ops:OC Nu}{H:ON Box}{c0:Cx}{w0:N4}{Kend:ON AV->Prop}{listed:OC Bool}{a:NI}{w:N4}{c:Cx}{tm:ON AV}{done r:ON Nat}{B:Nat->Nat}{Z:Nat->Obj}
def Ss (P:Ng) (G:Nat->OK (ON D)) (ops:OC Nu) (H:ON Box) (listed:OC Bool) (w:N4) (c:Cx) (tm:ON AV) (k:Nat) (T:TypeId) (cs:OC Value):Prop :=match vJ ops k with
 |some j=>if y4 listed j=true then ∃aas,pn P G ops tm k T=some aas/\z8 (λv a=>RA c H w a v) cs.toList aas else ∃z,yo P T=some z/\cs=z.cells
 |none=>∃z,yo P T=some z/\cs=z.cells
def jv (P:Ng) (G:Nat->OK (ON D)) (nb:Nat) (ops:OC Nu) (H:ON Box) (c0:Cx) (w0:N4) (Kend:ON AV->Prop) (listed:OC Bool) (a:NI) (w:N4):Prop :=∃c tm done B Z,Kh P G nb ops H c0 w0 Kend listed a w c tm done [] B Z (λ_=>NL)/\(∀(k:Nat) o T,ops[k]? = some o->o.op = .alloc T->k<zl ops->y4 listed k=true->∃cs,Z k = .cells cs T (0,0)/\Ss P G ops H listed w c tm k T cs)
theorem lL.aside {m:Nat}{w1:N4}{ds:ON Deferred}{cs:OC Value}{T:TypeId}(hA:Aside' c w w1 m) (hw:w.heap[m]? = some (.cells cs T (0,0))) (h:lL nb c w ds):lL nb c w1 ds:=by obtain⟨h0,ms,h1,h2,h3⟩:=h;refine⟨by rw[hA.size];exact h0,ms,h1,h2,λk hk=>?_⟩;obtain⟨a1,a2,a3,a4,a5⟩:=h3 k hk;refine⟨a1,?_,a3,a4,a5⟩;rw[hA.other k (λe=>by rw[e,hw]at a2;cases a2)];exact a2
theorem jv.store {Q:Me->NI->N4->Prop}{i:Nat}(hd:LC ops) (hS:SOk ops) (hke:∀tm,Kend tm->∀k∈zU ops,∀T,(zq ops k).op = .alloc T->∃cs,pn P G ops tm k T=some cs) (h:jv P G nb ops H c0 w0 Kend listed a w) (hisz:i<ops.size) (hi:zl ops<=i) (hul:y4 listed i=false) (hb:∀k,xr ops i k=true->y4 listed k=true): wpOpIn (wF rd) 0 P ops Q i (λa' w'=>jv P G nb ops H c0 w0 Kend (listed.setIfInBounds i true) a' w') a w:=by
 obtain⟨c,tm,done,B,Z,hD,hZ⟩:=h;obtain⟨k,T,d,x,hk,hfo,hst,hop,hdst,hbit,hgu,hds⟩:=hS.fill i hisz hi;have hoi:=zi hisz;have hkh:k<zl ops:=by simp only[zU,Lh,Lp]at hk;exact hk.1
 have hksz:k<ops.size:=MM hkh (yD ops);have hkl:=hb k hbit;have hki:k≠i:=by omega
 obtain⟨d',e1,htmp,hown,hge⟩:=hD.fresh k _ T (zi hksz) hop hkh hkl;rw[hdst]at e1;cases e1;obtain⟨cs,hzk,hin⟩:=hZ k _ T (zi hksz) hop hkh hkl;rw[hzk]at hown;obtain⟨z,hz,rfl⟩:∃z,yo P T=some z/\cs=z.cells:=by unfold Ss at hin;rw[hfo]at hin;simp only[hul]at hin;simpa using hin
 have hkend:Kend tm:=by have:=hD.v;simpa only[jy]using this
 obtain⟨aas,haas⟩:=hke tm hkend k hk T hop;have haas':=haas;unfold pn at haas';rw[hfo]at haas';simp only[hst]at haas';split at haas'
 ·rename_i ys n z' hys hsz hz';rw[hz]at hz';cases hz';split at haas'
  ·rename_i hlen;cases haas';simp only[NK]at hlen;have hl1:=Hx hlen.1;have hl2:=Hx hlen.2;have hx:=yW (G:=G) (hD.rep hb) (show uo a.tmps []from λ_ _ h=>by cases h) x;obtain⟨hv,hone⟩:=w7 hx hys;have hopi:(zq ops i).op = .store T (.tmp d) x:=by
    unfold oL at hst;split at hst
    ·rename_i T1 d1 x1 h1;cases hst;exact h1
    ·cases hst
   refine sy hoi hgu ?_;have hptr:a.eval (.tmp d) = .pointer (some ⟨B k,0,none⟩):=by have:a.eval (.tmp d)=a.tmps.getD d undef:=rfl;rw[this,Lk,htmp];rfl
   have hvl:(a.eval x).cells.toList.length=n:=by rw[hv.1,hl1]
   have hrun:=run_storeCells_at P (B k) 0 T (a.eval x).cells.toList 0 z.cells w hown.2.1 (by omega) hone;have erow:(NW 0 z.cells.toList++(a.eval x).cells.toList++ON.drop (0+(a.eval x).cells.toList.length) z.cells.toList).toArray=(a.eval x).cells:=by rw[ON.take_zero,ON.nil_append,Ls (by rw[LP,hvl];simp[hl2]),ON.append_nil,OC.toArray_toList]
   simp only[Jm]at hrun;rw[erow]at hrun;have hA:Aside' c w (w.setRow (B k) (a.eval x).cells) (B k):=⟨rfl,rfl,rfl,by simp,λb' hb'=>setRow_other w (B k) b' _ hb',hown.2.2.1,hown.2.2.2.1,hown.2.2.2.2⟩;have hwB:(w.setRow (B k) (a.eval x).cells).heap[B k]? = some (.cells (a.eval x).cells T (0,0)):=setRow_heap w (B k) _ _ T (0,0) hown.2.1;have hsv:(J6 T (.pointer (some ⟨B k,0,none⟩)) (a.eval x)).run P w = .ok () (w.setRow (B k) (a.eval x).cells):=by
    have hszv:¬ (a.eval x).cells.size≠n:=by have:=hvl;simp only[OC.length_toList]at this;omega
    simp only[J6,Ms,JZ,MV,Mt,storeVar,yt hsz,N2 hszv];exact hrun
   have hex:(execOp a.eval (zq ops i)).run P w = .ok .skip (w.setRow (B k) (a.eval x).cells):=by
    have:(execOp a.eval (zq ops i))=(do J6 T (a.eval (.tmp d)) (a.eval x);pure Next.skip:Sem Next):=by simp only[execOp,hopi]
    rw[this,hptr];simp[hsv]
   refine⟨λ_ _=>trivial,?_⟩;rw[KO _ _ _ (by rw[hopi];intro d hd;cases hd),hex];have hlst:∀m,m<zl ops->(y4 (listed.setIfInBounds i true) m=y4 listed m):=λm hm=>by rw[zj hD.lsz hisz,N2 (by omega)]
   have hput:a.put (zq ops i).dst undef=a:=by rw[hds];rfl
   show jv P G nb ops H c0 w0 Kend (listed.setIfInBounds i true) (a.put (zq ops i).dst undef) _;rw[hput];refine⟨c,tm,done,B,λm=>if m=k then .cells (a.eval x).cells T (0,0)else Z m,{ hr:=hA.hr hD.hr,gr:=hA.gr hD.gr,ext:=hA.ext hD.ext hge,keep:=hD.keep,df:=lL.aside hA hown.2.1 hD.df,lsz:=by simp[hD.lsz],closed:=Ih hD.lsz hisz hD.closed hb,len:=hD.len,rng:=hD.rng,slot:= ?_,opt:=hD.opt,v:=hD.v,ord:=hD.ord,dn:=hD.dn,dh:=hD.dh,unl:=λ_ h=>by simp at h,pend:= ?_,fresh:= ?_,binj:= ?_ },?_⟩
   ·intro t y u hy hu hall;have h1:=hD.slot t y u hy hu λm o hm hdm=>by
     rcases hall m o hm hdm with h4|⟨h2,h3⟩
     ·exact .inl h4
     ·rcases M0 m (zl ops)with h5|h5
      ·rw[hlst m h5]at h2;exact .inr ⟨h2,h3⟩
      ·exact .inl h5
    cases y<;>simp only[yA]at h1 ⊢ <;> first
     |exact hA.ra h1
     |exact⟨λhg=>hA.ra (h1.1 hg),h1.2⟩
   ·intro m hm hml hx;rw[hlst m (yS.1 (hD.dh m hm)).1]at hml;exact hD.pend m hm hml hx
   ·intro m o T' hm hop' hmh hml;rw[hlst m hmh]at hml;obtain⟨d',h1,h2,h3,h4⟩:=hD.fresh m o T' hm hop' hmh hml;refine⟨d',h1,h2,?_,h4⟩;by_cases e:m=k
    ·subst e;simp only[if_true];exact⟨by rw[hA.size];exact hown.1,hwB,hown.2.2⟩
    ·simp only[N2 e];have hne:B m≠B k:=λe'=>e (hD.binj m k _ _ _ _ hm (zi hksz) hop' hop hmh hkh hml hkl e');exact⟨by rw[hA.size];exact h3.1,by rw[hA.other _ hne];exact h3.2.1,h3.2.2⟩
   ·intro m m' o o' T1 T2 hm hm' g1 g2 g3 g4 g5 g6 g7;rw[hlst m g3]at g5;rw[hlst m' g4]at g6;exact hD.binj m m' o o' T1 T2 hm hm' g1 g2 g3 g4 g5 g6 g7
   ·intro m o T' hm hop' hmh hml;rw[hlst m hmh]at hml;by_cases e:m=k
    ·subst e;have hT:T'=T:=by rw[y6 hm,hop']at hop;cases hop;rfl
     subst hT;refine⟨(a.eval x).cells,by simp,?_⟩;unfold Ss;rw[hfo];have:y4 (listed.setIfInBounds i true) i=true:=by rw[zj hD.lsz hisz];simp
     simp only[this,if_true];exact⟨_,haas,hv.mono λ_ _ h=>hA.ra h⟩
    ·obtain⟨cs',h1,h2⟩:=hZ m o T' hm hop' hmh hml;refine⟨cs',by simp[e,h1],?_⟩;unfold Ss at h2 ⊢;cases hf:vJ ops m with
     |none=>rw[hf]at h2;exact h2
     |some j =>
      rw[hf]at h2;simp only at h2 ⊢;have hji:j≠i:=λe'=>by subst e';obtain⟨_,_,h5⟩:=uM hf;obtain⟨T5,d5,x5,q1,q2,q3,_⟩:=rr h5;rw[hst]at q1;cases q1;have:=qg hd hm (zi hksz) (by rw[←y6 hm];exact q3) hdst;exact e this
      have hlj:y4 (listed.setIfInBounds i true) j=y4 listed j:=by rw[zj hD.lsz hisz,N2 hji]
      rw[hlj];split
      ·rename_i hl;rw[Nf hl]at h2;obtain⟨aas',q1,q2⟩:=h2;exact⟨aas',q1,q2.mono λ_ _ h=>hA.ra h⟩
      ·rename_i hl;rw[N2 hl]at h2;exact h2
  ·cases haas'
 ·cases haas'
theorem jv.step {Q:Me->NI->N4->Prop}{i:Nat}(hd:LC ops) (hal:∀(k:Nat) o T,ops[k]? = some o->o.op = .alloc T->k<zl ops->∃z,yo P T=some z) (h:jv P G nb ops H c0 w0 Kend listed a w) (hi:i<zl ops) (hul:y4 listed i=false) (hb:∀k,xr ops i k=true->y4 listed k=true): wpOpIn (wF rd) 0 P ops Q i (λa' w'=>jv P G nb ops H c0 w0 Kend (listed.setIfInBounds i true) a' w') a w:=by
 obtain⟨c,tm,done,B,Z,hD,hZ⟩:=h;have hsz0:=hD.lsz;have hisz:i<ops.size:=MM hi (yD ops);have hoi:=zi hisz;have hlf:∀k j,vJ ops k=some j->y4 (listed.setIfInBounds i true) j=y4 listed j:=λk j hf=>by obtain⟨_,h1,_⟩:=uM hf;rw[zj hsz0 hisz,N2 (by omega)]
 cases ha:isAllocO (zq ops i).op with
 |true =>
  cases hop:(zq ops i).op<;>rw[hop]at ha<;>simp[isAllocO]at ha
  rename_i T;obtain⟨z,hz⟩:=hal i _ T hoi hop hi;have e:=Hk c w (.cells z.cells T) hD.hr.ilt hD.hr.jlt;refine sy hoi (hd.allocs i _ hoi hi (by rw[hop];rfl)).1 ?_;refine⟨λ_ _=>trivial,?_⟩;rw[KO _ _ _ (by rw[hop];intro d hd;cases hd),s9 hop hz];refine⟨c,tm,done,_,_,hD.alloc hd hi hop hz hul hb,λk o T' hk hop' hkh hkl=>?_⟩;by_cases e':k=i
  ·subst e';rw[hoi]at hk;simp at hk;rw[←hk,hop]at hop';cases hop';refine⟨z.cells,by simp,?_⟩;unfold Ss;cases hf:vJ ops k with
   |none=>exact⟨z,hz,rfl⟩
   |some j =>
    have hjl:y4 (listed.setIfInBounds k true) j=false:=by
     rw[hlf k j hf];cases hl:y4 listed j with
     |false=>rfl
     |true =>
      obtain⟨_,_,h5⟩:=uM hf;obtain⟨_,_,_,_,_,_,q4,_⟩:=rr h5;have:=hD.closed j k hl q4;have:y4 listed k=true:=this;rw[hul]at this;cases this
    simp only[hjl];exact⟨z,hz,rfl⟩
  ·rw[zj hsz0 hisz,N2 e']at hkl;obtain⟨cs,h1,h2⟩:=hZ k o T' hk hop' hkh hkl;refine⟨cs,by simp[e',h1],?_⟩;unfold Ss at h2 ⊢;cases hf:vJ ops k with
   |none=>rw[hf]at h2;exact h2
   |some j =>
    rw[hf]at h2;simp only[hlf k j hf]at h2 ⊢;split
    ·rename_i hl;rw[Nf hl]at h2;obtain⟨aas,q1,q2⟩:=h2;exact⟨aas,q1,q2.mono λ_ _ h=>h.ext e (Md _ _)⟩
    ·rename_i hl;rw[N2 hl]at h2;exact h2
 |false =>
  have hih:i∈tZ ops:=yS.2 ⟨hi,ha⟩;have ht:isTail (zq ops i).op=false:=tx hoi hi;have hrep:=hD.rep hb;rcases qf hD.ord i hih with hdone|hr
  ·have hp:=hD.pend i hdone hul (λh=>h);refine vZ hoi hrep ht ha hp λv w' c' av a2 hk e k hr hs=>?_;refine⟨c',tm,done,B,Z,hD.ran hd (λm hm=>hm.elim) hdone hul hb hk.2 e k hr hs,λm o T hm hop hmh hml=>?_⟩;have hne:m≠i:=λe'=>by subst e';rw[y6 hm,hop]at ha;simp[isAllocO]at ha
   rw[zj hsz0 hisz,N2 hne]at hml;obtain⟨cs,h1,h2⟩:=hZ m o T hm hop hmh hml;refine⟨cs,h1,?_⟩;unfold Ss at h2 ⊢;cases hf:vJ ops m with
   |none=>rw[hf]at h2;exact h2
   |some j =>
    rw[hf]at h2;simp only[hlf m j hf]at h2 ⊢;split
    ·rename_i hl;rw[Nf hl]at h2;obtain⟨aas,q1,q2⟩:=h2;exact⟨aas,q1,q2.mono λ_ _ h=>h.ext e k⟩
    ·rename_i hl;rw[N2 hl]at h2;exact h2
  ·simp at hr
end
section
variable {P:Ng}{G:Nat->OK (ON D)}{nb:Nat}{rd:OK Nat}{ops:OC Nu}{Q:Me->NI->N4->Prop}
theorem gl {H:ON Box}{c0:Cx}{w0:N4}{K:ON AV->ON Box->Prop}{listed:OC Bool}{a:NI}{w:N4}(hq:∀a' w' c' tm' H',K tm' H'->M5 G nb c' H' w' tm' a'->Nw c0 w0 c' w'->zp c0 H c' H'->Q .normal a' w') (hS:SOk ops) (hall:∀i,i<ops.size->y4 listed i=true) (hM:jv P G nb ops H c0 w0 (λtm1=>tz ops (pn P G ops tm1) (zU ops) (za tm1) H K) listed a w):Q .normal a w:=by
 obtain⟨c,tm,done,B,Z,hD,hZ⟩:=hM;have hk:=hD.v;simp only[jy]at hk;have hsz:∀k,k∈zU ops->k<ops.size:=λk hk=>by simp only[zU,Lh,Lp]at hk;exact MM hk.1 (yD ops)
 have hlt:∀k,k∈zU ops->k<zl ops:=λk hk=>by simp only[zU,Lh,Lp]at hk;exact hk.1
 have hown:∀i∈zU ops,∃T d,(zq ops i).op = .alloc T/\(zq ops i).dst=some d/\a.tmps[d]? = some (.pointer (some ⟨B i,0,none⟩))/\(∃cs aas,po c w (B i) (.cells cs T (0,0))/\pn P G ops tm i T=some aas/\z8 (λv a=>RA c H w a v) cs.toList aas)/\w0.heap.size<=B i:=by
  intro i hi;have hi2:=hi;simp only[zU,Lh,Lp]at hi2;cases hop:(zq ops i).op<;>rw[hop]at hi2<;>simp[isAllocO]at hi2
  rename_i T;obtain⟨d,h1,h2,h3,h4⟩:=hD.fresh i _ T (zi (hsz i hi)) hop hi2 (hall i (hsz i hi));obtain⟨cs,hc1,hc2⟩:=hZ i _ T (zi (hsz i hi)) hop hi2 (hall i (hsz i hi));rw[hc1]at h3;refine⟨T,d,rfl,h1,h2,?_,h4⟩;unfold Ss at hc2;cases hf:vJ ops i with
  |none =>
   rw[hf]at hc2;obtain⟨z,hz,rfl⟩:=hc2;refine⟨_,_,h3,?_,Ii _⟩;unfold pn;rw[hf];simp[oN,hz]
  |some j =>
   rw[hf]at hc2;simp only[hall j (uM hf).1,if_true]at hc2;obtain⟨aas,q1,q2⟩:=hc2;exact⟨_,_,h3,q1,q2⟩
 have hLeft:Left P G nb ops H c0 w0 a w (pn P G ops tm) B (zU ops) (za tm) H c:=by
  refine { hr:=hD.hr,gr:=hD.gr,ext:=hD.ext,keep:=hD.keep,df:=hD.df,len:=by simp[za,hD.len],no:= ?_,slot:= ?_,own:=hown,nd:= ?_,inj:= ?_ }
  ·intro g p x hm;simp only[za,Mj]at hm;obtain⟨y,_,hy⟩:=hm;cases y<;>simp[dull]at hy
  ·intro t x v hx hv hno;simp only[za,M6]at hx;cases hy:tm[t]? with
   |none=>rw[hy]at hx;simp at hx
   |some y =>
    rw[hy]at hx;simp at hx;subst hx;have hs:=hD.slot t y v hy hv λk o hk hdk=>by
     rcases M0 k (zl ops)with h1|h1
     ·right;refine⟨hall k (zO hk),?_⟩;cases ha:isAllocO o.op with
      |false=>rfl
      |true =>
       have hka:k∈zU ops:=by simp only[zU,Lh,Lp];exact⟨h1,by rw[y6 hk];exact ha⟩
       exact No (by rw[y6 hk];exact hdk) (hno k hka)
     ·exact .inl h1
    cases y<;>first
     |exact hs
     |exact Jx v
  ·exact FM (FP) (E5)
  ·intro i hi j hj hB;obtain⟨T,d,o1,_⟩:=hown i hi;obtain⟨T',d',o2,_⟩:=hown j hj;exact hD.binj i j _ _ T T' (zi (hsz i hi)) (zi (hsz j hj)) o1 o2 (hlt i hi) (hlt j hj) (hall i (hsz i hi)) (hall j (hsz j hj)) hB
 obtain⟨tm2,H2,c2,hk2,hR2,he2,hkp2⟩:=uO hsz (zU ops) (za tm) H c (λ_ h=>h) hLeft hk;exact hq a w c2 tm2 H2 hk2 hR2 he2 hkp2
theorem WA {H:ON Box}{c0:Cx}{w0:N4}{K:ON AV->ON Box->Prop}(hd:LC ops) (hS:SOk ops) (hal:∀(k:Nat) o T,ops[k]? = some o->o.op = .alloc T->k<zl ops->∃z,yo P T=some z) (hq:∀a' w' c' tm' H',K tm' H'->M5 G nb c' H' w' tm' a'->Nw c0 w0 c' w'->zp c0 H c' H'->Q .normal a' w'):∀(fuel:Nat) (listed:OC Bool) (a:NI) (w:N4),wC ops listed<=fuel->jv P G nb ops H c0 w0 (λtm1=>tz ops (pn P G ops tm1) (zU ops) (za tm1) H K) listed a w->wpAnyIn (wF rd) 0 P .any ops Q fuel listed a w:=by
 intro fuel;induction fuel with
 |zero =>
  intro listed a w hf hM;have hlsz:listed.size=ops.size:=by obtain⟨_,_,_,_,_,hD,_⟩:=hM;exact hD.lsz
  have hall:∀i,i<ops.size->y4 listed i=true:=λi hi=>by
   cases hx:y4 listed i with
   |true=>rfl
   |false =>
    have:0<wC ops listed:=Hw.2 ⟨i,by simpa using hi,by simp[hx]⟩;omega
  refine⟨HH.2 λi hi=>?_,gl hq hS hall hM⟩;obtain⟨o,ho,h1,_⟩:=(zE hlsz).1 hi;rw[hall i (zO ho)]at h1;cases h1
 |succ fuel ih =>
  intro listed a w hf hM;have hlsz:listed.size=ops.size:=by obtain⟨_,_,_,_,_,hD,_⟩:=hM;exact hD.lsz
  have hcl:xt ops listed:=by obtain⟨_,_,_,_,_,hD,_⟩:=hM;exact hD.closed
  refine⟨λh0=>?_,λi hi=>?_⟩
  ·refine gl hq hS (λi hi=>?_) hM;rcases KN (∃i,i<ops.size/\y4 listed i=false)with h|h
   ·exfalso;obtain⟨i0,h1,h2,h3⟩:=xn ops.size h;have hready:i0∈K8 .any ops listed:=(zE hlsz).2 ⟨_,zi h1,h2,λe he hb=>h3 _ (hd.edges i0 _ (zi h1) e he hb)⟩;rw[h0]at hready;simp at hready
   ·cases hx:y4 listed i with
    |true=>rfl
    |false=>exact No ⟨i,hi,hx⟩ h
  ·obtain⟨o,ho,hul,_⟩:=(zE hlsz).1 hi;have hb:∀k,xr ops i k=true->y4 listed k=true:=wr hcl ho hi;have hisz:=zO ho;have hdec:wC ops (listed.setIfInBounds i true)+1<=wC ops listed:=wD (p:=λk=>!y4 listed k) (q:=λk=>!y4 (listed.setIfInBounds i true) k) (i:=i) (Mq ops.size) (λk hk=>by
    rw[zj hlsz hisz]at hk;split at hk
    ·simp at hk
    ·exact hk) (by simp[hul]) (by rw[zj hlsz hisz];simp) (by simpa using hisz)
   rcases M0 i (zl ops)with hih|hih
   ·exact wpOpIn_mono (λa' w' hM'=>ih _ a' w' (by omega) hM') (jv.step hd hal hM hih hul hb)
   ·exact wpOpIn_mono (λa' w' hM'=>ih _ a' w' (by omega) hM') (jv.store hd hS (λtm htm k hk T hT=>lr htm k hk T hT) hM hisz hih hul hb)
theorem gk {c:Cx}{H:ON Box}{w:N4}{tm:ON AV}{a:NI}{K:ON AV->ON Box->Prop}(hR:M5 G nb c H w tm a) (h:WB P G ops tm H K) (hq:∀a' w' c' tm' H',K tm' H'->M5 G nb c' H' w' tm' a'->Nw c w c' w'->zp c H c' H'->Q .normal a' w'):wpAnyIn (wF rd) 0 P .any ops Q ops.size (Mb ops.size false) a { w with drawn:=w.drawn+1 }:=by
 unfold WB at h;split at h
 ·rename_i hok;simp only[NK]at hok;obtain⟨⟨⟨hok,hno⟩,hrng⟩,halz⟩:=hok;have hd:=fJ hok;have hS:=SOk.of hok;have hal:∀(k:Nat) o T,ops[k]? = some o->o.op = .alloc T->k<zl ops->∃z,yo P T=some z:=by intro k o T hk hop _;have:=ND.1 halz o (by simpa using JN hk);rw[hop]at this;exact Jg.1 this
  have hlst:∀k,y4 (Mb ops.size false) k=false:=by
   intro k;unfold y4;rw[Lk];by_cases hk:k<ops.size
   ·simp[hk]
   ·simp[I7 (show(Mb ops.size false).size<=k by simpa using hk)]
  have hnoopt:∀g p x,JA g p x∉tm:=λg p x hx=>by have:=ND.1 hno _ hx;simp[noOptB]at this
  have hD:Kh P G nb ops H c w (λtm1=>tz ops (pn P G ops tm1) (zU ops) (za tm1) H K) (Mb ops.size false) a { w with drawn:=w.drawn+1 } c tm [] (pp ops) (λ_=>0) (λ_=>.cells #[] 0 (0,0)) (λ_=>NL):=by
   refine { hr:=hR.hr.drew _,gr:=hR.gr.ext (LY c w _),ext:=LY c w _,keep:=Md _ _,df:=hR.df.ext (LY c w _),lsz:=by simp,closed:= ?_,len:= ?_,rng:= ?_,slot:= ?_,opt:= ?_,v:=h,ord:=hd.ord,dn:= ?_,dh:= ?_,unl:=λi _=>hlst i,pend:= ?_,fresh:= ?_,binj:= ?_ }
   ·intro j i hj _;have:y4 (Mb ops.size false) j=true:=hj;rw[hlst]at this;cases this
   ·have:=hR.tm.1;simpa using this.symm
   ·intro k o d hk hdk;have:=ND.1 hrng o (by simpa using JN hk);rw[hdk]at this;simpa using this
   ·intro t x v hx hv _;have:=hR.tm.2 t v x (by simpa using hv) hx;exact this.ext (LY c w _) (Md _ _)
   ·intro t g p x hx;exact No (MX hx) (hnoopt g p x)
   ·intro k hk;simp at hk
   ·intro k hk;simp at hk
   ·intro k hk;simp at hk
   ·intro i o T _ _ _ hl;rw[hlst]at hl;cases hl
   ·intro i i' o o' T T' _ _ _ _ _ _ hl;rw[hlst]at hl;cases hl
  obtain⟨tm',done',r',hD',hrc⟩:=hD.advance hd;have hr':r'=[]:=by
   rcases hrc with h|⟨i,r'',rfl,hcall⟩
   ·exact h
   ·have h1:=yS.1 (x8 hD'.ord i (by simp)).1;rw[hS.nocall i h1.1]at hcall;cases hcall
  subst hr';refine WA hd hS hal hq ops.size _ a _ ?_ ⟨c,tm',done',_,_,hD',λk o T _ _ _ hl=>by rw[hlst]at hl;cases hl⟩;have:=IY (p:=λi=>!y4 (Mb ops.size false) i) (l:=Mq ops.size);simpa[wC]using this
 ·exact h.elim
end
def Ri (ops:OC Nu):OK Nat:=(Mq (zl ops)).find? λi=>!xr ops (zl ops) i
def lG (ops:OC Nu):Bool :=nodupB (ops.toList.filterMap (·.dst)) && ((Mq ops.size).all λj=>(zq ops j).after.toList.all λe=>!Kp .any e||decide (e.on<j)) && ((Mq (zl ops)).all λj=>!isAllocO (zq ops j).op||((zq ops j).guard.isNone&&(zq ops j).dst.isSome)) && wK ops (tZ ops) (pp ops) [] && decide (zl ops+1=ops.size) && (match Ri ops,(zq ops (zl ops)).op with
  |some z,.store _ (.tmp p) (.tmp q) =>
   match (zq ops z).op,(zq ops z).dst with
   |.extract (.tmp _) _,some d=>(zq ops z).guard.isNone&&(zq ops (zl ops)).guard.isNone&&(zq ops (zl ops)).dst.isNone&& !KE d p&& !KE d q&&decide (z<zl ops)&&((Mq (zl ops)).all λi=>KE i z||xr ops (zl ops) i)
   |_,_=>false
  |_,_=>false)
def V0 (P:Ng) (G:Nat->OK (ON D)) (ops:OC Nu) (tm:ON AV) (H:ON Box) (K:ON AV->ON Box->Prop):Prop :=if lG ops&&tm.all noOptB&&(ops.toList.all λo=>match o.dst with|some d=>decide (d<tm.length)|none=>true)&&(ops.toList.all λo=>match o.op with|.alloc T=>(yo P T).isSome|_=>true)then jy P G ops (pp ops) tm H λtm1=>x7 P ops (zU ops) (za tm1) H λtm2 H2=>t8 P G ops (ops.toList.drop (zl ops)) tm2 H2 K else NL
structure VOk (ops:OC Nu):Prop where
 one:zl ops+1=ops.size
 ex:∃(z d s k p q:Nat) (T:TypeId),z<zl ops/\(zq ops z).op = .extract (.tmp s) k/\(zq ops z).dst=some d/\(zq ops z).guard=none/\(zq ops (zl ops)).op = .store T (.tmp p) (.tmp q)/\(zq ops (zl ops)).guard=none/\(zq ops (zl ops)).dst=none/\d≠p/\d≠q/\∀i,i<zl ops->i≠z->xr ops (zl ops) i=true
theorem fI {ops:OC Nu}(h:lG ops=true):LC ops/\VOk ops:=by
 simp only[lG,NK]at h;obtain⟨⟨⟨⟨⟨h1,h2⟩,h4⟩,h5⟩,h6⟩,h7⟩:=h;refine⟨⟨nodupB_spec h1,λj o ho e he hb=>?_,λj o ho hj ha=>?_,h5⟩,M3 h6,?_⟩
 ·have:=ND.1 h2 j (by simp;exact zO ho);rw[y6 ho]at this;have:=ND.1 this e he;simpa[hb]using this
 ·have:=ND.1 h4 j (by simpa using hj);rw[y6 ho]at this;simp only[ha,K6,LF,NK]at this;exact⟨by simpa using this.1,Jg.1 this.2⟩
 ·split at h7
  ·rename_i z T p q hz hop;split at h7
   ·rename_i s k d hzo hzd;simp only[NK,Lc,NR,OK.isNone_iff_eq_none]at h7;obtain⟨⟨⟨⟨⟨⟨g1,g2⟩,g3⟩,g4⟩,g5⟩,g6⟩,g7⟩:=h7;refine⟨z,d,s,k,p,q,T,g6,hzo,hzd,g1,hop,g2,g3,λe=>by subst e;simp at g4,λe=>by subst e;simp at g5,λi hi hne=>?_⟩;have:=ND.1 g7 i (by simpa using hi);simp only[L4]at this;rcases this with h|h
    ·exact No (Hx h) hne
    ·exact h
   ·cases h7
  ·cases h7
section
variable {P:Ng}{G:Nat->OK (ON D)}{nb:Nat}{rd:OK Nat}{ops:OC Nu}
theorem cF {x:Value}{k:Nat}{w:N4}{r:Result Value}(h:(JJ x k).run P w=r):(∃v,r = .ok v w/\∀w2,(JJ x k).run P w2 = .ok v w2)∨ ∃e w',r = .halt e w':=by
 subst h;unfold JJ;cases x<;>first
  |exact .inr ⟨_,_,rfl⟩
  |skip
 rename_i vs;dsimp only;cases h:vs[k]? with
 |none=>first|exact .inr ⟨_,_,rfl⟩|(simp[h];done)
 |some v=>exact .inl ⟨v,by simp[h],λw2=>by simp[h]⟩
theorem cE {a:NI}{d t:Nat}{v:Value}(h:d≠t):(a.put (some d) v).eval (.tmp t)=a.eval (.tmp t):=by simp only[NI.put,F6];simp only[Lk,Kg];rw[N2 h]
theorem cD {H:ON Box}{c0:Cx}{w0:N4}{K:ON AV->ON Box->Prop}{Q:Me->NI->N4->Prop}{fuel:Nat}{listed:OC Bool}{a:NI}{w:N4}(hd:LC ops) (hv:VOk ops) (hal:∀(k:Nat) o T,ops[k]? = some o->o.op = .alloc T->k<zl ops->∃z,yo P T=some z) (hq:∀a' w' c' tm' H',K tm' H'->M5 G nb c' H' w' tm' a'->Nw c0 w0 c' w'->zp c0 H c' H'->Q .normal a' w') (hf:wC ops listed<=fuel+1) (hul:y4 listed (zl ops)=false) (hb:∀k,xr ops (zl ops) k=true->y4 listed k=true) (hnall:¬ ∀i,i<zl ops->y4 listed i=true) (hM:Tl P G nb ops H c0 w0 (λtm1=>x7 P ops (zU ops) (za tm1) H λtm2 H2=>t8 P G ops (ops.toList.drop (zl ops)) tm2 H2 K) listed a w):wpOpIn (wF rd) 0 P ops Q (zl ops) (wpAnyIn (wF rd) 0 P .any ops Q fuel (listed.setIfInBounds (zl ops) true)) a w:=by
 obtain⟨hone,z,d,s,kx,p,q,T,hz,hzo,hzd,hzg,hjo,hjg,hjd,hdp,hdq,hanc⟩:=hv;have hjs:zl ops<ops.size:=by omega
 have hzs:z<ops.size:=by omega
 have hlsz:listed.size=ops.size:=by obtain⟨_,_,_,_,_,_,hD,_⟩:=hM;exact hD.lsz
 have hcl:xt ops listed:=by obtain⟨_,_,_,_,_,_,hD,_⟩:=hM;exact hD.closed
 have hoth:∀i,i<zl ops->i≠z->y4 listed i=true:=λi hi hne=>hb i (hanc i hi hne);have hzul:y4 listed z=false:=by
  cases hx:y4 listed z with
  |false=>rfl
  |true=>exact No (λi hi=>by
    by_cases e:i=z
    ·subst e;exact hx
    ·exact hoth i hi e) hnall
 have hzne:z≠zl ops:=by omega
 have hedge:∀j,j<ops.size->∀k,xr ops j k=true->k<j:=λj hj k hk=>by exact WJ hd j k hk
 have hbz:∀k,xr ops z k=true->y4 listed k=true:=λk hk=>by have:=hedge z hzs k hk;exact hoth k (by omega) (by omega)
 have h1:=D5 (rd:=rd) (Q:=λ_ _ _=>NL) hd hal hM hz hzul hbz;unfold wpOpIn at h1;rw[zi hzs]at h1;simp only at h1;rw[Nf (by simp[L5,hzg])]at h1;have h1:=h1.2;have hzc:∀(ev:NF->Value) (w:N4),(execOp ev (zq ops z)).run P w=((JJ (ev (.tmp s)) kx).run P w).andThen λv w'=>.ok (.value v) w':=by intro ev w;simp only[execOp,hzo,Ms,MV]
 rw[KO _ _ _ (by rw[hzo];intro d hd;cases hd),hzc]at h1;obtain⟨v,hr,hall⟩:∃v,(JJ (a.eval (.tmp s)) kx).run P w = .ok v w/\∀w2,(JJ (a.eval (.tmp s)) kx).run P w2 = .ok v w2:=by
  rcases cF (P:=P) (w:=w) (x:=a.eval (.tmp s)) (k:=kx) rfl with⟨v,hr,hall⟩|⟨e,w',hr⟩
  ·exact⟨v,hr,hall⟩
  ·exfalso;rw[hr]at h1;cases e<;>exact h1.elim
 rw[hr]at h1;simp only[Mt,DJ,hzd]at h1;let Q0:Me->NI->N4->Prop:=λe a w=>e = .normal/\∃c' tm' H',K tm' H'/\M5 G nb c' H' w tm' a/\Nw c0 w0 c' w/\zp c0 H c' H';have hall2:∀i,i<zl ops->y4 (listed.setIfInBounds z true) i=true:=λi hi=>by
  rw[zj hlsz hzs];by_cases e:i=z
  ·simp[e]
  ·rw[N2 e];exact hoth i hi e
 have h2:=ru (rd:=rd) (Q:=Q0) (fuel:=wC ops (listed.setIfInBounds z true)+1) hd (λj hj hh i h3 hi=>by omega) (λa' w' c' tm' H' k1 k2 k3 k4=>⟨rfl,c',tm',H',k1,k2,k3,k4⟩) (Nat.le_succ _) hall2 h1;have hsz2:(listed.setIfInBounds z true).size=ops.size:=by simp[hlsz]
 have hjul2:y4 (listed.setIfInBounds z true) (zl ops)=false:=by rw[zj hlsz hzs,N2 (Ne.symm hzne)];exact hul
 have hready2:zl ops∈K8 .any ops (listed.setIfInBounds z true):=(zE hsz2).2 ⟨_,zi hjs,hjul2,λe he hbb=>hall2 _ (hd.edges _ _ (zi hjs) e he hbb)⟩;have h3:=h2.2 _ hready2;unfold wpOpIn at h3;rw[zi hjs]at h3;simp only at h3;rw[Nf (by simp[L5,hjg])]at h3;have h3:=h3.2;have hjc:∀(ev:NF->Value) (w:N4),(execOp ev (zq ops (zl ops))).run P w=((J6 T (ev (.tmp p)) (ev (.tmp q))).run P w).andThen λ_ w'=>.ok .skip w':=by intro ev w;simp only[execOp,hjo,Ms,MV]
 rw[KO _ _ _ (by rw[hjo];intro d hd;cases hd),hjc,cE hdp,cE hdq]at h3;have hnone:∀(l:OC Bool),l.size=ops.size->(∀k,k<ops.size->y4 l k=true)->K8 .any ops l=[]:=λl hl h=>HH.2 λi hi=>by obtain⟨o,ho,h5,_⟩:=(zE hl).1 hi;rw[h i (zO ho)]at h5;cases h5
 have hdone:∀(l:OC Bool) (fuel:Nat) (a:NI) (w:N4) (Q:Me->NI->N4->Prop),l.size=ops.size->(∀k,k<ops.size->y4 l k=true)->wpAnyIn (wF rd) 0 P .any ops Q fuel l a w->Q .normal a w:=λl fuel a w Q hl h hw=>by
  cases fuel with
  |zero=>exact hw.2
  |succ n=>exact hw.1 (hnone l hl h)
 have hback:∀(l:OC Bool) (fuel:Nat) (a:NI) (w:N4),l.size=ops.size->(∀k,k<ops.size->y4 l k=true)->Q .normal a w->wpAnyIn (wF rd) 0 P .any ops Q fuel l a w:=λl fuel a w hl h hw=>by
  cases fuel with
  |zero=>exact⟨hnone l hl h,hw⟩
  |succ n=>exact⟨λ_=>hw,λi hi=>by rw[hnone l hl h]at hi;simp at hi⟩
 refine sy (zi hjs) hjg ?_;refine⟨λ_ _=>trivial,?_⟩;rw[KO _ _ _ (by rw[hjo];intro d hd;cases hd),hjc];cases hs:(J6 T (a.eval (.tmp p)) (a.eval (.tmp q))).run P w with
 |halt e w' =>
  rw[hs]at h3;cases e<;>first
   |exact h3.elim
   |exact No h3.1 (by simp)
 |ok u w2 =>
  rw[hs]at h3;simp only[Mt,Nu.uponIn_skip,hjd]at h3 ⊢;have hp1:∀(a:NI) (v:Value),a.put none v=a:=λa v=>rfl;rw[hp1]at h3 ⊢;have hall3:∀k,k<ops.size->y4 ((listed.setIfInBounds z true).setIfInBounds (zl ops) true) k=true:=λk hk=>by
   rw[zj hsz2 hjs];by_cases e:k=zl ops
   ·simp[e]
   ·rw[N2 e];exact hall2 k (by omega)
  obtain⟨_,c',tm',H',k1,k2,k3,k4⟩:=hdone _ _ _ _ _ (by simp[hlsz]) hall3 h3;have hQ:=hq _ _ _ _ _ k1 k2 k3 k4;have hsz3:(listed.setIfInBounds (zl ops) true).size=ops.size:=by simp[hlsz]
  have hlz:y4 (listed.setIfInBounds (zl ops) true) z=false:=by rw[zj hlsz hjs,N2 hzne];exact hzul
  have hready3:z∈K8 .any ops (listed.setIfInBounds (zl ops) true):=(zE hsz3).2 ⟨_,zi hzs,hlz,λe he hbb=>by
   have h5:=hd.edges _ _ (zi hzs) e he hbb;rw[zj hlsz hjs];by_cases e1:e.on=zl ops
   ·simp[e1]
   ·rw[N2 e1];exact hoth _ (by omega) (by omega)⟩
  cases fuel with
  |zero =>
   exfalso;have hdec:wC ops (listed.setIfInBounds (zl ops) true)+1<=wC ops listed:=wD (p:=λk=>!y4 listed k) (q:=λk=>!y4 (listed.setIfInBounds (zl ops) true) k) (i:=zl ops) (Mq ops.size) (λk hk=>by
    rw[zj hlsz hjs]at hk;split at hk
    ·simp at hk
    ·exact hk) (by simp[hul]) (by rw[zj hlsz hjs];simp) (by simpa using hjs)
   have:0<wC ops (listed.setIfInBounds (zl ops) true):=Hw.2 ⟨z,by simp;exact hzs,by simp[hlz]⟩;omega
  |succ fuel =>
   refine⟨λh0=>by rw[h0]at hready3;simp at hready3,λi hi=>?_⟩;obtain⟨o,ho,h5,_⟩:=(zE hsz3).1 hi;have hiz:i=z:=by
    rw[zj hlsz hjs]at h5;split at h5
    ·cases h5
    ·rename_i hne;have:=zO ho;by_cases e:i=z
     ·exact e
     ·rw[hoth i (by omega) e]at h5;cases h5
   subst hiz;refine sy (zi hzs) hzg ?_;refine⟨λ_ _=>trivial,?_⟩;rw[KO _ _ _ (by rw[hzo];intro d hd;cases hd),hzc,hall w2];simp only[Mt,DJ,hzd];refine hback _ _ _ _ (by simp[hlsz]) (λk hk=>?_) hQ;rw[zj hsz3 hzs];by_cases e:k=i
   ·simp[e]
   ·rw[N2 e,zj hlsz hjs];by_cases e1:k=zl ops
    ·simp[e1]
    ·rw[N2 e1];exact hoth k (by omega) e
theorem V1 {H:ON Box}{c0:Cx}{w0:N4}{K:ON AV->ON Box->Prop}{Q:Me->NI->N4->Prop}(hd:LC ops) (hv:VOk ops) (hal:∀(k:Nat) o T,ops[k]? = some o->o.op = .alloc T->k<zl ops->∃z,yo P T=some z) (hq:∀a' w' c' tm' H',K tm' H'->M5 G nb c' H' w' tm' a'->Nw c0 w0 c' w'->zp c0 H c' H'->Q .normal a' w'):∀(fuel:Nat) (listed:OC Bool) (a:NI) (w:N4),wC ops listed<=fuel->Tl P G nb ops H c0 w0 (λtm1=>x7 P ops (zU ops) (za tm1) H λtm2 H2=>t8 P G ops (ops.toList.drop (zl ops)) tm2 H2 K) listed a w->wpAnyIn (wF rd) 0 P .any ops Q fuel listed a w:=by
 have hone:=hv.one;have hdt:∀j,j<ops.size->zl ops<=j->∀i,zl ops<=i->i<j->xr ops j i=true:=λj hj hh i h3 hi=>by omega
 intro fuel;induction fuel with
 |zero =>
  intro listed a w hf hM;refine ru hd hdt hq hf (λi hi=>?_) hM;cases hx:y4 listed i with
  |true=>rfl
  |false =>
   have:0<wC ops listed:=Hw.2 ⟨i,by simp;exact MM hi (yD ops),by simp[hx]⟩;omega
 |succ fuel ih =>
  intro listed a w hf hM;by_cases hall:∀i,i<zl ops->y4 listed i=true
  ·exact ru hd hdt hq hf hall hM
  ·have hex:∃i,i<zl ops/\y4 listed i=false:=by
    rcases KN (∃i,i<zl ops/\y4 listed i=false)with h|h
    ·exact h
    ·exact No (λi hi=>by
      cases hx:y4 listed i with
      |true=>rfl
      |false=>exact No ⟨i,hi,hx⟩ h) hall
   obtain⟨i0,h1,h2,h3⟩:=xn (zl ops) hex;have hlsz:listed.size=ops.size:=by obtain⟨_,_,_,_,_,_,hD,_⟩:=hM;exact hD.lsz
   have hcl:xt ops listed:=by obtain⟨_,_,_,_,_,_,hD,_⟩:=hM;exact hD.closed
   have hi0:i0<ops.size:=MM h1 (yD ops);have hready:i0∈K8 .any ops listed:=(zE hlsz).2 ⟨_,zi hi0,h2,λe he hb=>h3 _ (hd.edges i0 _ (zi hi0) e he hb)⟩;refine⟨λh0=>by rw[h0]at hready;simp at hready,λi hi=>?_⟩;obtain⟨o,ho,hul,_⟩:=(zE hlsz).1 hi;have hb:∀k,xr ops i k=true->y4 listed k=true:=wr hcl ho hi;have hisz:=zO ho;rcases M0 i (zl ops)with hih|hge
   ·refine wpOpIn_mono (λa' w' hM'=>ih _ a' w' ?_ hM') (D5 hd hal hM hih hul hb);have hdec:wC ops (listed.setIfInBounds i true)+1<=wC ops listed:=wD (p:=λk=>!y4 listed k) (q:=λk=>!y4 (listed.setIfInBounds i true) k) (i:=i) (Mq ops.size) (λk hk=>by
     rw[zj hlsz hisz]at hk;split at hk
     ·simp at hk
     ·exact hk) (by simp[hul]) (by rw[zj hlsz hisz];simp) (by simpa using hisz)
    omega
   ·have:i=zl ops:=by omega
    subst this;exact cD hd hv hal hq hf hul hb hall hM
theorem gj {c:Cx}{H:ON Box}{w:N4}{tm:ON AV}{a:NI}{K:ON AV->ON Box->Prop}{Q:Me->NI->N4->Prop}(hR:M5 G nb c H w tm a) (h:V0 P G ops tm H K) (hq:∀a' w' c' tm' H',K tm' H'->M5 G nb c' H' w' tm' a'->Nw c w c' w'->zp c H c' H'->Q .normal a' w'):wpAnyIn (wF rd) 0 P .any ops Q ops.size (Mb ops.size false) a { w with drawn:=w.drawn+1 }:=by
 unfold V0 at h;split at h
 ·rename_i hok;simp only[NK]at hok;obtain⟨⟨⟨hok,hno⟩,hrng⟩,halz⟩:=hok;obtain⟨hd,hv⟩:=fI hok;have hal:∀(k:Nat) o T,ops[k]? = some o->o.op = .alloc T->k<zl ops->∃z,yo P T=some z:=by intro k o T hk hop _;have:=ND.1 halz o (by simpa using JN hk);rw[hop]at this;exact Jg.1 this
  have hlst:∀k,y4 (Mb ops.size false) k=false:=by
   intro k;unfold y4;rw[Lk];by_cases hk:k<ops.size
   ·simp[hk]
   ·simp[I7 (show(Mb ops.size false).size<=k by simpa using hk)]
  have hnoopt:∀g p x,JA g p x∉tm:=λg p x hx=>by have:=ND.1 hno _ hx;simp[noOptB]at this
  have hD:Kh P G nb ops H c w (λtm1=>x7 P ops (zU ops) (za tm1) H λtm2 H2=>t8 P G ops (ops.toList.drop (zl ops)) tm2 H2 K) (Mb ops.size false) a { w with drawn:=w.drawn+1 } c tm [] (pp ops) (λ_=>0) (λ_=>.cells #[] 0 (0,0)) (λ_=>NL):=by
   refine { hr:=hR.hr.drew _,gr:=hR.gr.ext (LY c w _),ext:=LY c w _,keep:=Md _ _,df:=hR.df.ext (LY c w _),lsz:=by simp,closed:= ?_,len:= ?_,rng:= ?_,slot:= ?_,opt:= ?_,v:=h,ord:=hd.ord,dn:= ?_,dh:= ?_,unl:=λi _=>hlst i,pend:= ?_,fresh:= ?_,binj:= ?_ }
   ·intro j i hj _;have:y4 (Mb ops.size false) j=true:=hj;rw[hlst]at this;cases this
   ·have:=hR.tm.1;simpa using this.symm
   ·intro k o d hk hdk;have:=ND.1 hrng o (by simpa using JN hk);rw[hdk]at this;simpa using this
   ·intro t x v hx hv _;have:=hR.tm.2 t v x (by simpa using hv) hx;exact this.ext (LY c w _) (Md _ _)
   ·intro t g p x hx;exact No (MX hx) (hnoopt g p x)
   ·intro k hk;simp at hk
   ·intro k hk;simp at hk
   ·intro k hk;simp at hk
   ·intro i o T _ _ _ hl;rw[hlst]at hl;cases hl
   ·intro i i' o o' T T' _ _ _ _ _ _ hl;rw[hlst]at hl;cases hl
  obtain⟨tm',done',r',hD',hrc⟩:=hD.advance hd;refine V1 hd hv hal hq ops.size _ a _ ?_ ⟨c,tm',done',r',_,_,hD',(λk o T _ _ _ hl=>by rw[hlst]at hl;cases hl),(λj _=>hlst j),hrc⟩;have:=IY (p:=λi=>!y4 (Mb ops.size false) i) (l:=Mq ops.size);simpa[wC]using this
 ·exact h.elim
end
section
variable {P:Ng}{G:Nat->OK (ON D)}{nb:Nat}{rd:OK Nat}{ops:OC Nu}{Hb:ON Box}{c0:Cx}{w0:N4}{Kend:ON AV->ON Box->Prop}{listed:OC Bool}{a:NI}{w:N4}{c:Cx}{Hc Ha:ON Box}{tm:ON AV}{done r pq:ON Nat}{B:Nat->Nat}
def XV (P:Ng) (G:Nat->OK (ON D)) (nb:Nat) (ops:OC Nu) (Hb:ON Box) (c0:Cx) (w0:N4) (Kend:ON AV->ON Box->Prop) (listed:OC Bool) (a:NI) (w:N4):Prop :=∃c Hc Ha tm done r pq B,DinT P G nb ops Hb c0 w0 Kend listed a w c Hc Ha tm done r pq B (λ_=>NL)/\(r=[]∨ ∃i r',r=i::r'/\isCallV (zq ops i).op=true)
theorem DinT.alloc {i:Nat}{T:TypeId}{z:Value}(hd:DOkT ops) (h:DinT P G nb ops Hb c0 w0 Kend listed a w c Hc Ha tm done r pq B (λ_=>NL)) (hi:i<yy ops) (hop:(zq ops i).op = .alloc T) (hz:yo P T=some z) (hul:y4 listed i=false) (hb:∀k,xr ops i k=true->y4 listed k=true): DinT P G nb ops Hb c0 w0 Kend (listed.setIfInBounds i true) (a.put (zq ops i).dst (.pointer (some ⟨w.heap.size,0,none⟩))) { w with heap:=w.heap.push (.cells z.cells T) } c Hc Ha tm done r pq (λk=>if k=i then w.heap.size else B k) (λ_=>NL):=by
 have hisz:i<ops.size:=MM hi hd.le;have hoi:=zi hisz;obtain⟨_,d,hdst⟩:=hd.allocs i _ hoi hi (by rw[hop];rfl);have e:=Hk c w (.cells z.cells T) h.hr.ilt h.hr.jlt;have hoth:∀t,d≠t->(a.put (zq ops i).dst (.pointer (some ⟨w.heap.size,0,none⟩))).tmps[t]? = a.tmps[t]? :=by intro t hne;rw[hdst,yV,Kg];simp[hne]
 have hnd:∀k∈done,k≠i:=λk hk e'=>by have:=(zA.1 (h.dh k hk)).2;rw[e',hop]at this;simp[isAllocO]at this
 have hnr:∀k∈r,k≠i:=λk hk e'=>by have:=(zA.1 (x8 h.ord k hk).1).2;rw[e',hop]at this;simp[isAllocO]at this
 refine { hr:=h.hr.push_free _,gr:=h.gr.ext e,ext:=h.ext.trans e,keep:=h.keep,hle:=h.hle,df:= ?_,lsz:=by simp[h.lsz],closed:=Ih h.lsz hisz h.closed hb,len:= ?_,rng:=h.rng,slot:= ?_,opt:=h.opt,v:=h.v,ord:=h.ord,dn:=h.dn,dh:=h.dh,unl:= ?_,pend:= ?_,pqa:= ?_,pqb:= ?_,pqs:=h.pqs,chain:=h.chain,fresh:= ?_,binj:= ?_,tail:= ?_ }
 ·rw[hdst];exact h.df.ext e
 ·rw[h.len,hdst,yV];simp
 ·intro t x u hx hu hall;have hne:d≠t:=λe'=>by have:=((hall i _ hoi (by rw[hdst,e'])).resolve_left (by omega)).2;rw[hop]at this;simp[isAllocO]at this
  rw[hoth t hne]at hu;have h1:=h.slot t x u hx hu λm o hm hdm=>by
   rcases hall m o hm hdm with h4|⟨h2,h3⟩
   ·exact .inl h4
   ·rw[zj h.lsz hisz]at h2;have:m≠i:=λe'=>by rw[e',hoi]at hm;simp at hm;rw[←hm,hdst]at hdm;simp at hdm;exact hne hdm
    rw[N2 this]at h2;exact .inr ⟨h2,h3⟩
  have h2:=h1.ext e (Md c Hc);cases x<;>first
   |exact h2
   |skip
  rename_i g p y;simp only[yA]at h2 ⊢;have hg:(a.put (zq ops i).dst (.pointer (some ⟨w.heap.size,0,none⟩))).tmps[g]? = a.tmps[g]? :=by
   refine hoth g λeg=>?_;obtain⟨i1,j1,oi1,oj1,a1,a2',a3,a4,a5,a6⟩:=h.opt t g p y hx;have hl:=((hall i1 oi1 a1 a3).resolve_left (by omega)).1;have hi1:i1≠i:=λe'=>by rw[e',hoi]at a1;simp at a1;rw[←a1,hdst]at a3;simp at a3;exact hne a3
   rw[zj h.lsz hisz,N2 hi1]at hl;have hj:=h.closed i1 j1 hl a5;have:j1=i:=tY hd a2' hoi a4 (by rw[hdst,eg]);rw[this]at hj;have hj':y4 listed i=true:=hj;rw[hul]at hj';cases hj'
  rw[hg];exact h2
 ·intro m hm;rw[zj h.lsz hisz,N2 (hnr m hm)];exact h.unl m hm
 ·intro m hm hml hmt hx;rw[zj h.lsz hisz,N2 (hnd m hm)]at hml;exact h.pend m hm hml hmt hx
 ·intro m hm hml hmt;rw[zj h.lsz hisz,N2 (hnd m hm)]at hml;exact h.pqa m hm hml hmt
 ·intro m hm;obtain⟨b1,b2,b3⟩:=h.pqb m hm;exact⟨b1,by rw[zj h.lsz hisz,N2 (hnd m b1)];exact b2,b3⟩
 ·intro m o T' hm hop' hmh hml;by_cases e':m=i
  ·subst e';rw[hoi]at hm;simp at hm;subst hm;rw[hop]at hop';cases hop';refine⟨d,hdst,?_,?_⟩
   ·rw[hdst,yV,Kg];have hlt:d<a.tmps.size:=by have:=h.rng m _ d hoi hdst;rw[h.len]at this;exact this
    simp[hlt]
   ·simp only[if_true];refine⟨⟨z,hz,by simp,by simp,λl k hl=>?_,λo ho=>?_,λhj=>?_⟩,h.ext.size⟩
    ·have:=h.hr.lt l _ k hl;omega
    ·have:=h.hr.ilt _ o ho;omega
    ·have:=h.hr.jlt _ hj;omega
  ·rw[zj h.lsz hisz,N2 e']at hml;obtain⟨d',h1,h2,h3⟩:=h.fresh m o T' hm hop' hmh hml;simp only[N2 e'];refine⟨d',h1,?_,h3.1.ext e,h3.2⟩;rw[hoth d' λe2=>e' (tY hd hm hoi h1 (by rw[hdst,e2]))];exact h2
 ·intro m m' o o' T1 T2 hm hm' h1 h2 h3 h4 h5 h6 h7;rw[zj h.lsz hisz]at h5 h6;by_cases e1:m=i<;>by_cases e2:m'=i
  ·omega
  ·rw[Nf e1,N2 e2]at h7;rw[N2 e2]at h6;obtain⟨_,_,_,h8⟩:=h.fresh m' o' T2 hm' h2 h4 h6;obtain⟨_,_,h9⟩:=h8.1;have:=h9.1;omega
  ·rw[N2 e1,Nf e2]at h7;rw[N2 e1]at h5;obtain⟨_,_,_,h8⟩:=h.fresh m o T1 hm h1 h3 h5;obtain⟨_,_,h9⟩:=h8.1;have:=h9.1;omega
  ·rw[N2 e1,N2 e2]at h7;rw[N2 e1]at h5;rw[N2 e2]at h6;exact h.binj m m' o o' T1 T2 hm hm' h1 h2 h3 h4 h5 h6 h7
 ·intro j hj;rw[zj h.lsz hisz];have:j≠i:=λe'=>by omega
  rw[N2 this];exact h.tail j hj
theorem XV.step {Q:Me->NI->N4->Prop}{i:Nat}(hd:DOkT ops) (hal:∀(k:Nat) o T,ops[k]? = some o->o.op = .alloc T->k<yy ops->∃z,yo P T=some z) (h:XV P G nb ops Hb c0 w0 Kend listed a w) (hi:i<yy ops) (hul:y4 listed i=false) (hb:∀k,xr ops i k=true->y4 listed k=true): wpOpIn (wF rd) 0 P ops Q i (λa' w'=>XV P G nb ops Hb c0 w0 Kend (listed.setIfInBounds i true) a' w') a w:=by
 obtain⟨c,Hc,Ha,tm,done,r,pq,B,hD,hrc⟩:=h;have hisz:i<ops.size:=MM hi hd.le;have hoi:=zi hisz;cases ha:isAllocO (zq ops i).op with
 |true =>
  cases hop:(zq ops i).op<;>rw[hop]at ha<;>simp[isAllocO]at ha
  rename_i T;obtain⟨z,hz⟩:=hal i _ T hoi hop hi;refine sy hoi (hd.allocs i _ hoi hi (by rw[hop];rfl)).1 ?_;refine⟨λ_ _=>trivial,?_⟩;rw[KO _ _ _ (by rw[hop];intro d hd;cases hd),s9 hop hz];exact⟨c,Hc,Ha,tm,done,r,pq,_,hD.alloc hd hi hop hz hul hb,hrc⟩
 |false =>
  have hih:i∈tw ops:=zA.2 ⟨hi,ha⟩;have hrep:=hD.rep hb;rcases qf hD.ord i hih with hdone|hr
  ·cases ht:isTail (zq ops i).op with
   |true =>
    obtain⟨_,hgn,hgo⟩:=hd.grow i hi ht;have hip:=hD.pqa i hdone hul ht;obtain⟨q,hq⟩:∃q,pq=i::q:=by
     cases hpq:pq with
     |nil=>rw[hpq]at hip;simp at hip
     |cons j q =>
      by_cases e:j=i
      ·exact⟨q,by rw[e]⟩
      ·exfalso;have hs:=hD.pqs;rw[hpq]at hs hip;have hiq:i∈q:=by
        rcases MU.1 hip with h1|h1
        ·exact No h1.symm e
        ·exact h1
       have hlt:=(FL.1 hs).1 i hiq;obtain⟨_,b2,b3⟩:=hD.pqb j (by rw[hpq];simp);have:=hb j (hgo j hlt b3);rw[b2]at this;cases this
    have hch:=hD.chain;rw[hq]at hch;obtain⟨av,H',hl,hall,htm,hrest⟩:=hch;refine sy hoi hgn ?_;refine tc hrep (λg p h=>by simp[hasTag]at h) trivial (hall (λav2 H2=>av2=av/\H2=H') ⟨rfl,rfl⟩) ?_;intro v w' c' av2 H2 hk e k hr hra;obtain⟨rfl,rfl⟩:=hk;exact⟨c',H2,Ha,tm,done,r,q,B,hD.ran hd (λm hm=>hm.elim) hdone hul hb htm e k hl hr (xp hra) (.inr ⟨ht,hq,hrest⟩),hrc⟩
   |false =>
    have hp:=hD.pend i hdone hul ht (λh=>h);refine vZ hoi hrep ht ha (cG ht ha hD.hle hp.1 hp.2) λv w' c' av a2 hk e k hr hs=>?_;exact⟨c',Hc,Ha,tm,done,r,pq,B,hD.ran hd (λm hm=>hm.elim) hdone hul hb hk.2 e k (HP _) hr hs (.inl ⟨ht,rfl,rfl⟩),hrc⟩
  ·rcases hrc with rfl|⟨i0,r',rfl,hcall⟩
   ·simp at hr
   ·have hi0:i=i0:=by
     rcases MU.1 hr with e|hr'
     ·exact e
     ·have hord:=hD.ord;simp only[wK,NK]at hord;have h1:=hord.1.2;simp only[hcall,K6,LF]at h1;have h2:=ND.1 h1 i hr';have h3:=hb i0 h2;have h4:=hD.unl i0 (by simp);rw[h3]at h4;cases h4
    subst hi0;have ht:isTail (zq ops i).op=false:=by
     cases hop:(zq ops i).op<;>rw[hop]at hcall<;>simp[isCallV]at hcall
     rename_i cc;obtain⟨callee,args,types⟩:=cc;cases callee<;>simp[isCallV]at hcall
     rfl
    have hv:=hD.v;simp only[ls]at hv;rw[N2 (by rw[ht];decide)]at hv;split at hv
    ·rename_i hdat;refine vZ hoi hrep ht ha (cG ht ha hD.hle hdat (wE hv)) λv w' c' av a2 hk e k hr2 hs=>?_;obtain⟨_,hk,hform⟩:=hk;have hDX:DinT P G nb ops Hb c0 w0 Kend listed a w c Hc Ha tm done (i::r') pq B (λm=>m=i):= { hD with pend:=λm hm hml hmt hx=>hD.pend m hm hml hmt (λh=>h) };have hN:=hDX.note (Ha':=Ha) hd hk (λg p x hx=>by obtain⟨j,hj1,hj2⟩:=hform g p x hx;exact hd.opt hi hj1 hj2) (λ_ hx=>No rfl hx) (λ_=>rfl) (λh0=>by rw[ht]at h0;cases h0);rw[N2 (by rw[ht];decide)]at hN;have hRan:=hN.ran hd (λm hm=>hm) (by simp) hul hb (λd hdd hlt=>by rw[xo]at hlt;rw[hdd];simp[xI,hlt]) e k (HP _) hr2 hs (.inl ⟨ht,rfl,rfl⟩);obtain⟨tm3,Ha3,done3,r3,pq3,hD3,hrc3⟩:=hRan.advance hd;exact⟨c',Hc,Ha3,tm3,done3,r3,pq3,B,hD3,hrc3⟩
    ·exact hv.elim
theorem gi {K:ON AV->ON Box->Prop}{Q:Me->NI->N4->Prop}{fuel:Nat}(hd:DOkT ops) (hq:∀a' w' c' tm' H',K tm' H'->M5 G nb c' H' w' tm' a'->Nw c0 w0 c' w'->zp c0 Hb c' H'->Q .normal a' w') (hf:wC ops listed<=fuel) (hall:∀i,i<yy ops->y4 listed i=true) (hM:XV P G nb ops Hb c0 w0 (λtm1 H1=>x7 P ops (xH ops) (za tm1) H1 λtm2 H2=>t8 P G ops (ops.toList.drop (yy ops)) tm2 H2 K) listed a w):wpAnyIn (wF rd) 0 P .any ops Q fuel listed a w:=by
 obtain⟨c,Hc,Ha,tm,done,r,pq,B,hD,hrc⟩:=hM;have hr:r=[]:=by
  rcases hrc with h|⟨i,r',rfl,_⟩
  ·exact h
  ·have h1:=hD.unl i (by simp);have h2:=hall i (zA.1 (x8 hD.ord i (by simp)).1).1;rw[h2]at h1;cases h1
 subst hr;have hpq:pq=[]:=by
  cases hpq:pq with
  |nil=>rfl
  |cons j q =>
   obtain⟨b1,b2,_⟩:=hD.pqb j (by rw[hpq];simp);have:=hall j (zA.1 (hD.dh j b1)).1;rw[this]at b2;cases b2
 subst hpq;have hHa:Ha=Hc:=hD.chain;subst hHa;have hk:=hD.v;simp only[ls]at hk;have hsz:∀k,k∈xH ops->k<ops.size:=λk hk=>by simp only[xH,Lh,Lp]at hk;exact MM hk.1 hd.le
 have hown:∀i∈xH ops,∃T d,(zq ops i).op = .alloc T/\(zq ops i).dst=some d/\a.tmps[d]? = some (.pointer (some ⟨B i,0,none⟩))/\(∃cs aas,po c w (B i) (.cells cs T (0,0))/\oN P T=some aas/\z8 (λv a=>RA c Ha w a v) cs.toList aas)/\w0.heap.size<=B i:=by
  intro i hi;simp only[xH,Lh,Lp]at hi;cases hop:(zq ops i).op<;>rw[hop]at hi<;>simp[isAllocO]at hi
  rename_i T;obtain⟨d,h1,h2,h3,h4⟩:=hD.fresh i _ T (zi (MM hi hd.le)) hop hi (hall i hi);obtain⟨z,hz,h3⟩:=h3;exact⟨T,d,rfl,h1,h2,⟨_,_,h3,by simp[oN,hz],Ii _⟩,h4⟩
 have hLeft:Left P G nb ops Hb c0 w0 a w (λ_ T=>oN P T) B (xH ops) (za tm) Ha c:=by
  refine { hr:=hD.hr,gr:=hD.gr,ext:=hD.ext,keep:=hD.keep,df:=hD.df,len:=by simp[za,hD.len],no:= ?_,slot:= ?_,own:=hown,nd:= ?_,inj:= ?_ }
  ·intro g p x hm;simp only[za,Mj]at hm;obtain⟨y,_,hy⟩:=hm;cases y<;>simp[dull]at hy
  ·intro t x v hx hv hno;simp only[za,M6]at hx;cases hy:tm[t]? with
   |none=>rw[hy]at hx;simp at hx
   |some y =>
    rw[hy]at hx;simp at hx;subst hx;have hs:=hD.slot t y v hy hv λk o hk hdk=>by
     rcases M0 k (yy ops)with h1|h1
     ·right;refine⟨hall k h1,?_⟩;cases ha:isAllocO o.op with
      |false=>rfl
      |true =>
       have hka:k∈xH ops:=by simp only[xH,Lh,Lp];exact⟨h1,by rw[y6 hk];exact ha⟩
       exact No (by rw[y6 hk];exact hdk) (hno k hka)
     ·exact .inl h1
    cases y<;>first
     |exact hs
     |exact Jx v
  ·exact FM (FP) (E5)
  ·intro i hi j hj hB;have hi':=hi;have hj':=hj;simp only[xH,Lh,Lp]at hi' hj';obtain⟨T,d,o1,_⟩:=hown i hi;obtain⟨T',d',o2,_⟩:=hown j hj;exact hD.binj i j _ _ T T' (zi (hsz i hi)) (zi (hsz j hj)) o1 o2 hi'.1 hj'.1 (hall i hi'.1) (hall j hj'.1) hB
 obtain⟨tm2,H2,c2,hk2,hR2,he2,hkp2⟩:=uO hsz (xH ops) (za tm) Ha c (λ_ h=>h) hLeft hk;refine jx hd.edges (λj hj hh i _ hi=>hd.tails j hj hh i hi) fuel (yy ops) listed c2 H2 w tm2 a (MS _) hd.le hD.lsz (λk hk=>⟨λh=>?_,λh=>hall k h⟩) hD.closed ?_ hR2 hk2 λa' w' c' tm' H' hk' hR' e k=>hq a' w' c' tm' H' hk' hR' (he2.trans e) (hkp2.trans k)
 ·rcases M0 k (yy ops)with h1|h1
  ·exact h1
  ·have:=hD.tail k h1;rw[h]at this;cases this
 ·refine KG (ry (yy ops) ops.size λk h1 _=>?_) hf;rw[hD.tail k h1];rfl
theorem V2 {K:ON AV->ON Box->Prop}{Q:Me->NI->N4->Prop}(hd:DOkT ops) (hal:∀(k:Nat) o T,ops[k]? = some o->o.op = .alloc T->k<yy ops->∃z,yo P T=some z) (hq:∀a' w' c' tm' H',K tm' H'->M5 G nb c' H' w' tm' a'->Nw c0 w0 c' w'->zp c0 Hb c' H'->Q .normal a' w'):∀(fuel:Nat) (listed:OC Bool) (a:NI) (w:N4),wC ops listed<=fuel->XV P G nb ops Hb c0 w0 (λtm1 H1=>x7 P ops (xH ops) (za tm1) H1 λtm2 H2=>t8 P G ops (ops.toList.drop (yy ops)) tm2 H2 K) listed a w->wpAnyIn (wF rd) 0 P .any ops Q fuel listed a w:=by
 intro fuel;induction fuel with
 |zero =>
  intro listed a w hf hM;refine gi hd hq hf (λi hi=>?_) hM;cases hx:y4 listed i with
  |true=>rfl
  |false =>
   have:0<wC ops listed:=Hw.2 ⟨i,by simp;exact MM hi hd.le,by simp[hx]⟩;omega
 |succ fuel ih =>
  intro listed a w hf hM;by_cases hall:∀i,i<yy ops->y4 listed i=true
  ·exact gi hd hq hf hall hM
  ·have hex:∃i,i<yy ops/\y4 listed i=false:=by
    rcases KN (∃i,i<yy ops/\y4 listed i=false)with h|h
    ·exact h
    ·exact No (λi hi=>by
      cases hx:y4 listed i with
      |true=>rfl
      |false=>exact No ⟨i,hi,hx⟩ h) hall
   obtain⟨i0,h1,h2,h3⟩:=xn (yy ops) hex;have hlsz:listed.size=ops.size:=by obtain⟨_,_,_,_,_,_,_,_,hD,_⟩:=hM;exact hD.lsz
   have hcl:xt ops listed:=by obtain⟨_,_,_,_,_,_,_,_,hD,_⟩:=hM;exact hD.closed
   have hi0:i0<ops.size:=MM h1 hd.le;have hready:i0∈K8 .any ops listed:=(zE hlsz).2 ⟨_,zi hi0,h2,λe he hb=>h3 _ (hd.edges i0 _ (zi hi0) e he hb)⟩;refine⟨λh0=>by rw[h0]at hready;simp at hready,λi hi=>?_⟩;obtain⟨o,ho,hul,_⟩:=(zE hlsz).1 hi;have hb:∀k,xr ops i k=true->y4 listed k=true:=wr hcl ho hi;have hisz:=zO ho;have hih:i<yy ops:=by
    rcases M0 i (yy ops)with h|h
    ·exact h
    ·exact No (λk hk=>hb k (hd.tails i hisz h k (by omega))) hall
   refine wpOpIn_mono (λa' w' hM'=>ih _ a' w' ?_ hM') (XV.step hd hal hM hih hul hb);have hdec:wC ops (listed.setIfInBounds i true)+1<=wC ops listed:=wD (p:=λk=>!y4 listed k) (q:=λk=>!y4 (listed.setIfInBounds i true) k) (i:=i) (Mq ops.size) (λk hk=>by
    rw[zj hlsz hisz]at hk;split at hk
    ·simp at hk
    ·exact hk) (by simp[hul]) (by rw[zj hlsz hisz];simp) (by simpa using hisz)
   omega
theorem gh {H:ON Box}{K:ON AV->ON Box->Prop}{Q:Me->NI->N4->Prop}(hR:M5 G nb c H w tm a) (h:Yi P G ops tm H K) (hq:∀a' w' c' tm' H',K tm' H'->M5 G nb c' H' w' tm' a'->Nw c w c' w'->zp c H c' H'->Q .normal a' w'):wpAnyIn (wF rd) 0 P .any ops Q ops.size (Mb ops.size false) a { w with drawn:=w.drawn+1 }:=by
 unfold Yi at h;split at h
 ·rename_i hok;simp only[NK]at hok;obtain⟨⟨⟨hok,hno⟩,hrng⟩,halz⟩:=hok;have hd:=fK hok;have hal:∀(k:Nat) o T,ops[k]? = some o->o.op = .alloc T->k<yy ops->∃z,yo P T=some z:=by intro k o T hk hop _;have:=ND.1 halz o (by simpa using JN hk);rw[hop]at this;exact Jg.1 this
  have hlst:∀k,y4 (Mb ops.size false) k=false:=by
   intro k;unfold y4;rw[Lk];by_cases hk:k<ops.size
   ·simp[hk]
   ·simp[I7 (show(Mb ops.size false).size<=k by simpa using hk)]
  have hnoopt:∀g p x,JA g p x∉tm:=λg p x hx=>by have:=ND.1 hno _ hx;simp[noOptB]at this
  have hD:DinT P G nb ops H c w (λtm1 H1=>x7 P ops (xH ops) (za tm1) H1 λtm2 H2=>t8 P G ops (ops.toList.drop (yy ops)) tm2 H2 K) (Mb ops.size false) a { w with drawn:=w.drawn+1 } c H H tm [] (TW ops) [] (λ_=>0) (λ_=>NL):=by
   refine { hr:=hR.hr.drew _,gr:=hR.gr.ext (LY c w _),ext:=LY c w _,keep:=Md _ _,hle:=HP _,df:=hR.df.ext (LY c w _),lsz:=by simp,closed:= ?_,len:= ?_,rng:= ?_,slot:= ?_,opt:= ?_,v:=h,ord:=hd.ord,dn:= ?_,dh:= ?_,unl:=λi _=>hlst i,pend:= ?_,pqa:= ?_,pqb:= ?_,pqs:=Ai,chain:=rfl,fresh:= ?_,binj:= ?_,tail:=λj _=>hlst j }
   ·intro j i hj _;have:y4 (Mb ops.size false) j=true:=hj;rw[hlst]at this;cases this
   ·have:=hR.tm.1;simpa using this.symm
   ·intro k o d hk hdk;have:=ND.1 hrng o (by simpa using JN hk);rw[hdk]at this;simpa using this
   ·intro t x v hx hv _;have:=hR.tm.2 t v x (by simpa using hv) hx;exact this.ext (LY c w _) (Md _ _)
   ·intro t g p x hx;exact No (MX hx) (hnoopt g p x)
   ·intro k hk;simp at hk
   ·intro k hk;simp at hk
   ·intro k hk;simp at hk
   ·intro k hk;simp at hk
   ·intro k hk;simp at hk
   ·intro i o T _ _ _ hl;rw[hlst]at hl;cases hl
   ·intro i i' o o' T T' _ _ _ _ _ _ hl;rw[hlst]at hl;cases hl
  obtain⟨tm',Ha',done',r',pq',hD',hrc⟩:=hD.advance hd;refine V2 hd hal hq ops.size _ a _ ?_ ⟨c,H,Ha',tm',done',r',pq',_,hD',hrc⟩;have:=IY (p:=λi=>!y4 (Mb ops.size false) i) (l:=Mq ops.size);simpa[wC]using this
 ·exact h.elim
theorem cC {id:Nat}{H:ON Box}{K:ON AV->ON Box->Prop}{Q:Me->NI->N4->Prop}(hm:P.follows .mixedOrders=true) (hR:M5 G nb c H w tm a) (h:Yi P G ops tm H K) (hq:∀a' w' c' tm' H',K tm' H'->M5 G nb c' H' w' tm' a'->Nw c w c' w'->zp c H c' H'->Q .normal a' w'):(Ge id ops true).wpIn (wF rd) 0 P Q a w:=wpIn_region_any hm (gh hR h hq)
def ju (P:Ng) (G:Nat->OK (ON D)) (ops:OC Nu) (tm:ON AV) (H:ON Box) (K:ON AV->ON Box->Prop):Prop :=if mv ops&& !jw ops then Yj P G ops tm H K else if qe ops&& !jw ops then WB P G ops tm H K else if lG ops&& !jw ops then V0 P G ops tm H K else Yi P G ops tm H K
theorem lq {id:Nat}{H:ON Box}{K:ON AV->ON Box->Prop}{Q:Me->NI->N4->Prop}(hm:P.follows .mixedOrders=true) (hR:M5 G nb c H w tm a) (h:ju P G ops tm H K) (hq:∀a' w' c' tm' H',K tm' H'->M5 G nb c' H' w' tm' a'->Nw c w c' w'->zp c H c' H'->Q .normal a' w'):(Ge id ops true).wpIn (wF rd) 0 P Q a w:=by
 unfold ju at h;split at h
 ·exact cH hm hR h hq
 ·split at h
  ·exact wpIn_region_any hm (gk hR h hq)
  ·split at h
   ·exact wpIn_region_any hm (gj hR h hq)
   ·exact cC hm hR h hq
theorem XU {H:ON Box}{K:ON AV->ON Box->Prop}{Q:Me->NI->N4->Prop}(hR:M5 G nb c H w tm a) (h:ju P G ops tm H K) (hq:∀a' w' c' tm' H',K tm' H'->M5 G nb c' H' w' tm' a'->Nw c w c' w'->zp c H c' H'->Q .normal a' w'):wpAnyIn (wF rd) 0 P .any ops Q ops.size (Mb ops.size false) a { w with drawn:=w.drawn+1 }:=by
 unfold ju at h;split at h
 ·exact gm hR h hq
 ·split at h
  ·exact gk hR h hq
  ·split at h
   ·exact gj hR h hq
   ·exact gh hR h hq
end
def allI:ON Nat->(Nat->Prop)->Prop
 |[],_=>OG
 |[i],F=>F i
 |i::r,F=>F i/\allI r F
theorem allI_mem:∀{l:ON Nat}{F:Nat->Prop},allI l F->∀i∈l,F i
 |[],_,_,i,hi=>by simp at hi
 |[x],F,h,i,hi=>by simp at hi;subst hi;exact h
 |x::y::r,F,h,i,hi=>by
  rcases MU.1 hi with rfl|hi
  ·exact h.1
  ·exact allI_mem (l:=y::r) h.2 i hi
def oK (P:Ng) (G:Nat->OK (ON D)) (ops:OC Nu):Nat->OC Bool->ON AV->ON Box->(ON AV->ON Box->Prop)->Prop
 |n,listed,tm,H,K =>
  match K8 .any ops listed with
  |[]=>K tm H
  |l=>match n with
   |0=>NL
   |n+1=>allI l λi=>gt P G ops (zq ops i) tm H λtm' H'=>oK P G ops n (listed.setIfInBounds i true) tm' H' K
def V3 (P:Ng) (ops:OC Nu):Bool:=ops.toList.any λo=>match o.op with
 |.call { callee:= .value (.func k),args:=_,argTypes:=_ }=>match P.funcs[k]? with
  |some fn=>Yl P fn
  |none=>false
 |_=>false
def dynCall (o:Nu):Bool:=match o.op with
 |.call { callee:= .value (.tmp _),args:=_,argTypes:=_ }=>true
 |_=>false
def Yf (ops:OC Nu):Bool:=(Mq ops.size).all λj=>(zq ops j).after.toList.all λe=>!(Kp .any e)||decide (e.on<j)
def V4 (ops:OC Nu) (n:Nat):Bool :=Yf ops && ((Mq ops.size).all λj=>decide (j<n)||(Mq j).all λi=>xr ops j i) && (Mq n).all λi=>match (zq ops i).guard with
  |none=>true
  |some (j,_)=>decide (j<n)
def isLoopB:Box->Bool
 |.loop _ _ _ _ _ _=>true
 |_=>false
def Sr (ops:OC Nu):OK Nat :=let n:=ops.toList.findIdx dynCall
 if decide (n<ops.size)&&V4 ops n then some n else none
def V5 (P:Ng) (G:Nat->OK (ON D)) (ops:OC Nu) (tm:ON AV) (H:ON Box) (K:ON AV->ON Box->Prop):Prop :=if V3 P ops then oK P G ops ops.size (Mb ops.size false) tm H K else if H.any isLoopB then match Sr ops with
  |some n=>ju P G (ops.extract 0 n) tm H λtm1 H1=>t8 P G ops (ops.toList.drop n) tm1 H1 K
  |none=>ju P G ops tm H K
 else ju P G ops tm H K
section
variable {P:Ng}{G:Nat->OK (ON D)}{nb:Nat}{rd:OK Nat}{ops:OC Nu}{c:Cx}{H:ON Box}{w:N4}{tm:ON AV}{a:NI}{Q:Me->NI->N4->Prop}
theorem cA {K:ON AV->ON Box->Prop}:∀(fuel:Nat) (listed:OC Bool) (c:Cx) (H:ON Box) (w:N4) (tm:ON AV) (a:NI),listed.size=ops.size->M5 G nb c H w tm a->oK P G ops fuel listed tm H K->(∀a' w' c' tm' H',K tm' H'->M5 G nb c' H' w' tm' a'->Nw c w c' w'->zp c H c' H'->Q .normal a' w')->wpAnyIn (wF rd) 0 P .any ops Q fuel listed a w:=by
 intro fuel;induction fuel with
 |zero =>
  intro listed c H w tm a hs hR h hq;unfold oK at h;split at h
  ·rename_i h0;exact⟨h0,hq a w c tm H h hR (L7 _ _) (Md _ _)⟩
  ·exact h.elim
 |succ fuel ih =>
  intro listed c H w tm a hs hR h hq;unfold oK at h;split at h
  ·rename_i h0;refine⟨λ_=>hq a w c tm H h hR (L7 _ _) (Md _ _),λi hi=>by rw[h0]at hi;simp at hi⟩
  ·rename_i hne;refine⟨λh0=>No h0 hne,λi hi=>?_⟩;obtain⟨o,ho,_,_⟩:=(zE hs).1 hi;have hst:=allI_mem h i hi;rw[y6 ho]at hst;refine j8 ho hR hst ?_;intro a' w' c' tm' H' hk hR' e k;exact ih _ c' H' w' tm' a' (by simp[hs]) hR' hk λa2 w2 c2 tm2 H2 hk2 hR2 e2 k2=>hq a2 w2 c2 tm2 H2 hk2 hR2 (e.trans e2) (k.trans k2)
theorem qd (n k:Nat):y4 (Mb n false) k=false:=by
 unfold y4;rw[Lk];by_cases hk:k<n
 ·simp[hk]
 ·simp[I7 (show(Mb n false).size<=k by simpa using hk)]
theorem SZ {F:Fence}{n:Nat}{o:Nu}{a:NI}{w:N4}{K K':NI->N4->Prop}{Q Q':Me->NI->N4->Prop}(h:o.wpIn F n P a w K Q') (hk:∀a w,K a w->K' a w) (hp:∀ch a w,Q' (.panic ch) a w->Q (.panic ch) a w) (hl:LetsOut Q'->LetsOut Q):o.wpIn F n P a w K' Q:=by
 unfold Nu.wpIn at *;refine⟨h.1,?_⟩;have hh:=h.2;generalize (o.semAt F.round a.eval).run P w=r at *;cases r with
 |ok x w' =>
  cases x<;>simp only[Gd]at hh ⊢ <;>
   first
    |exact hk _ _ hh
    |exact⟨hh.1,CallsIn.mono hh.2 (λe w'' he=>by cases e<;>first|exact hk _ _ he|exact hp _ _ _ he|exact hl he)⟩
    |exact⟨hh.1,RowsIn.mono hh.2 (λ_ _ he=>hk _ _ he)⟩
    |exact⟨hh.1,RoundIn.mono hh.2 (λe w'' he=>by cases e<;>first|exact hk _ _ he|exact hp _ _ _ he|exact hl he)⟩
 |halt x w'=>cases x<;>simp only[Gd]at hh ⊢ <;> first|exact hp _ _ _ hh|exact hh
def V6 (rd:OK Nat) (P:Ng) (ops:OC Nu) (n:Nat) (Q:Me->NI->N4->Prop):Me->NI->N4->Prop
 |.normal,a,w=>∀f listed,ops.size - n<=f->listed.size=ops.size->(∀k,k<ops.size->(y4 listed k=true↔k<n))->xt ops listed->wpAnyIn (wF rd) 0 P .any ops Q f listed a w
 |e,a,w=>Q e a w
structure CutOk (ops:OC Nu) (n:Nat):Prop where
 le:n<=ops.size
 edges:∀j o,ops[j]? = some o->∀e∈o.after.toList,Kp .any e=true->e.on<j
 tails:∀j,j<ops.size->n<=j->∀i,i<j->xr ops j i=true
 guards:∀i o,i<n->ops[i]? = some o->∀j p,o.guard=some (j,p)->j<n
theorem aC {n:Nat}(hn:n<=ops.size) (h:V4 ops n=true):CutOk ops n:=by
 unfold V4 Yf at h;simp only[NK]at h;obtain⟨⟨h1,h2⟩,h3⟩:=h;refine⟨hn,λj o ho e he hb=>?_,λj hj hnj i hi=>?_,λi o hi ho j p hg=>?_⟩
 ·have:=ND.1 h1 j (Lp.2 (zO ho));rw[y6 ho]at this;have:=ND.1 this e he;simpa[hb]using this
 ·have:=ND.1 h2 j (Lp.2 hj);have hnj':decide (j<n)=false:=by simp;omega
  rw[hnj',LF]at this;exact ND.1 this i (Lp.2 hi)
 ·have:=ND.1 h3 i (Lp.2 hi);rw[y6 ho,hg]at this;simpa using this
theorem sx {n i:Nat}(hn:n<=ops.size) (hi:i<n):(ops.extract 0 n)[i]? = ops[i]? :=by
 rw[OC.getElem?_extract];have:i<n - 0:=by omega
 have h2:¬ min n ops.size - 0<=i:=by omega
 simp;omega
theorem V7 {n i:Nat}{K K':NI->N4->Prop}(hc:CutOk ops n) (hi:i<n) (h:wpOpIn (wF rd) 0 P (ops.extract 0 n) (V6 rd P ops n Q) i K a w) (hk:∀a w,K a w->K' a w):wpOpIn (wF rd) 0 P ops Q i K' a w:=by
 unfold wpOpIn at *;rw[sx hc.le hi]at h;cases ho:ops[i]? with
 |none=>rw[ho]at h;exact hk _ _ h
 |some o =>
  rw[ho]at h;have hw:L5 o (yielded (ops.extract 0 n) a.tmps)=L5 o (yielded ops a.tmps):=by
   unfold L5;cases hg:o.guard with
   |none=>rfl
   |some q =>
    obtain⟨j,p⟩:=q;have hj:=hc.guards i o hi ho j p hg;simp only[yielded,sx hc.le hj]
  simp only[hw]at h;simp only;split
  ·rename_i hwt;rw[Nf hwt]at h;refine SZ h hk (λch a w h=>h) (λ⟨a,w,h⟩=>⟨a,w,h⟩)
  ·rename_i hwt;rw[N2 hwt]at h;exact⟨h.1,hk _ _ h.2⟩
theorem TR {n:Nat}(hc:CutOk ops n):∀(fuel:Nat) (l1 listed:OC Bool) (a:NI) (w:N4),l1.size=n->listed.size=ops.size->(∀k,k<n->y4 listed k=y4 l1 k)->(∀k,n<=k->y4 listed k=false)->xt ops listed->wpAnyIn (wF rd) 0 P .any (ops.extract 0 n) (V6 rd P ops n Q) fuel l1 a w->wpAnyIn (wF rd) 0 P .any ops Q (fuel+(ops.size - n)) listed a w:=by
 have hsz:(ops.extract 0 n).size=n:=by have:=hc.le;simp;omega
 have rdy:∀(l1 listed:OC Bool),l1.size=n->listed.size=ops.size->(∀k,k<n->y4 listed k=y4 l1 k)->∀i,i<n->(i∈K8 .any (ops.extract 0 n) l1↔i∈K8 .any ops listed):=by
  intro l1 listed h1 h2 h3 i hi;rw[zE (by rw[h1,hsz]),zE h2,sx hc.le hi,h3 i hi];constructor
  ·rintro⟨o,ho,hl,he⟩;exact⟨o,ho,hl,λe hm hb=>by have:=hc.edges i o ho e hm hb;rw[h3 _ (by omega)];exact he e hm hb⟩
  ·rintro⟨o,ho,hl,he⟩;exact⟨o,ho,hl,λe hm hb=>by have:=hc.edges i o ho e hm hb;rw[←h3 _ (by omega)];exact he e hm hb⟩
 have full:∀(l1 listed:OC Bool),listed.size=ops.size->(∀k,n<=k->y4 listed k=false)->(∀k,k<n->y4 listed k=true)->∀k,k<ops.size->(y4 listed k=true↔k<n):=by
  intro l1 listed _ h2 h3 k _;constructor
  ·intro h;rcases M0 k n with h' |h'
   ·exact h'
   ·rw[h2 k h']at h;cases h
  ·exact h3 k
 have nord:∀(l1:OC Bool),l1.size=n->(∀k,k<n->y4 l1 k=true)->K8 .any (ops.extract 0 n) l1=[]:=by intro l1 h1 h2;refine HH.2 λi hi=>?_;obtain⟨o,ho,hl,_⟩:=(zE (by rw[h1,hsz])).1 hi;have:=zO ho;rw[h2 i (by omega)]at hl;cases hl
 have some_ready:∀(l1:OC Bool),l1.size=n->(∃k,k<n/\y4 l1 k=false)->∃i,i∈K8 .any (ops.extract 0 n) l1:=by intro l1 h1 hex;obtain⟨i0,g1,g2,g3⟩:=xn n hex;refine⟨i0,(zE (by rw[h1,hsz])).2 ?_⟩;rw[sx hc.le g1];exact⟨_,zi (by have:=hc.le;omega),g2,λe he hb=>g3 _ (hc.edges i0 _ (zi (by have:=hc.le;omega)) e he hb)⟩
 intro fuel;induction fuel with
 |zero =>
  intro l1 listed a w h1 h2 h3 h4 h5 h;obtain⟨hr,hq⟩:=h;have hall:∀k,k<n->y4 l1 k=true:=λk hk=>by
   cases hx:y4 l1 k with
   |true=>rfl
   |false =>
    obtain⟨i,hi⟩:=some_ready l1 h1 ⟨k,hk,hx⟩;rw[hr]at hi;simp at hi
  exact hq _ listed (by omega) h2 (full l1 listed h2 h4 λk hk=>by rw[h3 k hk];exact hall k hk) h5
 |succ fuel ih =>
  intro l1 listed a w h1 h2 h3 h4 h5 h;obtain⟨hn,hs⟩:=h;by_cases hall:∀k,k<n->y4 l1 k=true
  ·exact hn (nord l1 h1 hall) _ listed (by omega) h2 (full l1 listed h2 h4 λk hk=>by rw[h3 k hk];exact hall k hk) h5
  ·have hex:∃k,k<n/\y4 l1 k=false:=by
    rcases KN (∃i,i<n/\y4 l1 i=false)with h|h
    ·exact h
    ·exact No (λi hi=>by
      cases hx:y4 l1 i with
      |true=>rfl
      |false=>exact No ⟨i,hi,hx⟩ h) hall
   have e:fuel+1+(ops.size - n)=(fuel+(ops.size - n))+1:=by omega
   rw[e];obtain⟨i0,hi0⟩:=some_ready l1 h1 hex;have hi0n:i0<n:=by obtain⟨o,ho,_⟩:=(zE (by rw[h1,hsz])).1 hi0;have:=zO ho;omega
   refine⟨λh0=>?_,λi hi=>?_⟩
   ·have:=(rdy l1 listed h1 h2 h3 i0 hi0n).1 hi0;rw[h0]at this;simp at this
   ·obtain⟨o,ho,hul,_⟩:=(zE h2).1 hi;have hb:∀k,xr ops i k=true->y4 listed k=true:=wr h5 ho hi;have hisz:=zO ho;have hin:i<n:=by
     rcases M0 i n with h|h
     ·exact h
     ·obtain⟨k,hk,hx⟩:=hex;have:=hb k (hc.tails i hisz h k (by omega));rw[h3 k hk,hx]at this;cases this
    refine V7 hc hin (hs i ((rdy l1 listed h1 h2 h3 i hin).2 hi)) λa' w' hk=>?_;refine ih _ _ a' w' (by simp[h1]) (by simp[h2]) (λk hk=>?_) (λk hk=>?_) (Ih h2 hisz h5 hb) hk
    ·rw[zj h2 hisz,zj (ops:=ops.extract 0 n) (by rw[h1,hsz]) (by rw[hsz];exact hin),h3 k hk]
    ·rw[zj h2 hisz,N2 (by omega)];exact h4 k hk
theorem b6 {id:Nat}{H:ON Box}{K:ON AV->ON Box->Prop}(hm:P.follows .mixedOrders=true) (hR:M5 G nb c H w tm a) (h:V5 P G ops tm H K) (hq:∀a' w' c' tm' H',K tm' H'->M5 G nb c' H' w' tm' a'->Nw c w c' w'->zp c H c' H'->Q .normal a' w'):(Ge id ops true).wpIn (wF rd) 0 P Q a w:=by
 unfold V5 at h;split at h
 ·refine wpIn_region_any hm ?_;have e:=LY c w;have hR':M5 G nb c H { w with drawn:=w.drawn+1 } tm a:=⟨hR.hr.drew _,hR.gr.ext (e _),hR.tm.ext (e _) (Md _ _),hR.df.ext (e _)⟩;exact cA ops.size _ c H _ tm a (by simp) hR' h λa' w' c' tm' H' hk hR2 e2 k2=>hq a' w' c' tm' H' hk hR2 ((e _).trans e2) k2
 ·split at h
  ·split at h
   ·rename_i n hcut;unfold Sr at hcut;simp only at hcut;split at hcut
    ·rename_i hcc;cases hcut;simp only[NK,NR]at hcc;have hc:=aC (Ed hcc.1) hcc.2;refine wpIn_region_any hm ?_;have hsz:(ops.extract 0 (ops.toList.findIdx dynCall)).size=ops.toList.findIdx dynCall:=by have:=hcc.1;simp;omega
     have hA:=XU (rd:=rd) (Q:=V6 rd P ops (ops.toList.findIdx dynCall) Q) hR h λa' w' c' tm' H' hk hR2 e2 k2=>by intro f listed hf hs hl hcl;exact jx hc.edges (λj hj hh i _ hi=>hc.tails j hj hh i hi) f _ listed c' H' w' tm' a' (MS _) (Ed hcc.1) hs hl hcl hf hR2 hk λa3 w3 c3 tm3 H3 hk3 hR3 e3 k3=>hq a3 w3 c3 tm3 H3 hk3 hR3 (e2.trans e3) (k2.trans k3)
     rw[hsz]at hA;have:=TR hc _ _ (Mb ops.size false) a _ (by simp) (by simp) (λk _=>by rw[qd,qd]) (λk _=>qd _ _) (λj i hj _=>by have:y4 (Mb ops.size false) j=true:=hj;rw[qd]at this;cases this) hA;have e:ops.toList.findIdx dynCall+(ops.size - ops.toList.findIdx dynCall)=ops.size:=by omega
     rw[e]at this;exact this
    ·cases hcut
   ·exact lq hm hR h hq
  ·exact lq hm hR h hq
end
abbrev Post:=Me->ON AV->ON Box->Prop
abbrev Loops:=Nat->OK (ON AV->ON Box->Post->Prop)
def loopId:Np->Nat
 |.region id _ _=>id
 |.seq a _=>loopId a
 |.cond _ a _=>loopId a
 |.block _ c=>loopId c
 |.loop c=>loopId c
 |.scope c=>1000000+loopId c
 |_=>0
def rangeId:Np->Np->OK Nat
 |.region id _ false,.block _ (.rangeFunc _ _ _ _)=>some id
 |_,_=>none
def isScope:Np->Bool
 |.scope _=>true
 |_=>false
def mkLoop:Np->Np
 |.scope c=>c
 |c=>.loop c
def jt (K:ON AV->ON Box->Prop) (Q:Post):Post:=λe tm H =>match e with
 |.normal=>K tm H
 |e=>Q e tm H
def fH (id:Nat) (Q:Post):Post:=λe tm H =>match e with
 |.exit i=>if i=id then Q .normal tm H else Q (.exit i) tm H
 |e=>Q e tm H
def lF (L:Loops) (t:Bool) (A B:Prop):Prop :=match L 999999 with
 |none=>(t=true->A)/\(t=false->B)
 |some _=>cond t A B
theorem pm {L:Loops}{t:Bool}{A B:Prop}(h:lF L t A B):(t=true->A)/\(t=false->B):=by
 unfold lF at h;split at h
 ·exact h
 ·cases t
  ·exact⟨λe=>(by cases e),λ_=>h⟩
  ·exact⟨λ_=>h,λe=>(by cases e)⟩
def Ye (P:Ng) (ops:OC Nu):OK (NF×Nat) :=match ops.toList.getLast? with
 |some o =>
  match o.guard,o.op,o.dst with
  |none,.binOp .eql T x (.const (.slice none 0 0)) _,some d =>
   match P.underlying T with
   |some (.slice _)=>some (x,d)
   |_=>none
  |_,_,_=>none
 |none=>none
def pw (P:Ng) (G:Nat->OK (ON D)) (L:Loops):Np->ON AV->ON Box->Post->Prop
 |.skip,tm,H,Q=>Q .normal tm H
 |.label _,tm,H,Q=>Q .normal tm H
 |.exit id,tm,H,Q=>Q (.exit id) tm H
 |.ret,tm,H,Q=>Q .ret tm H
 |.seq a b,tm,H,Q =>
  match rangeId a b with
  |some id=>match L (1000000+id)with
   |some W=>W tm H Q
   |none=>NL
  |none=>pw P G L a tm H (jt (λtm' H'=>pw P G L b tm' H' Q) Q)
 |.cond x a b,tm,H,Q =>
  match ev G (yr [] tm) x with
  |.d (.bool t)=>lF L t (pw P G L a tm H Q) (pw P G L b tm H Q)
  |_=>NL
 |.block id b,tm,H,Q=>pw P G L b tm H (fH id Q)
 |.region _ ops false,tm,H,Q =>
  match Ye P ops with
  |some (x,d)=>t8 P G ops ops.toList.dropLast tm H λtm1 H1 =>
   match avSl (ev G (yr [] tm1) x)with
   |some ds=>∀b:Bool,(b=true->ds=[])->Q .normal (za (yk tm1 (some d) (.d (.bool b)))) H1
   |none=>match ev G (yr [] tm1) x with
    |.msl _=>Q .normal (za (yk tm1 (some d) (.d (.bool false)))) H1
    |_=>NL
  |none=>t8 P G ops ops.toList tm H λtm' H'=>Q .normal (za tm') H'
 |.region _ ops true,tm,H,Q=>V5 P G ops tm H λtm' H'=>Q .normal (za tm') H'
 |.loop b,tm,H,Q =>
  if isScope b then NL else
  match L (loopId b)with
  |some W=>W tm H Q
  |none=>NL
 |_,_,_,_=>NL
def loopsOf:Np->ON Np
 |.seq a b =>
  match rangeId a b with
  |some _=>[.scope (.seq a b)]
  |none=>loopsOf a++loopsOf b
 |.cond _ a b=>loopsOf a++loopsOf b
 |.block _ c=>loopsOf c
 |.loop c=>[c]
 |_=>[]
section
variable {P:Ng}{G:Nat->OK (ON D)}{nb:Nat}{rd:OK Nat}{n:Nat}
theorem zp.cut {c H c' H'} (h:zp c H c' H') (n:Nat):zp c (H.take n) c' H':=by intro l x hx;exact h l x (zS hx).2
theorem zp.link {c:Cx}{H:ON Box}{c':Cx}{H':ON Box}{c'':Cx}{H'':ON Box}(h:zp c (H.take n) c' H') (h':zp c' (H'.take n) c'' H''):zp c (H.take n) c'' H'':=by
 intro l x hx;have hl:=(zS hx).1;have h1:=h l x hx;have key:∀y,H'[l]? = some y->(H'.take n)[l]? = some y:=λy hy=>by rw[zJ hl];exact hy
 cases x with
 |vec m sz =>
  obtain⟨m',a,b,e⟩:=h1;obtain⟨m'',a',b',e'⟩:=h' l _ (key _ a);exact⟨m'',a',KG b b',λhe=>by
   have e1:m=m':=by omega
   have e2:m'=m'':=by omega
   rw[e' e2,e e1]⟩
 |dead=>trivial
 |arr sz ds =>
  obtain⟨⟨ds',a,n1⟩,e⟩:=h1;obtain⟨⟨ds'',a',n2⟩,e'⟩:=h' l _ (key _ a);exact⟨⟨ds'',a',n2.trans n1⟩,by rw[e',e]⟩
 |cells T cs =>
  obtain⟨⟨cs',a⟩,e⟩:=h1;obtain⟨⟨cs'',a'⟩,e'⟩:=h' l _ (key _ a);exact⟨⟨cs'',a'⟩,by rw[e',e]⟩
 |map es =>
  obtain⟨⟨cs',a⟩,e⟩:=h1;obtain⟨⟨cs'',a'⟩,e'⟩:=h' l _ (key _ a);exact⟨⟨cs'',a'⟩,by rw[e',e]⟩
 |loop tm ps asn bd pend st =>
  obtain⟨⟨p1,s1,a⟩,e⟩:=h1;obtain⟨⟨p2,s2,a'⟩,e'⟩:=h' l _ (key _ a);exact⟨⟨p2,s2,a'⟩,by rw[e',e]⟩
theorem oR.now {c H w tm a} {Q:Post}{e:Me}(hR:M5 G nb c H w tm a) (h:Q e tm H):oR G nb n c H w Q e a w :=⟨c,tm,H,h,hR,L7 _ _,(Md _ _).cut n⟩
theorem oR.later {c:Cx}{H:ON Box}{w:N4}{c':Cx}{H':ON Box}{w':N4}{a'':NI}{w'':N4}{Q:Post}{e:Me}(h1:Nw c w c' w') (h2:zp c (H.take n) c' H') (h:oR G nb n c' H' w' Q e a'' w''):oR G nb n c H w Q e a'' w'':=by obtain⟨c2,tm2,H2,a1,a2,a3,a4⟩:=h;exact⟨c2,tm2,H2,a1,a2,h1.trans a3,h2.link a4⟩
theorem PW.mono {code tm H} {Q Q':Post}(h:PW P G rd n code tm H Q) (hq:∀e tm H,Q e tm H->Q' e tm H):PW P G rd n code tm H Q' :=⟨λnb c a w hR=>wpIn_mono (h.run nb c a w hR) λ_ _ _ ⟨c',tm',H',h1,h2⟩=>⟨c',tm',H',hq _ _ _ h1,h2⟩⟩
theorem PW.seq {x y tm H} {Q:Post}(h:PW P G rd n x tm H (jt (λtm' H'=>PW P G rd n y tm' H' Q) Q)):PW P G rd n (.seq x y) tm H Q:=by
 refine⟨λnb c a w hR=>?_⟩;refine wpIn_seq (wpIn_mono (h.run nb c a w hR) λe a' w' hE=>?_);obtain⟨c',tm',H',h1,h2,h3,h4⟩:=hE;cases e with
 |normal=>exact wpIn_mono (h1.run nb c' a' w' h2) λe2 a2 w2 h5=>h5.later h3 h4
 |_=>exact⟨c',tm',H',h1,h2,h3,h4⟩
theorem PW.block {id x tm H} {Q:Post}(h:PW P G rd n x tm H (fH id Q)):PW P G rd n (.block id x) tm H Q:=by
 refine⟨λnb c a w hR=>?_⟩;refine wpIn_block (wpIn_mono (h.run nb c a w hR) λe a' w' hE=>?_);obtain⟨c',tm',H',h1,h2,h3,h4⟩:=hE;cases e with
 |exit i =>
  simp only[CZ];simp only[fH]at h1;split
  ·rename_i e;rw[Nf e]at h1;exact⟨c',tm',H',h1,h2,h3,h4⟩
  ·rename_i e;rw[N2 e]at h1;exact⟨c',tm',H',h1,h2,h3,h4⟩
 |_=>exact⟨c',tm',H',h1,h2,h3,h4⟩
theorem Rep.weaken {c:Cx}{H:ON Box}{w:N4}{tm tm':ON AV}{H':ON Box}{a:NI}(hR:M5 G nb c H w tm a) (h:Wk n tm H tm' H') (hno:cU tm'=true):∃c',M5 G nb c' H' w tm' a/\Nw c w c' w/\zp c (H.take n) c' H':=by
 unfold Wk at h;split at h
 ·rename_i hn;simp only[NK,NR]at hn;obtain⟨hn,hund⟩:=hn;obtain⟨h1,h2⟩:=h;obtain⟨c1,hr2,eAll,kp,heq,hf⟩:=hR.hr.weakenH hund h2;have hno' :∀g p x,JA g p x∉tm':=λg p x hx=>by have:=ND.1 hno _ hx;simp at this
  have htm:=pS (c:=c) (c1:=c1) (H:=H) (Ht:=H') heq hf h1 hR.tm hno';refine⟨c1,⟨hr2,hR.gr.ext eAll,htm,hR.df.ext eAll⟩,eAll,?_⟩;intro l x hx;obtain⟨hl,hx'⟩:=zS hx;exact kp l x (by rw[zJ (by omega)];exact hx')
 ·exact h.elim
theorem sM {F:Fence}{k:Nat}{Q:Me->NI->N4->Prop}{a:NI}{w:N4}{c:Np}(I:Nat->NI->N4->Prop) (n₀:Nat) (h₀:I n₀ a w) (round:∀n a w,I n a w->c.wpIn F k P (Me.then (λa' w'=>∃n',n'<n/\I n' a' w') Q) a w):(Np.loop c).wpIn F k P Q a w:=by
 refine wpIn_loop (λa w=>∃n,I n a w) (λa w=>leastOf (λn=>I n a w)) ⟨n₀,h₀⟩ ?_;intro a w hI;refine wpIn_mono (round _ a w (leastOf_spec hI).1) ?_;intro e a' w' hq;cases e with
 |normal =>
  obtain⟨n',hlt,hI'⟩:=hq;exact show(∃n,I n a' w')/\leastOf (λn=>I n a' w')<leastOf (λn=>I n a w)from⟨⟨n',hI'⟩,Nat.lt_of_le_of_lt ((leastOf_spec ⟨n',hI'⟩).2 n' hI') hlt⟩
 |exit id=>exact hq
 |goto l=>exact hq
 |ret=>exact hq
 |panic ch=>exact hq
 |outgrown=>exact hq
theorem PW.loop {α:Type}(tmS:α->ON AV) (hS:α->ON Box) (m:α->Nat) {body:Np}{Q:Post}(hno:∀x,cU (tmS x)=true) (round:∀x,PW P G rd n body (tmS x) (hS x) (jt (λtm H=>∃y,m y<m x/\Wk n tm H (tmS y) (hS y)) Q)) (x0:α):PW P G rd n (.loop body) (tmS x0) (hS x0) Q:=by
 refine⟨λnb c a w hR=>?_⟩;refine sM (λk a' w'=>∃x c',m x=k/\M5 G nb c' (hS x) w' (tmS x) a'/\Nw c w c' w'/\zp c ((hS x0).take n) c' (hS x)) (m x0) ⟨x0,c,rfl,hR,L7 _ _,(Md _ _).cut n⟩ ?_;rintro k a' w' ⟨x,c',rfl,hR',e,kp⟩;refine wpIn_mono ((round x).run nb c' a' w' hR') λex a2 w2 hE=>?_;obtain⟨c2,tm2,H2,h1,h2,h3,h4⟩:=hE;cases ex with
 |normal =>
  obtain⟨y,hlt,hwk⟩:=h1;obtain⟨c4,r1,r2,r3⟩:=h2.weaken hwk (hno y);exact⟨m y,hlt,y,c4,rfl,r1,e.trans (h3.trans r2),kp.link (h4.link r3)⟩
 |_=>exact⟨c2,tm2,H2,h1,h2,e.trans h3,kp.link h4⟩
theorem PW.weaken {code:Np}{tm tm':ON AV}{H H':ON Box}{Q:Post}(h:Wk n tm H tm' H') (hno:cU tm'=true) (h':PW P G rd n code tm' H' Q):PW P G rd n code tm H Q:=by refine⟨λnb c a w hR=>?_⟩;obtain⟨c4,r1,r2,r3⟩:=hR.weaken h hno;exact wpIn_mono (h'.run nb c4 a w r1) λe a2 w2 hE=>hE.later r2 r3
theorem js {ops:OC Nu}{K:ON AV->ON Box->Prop}{Q:Me->NI->N4->Prop}{r:ON Nu}:∀(l:ON Nu) (i:Nat) (c:Cx) (H:ON Box) (w:N4) (tm:ON AV) (a:NI),ops.toList.drop i=l++r->M5 G nb c H w tm a->t8 P G ops l tm H K->(∀a' w' c' tm' H',K tm' H'->M5 G nb c' H' w' tm' a'->Nw c w c' w'->zp c H c' H'->wpOpsIn (wF rd) 0 P ops Q (J8 (i+l.length) r.length) a' w')->wpOpsIn (wF rd) 0 P ops Q (J8 i (l.length+r.length)) a w
 |[],i,c,H,w,tm,a,_,hR,h,hq=>by simpa using hq a w c tm H h hR (L7 _ _) (Md _ _)
 |o::l,i,c,H,w,tm,a,hl,hR,h,hq=>by
  have ho:ops[i]? = some o:=by have:=Mz (λx=>x[0]?) hl;simpa using this
  have hl':ops.toList.drop (i+1)=l++r:=by have:=Mz EF hl;simpa using this
  have e1:(o::l).length+r.length=(l.length+r.length)+1:=by simp;omega
  rw[e1,E4];refine rz ho hR h ?_;intro a' w' c' tm' H' hk hR' e k;refine js l (i+1) c' H' w' tm' a' hl' hR' hk λa2 w2 c2 tm2 H2 hk2 hR2 e2 k2=>?_;have:=hq a2 w2 c2 tm2 H2 hk2 hR2 (e.trans e2) (k.trans k2);have e3:i+(o::l).length=i+1+l.length:=by simp;omega
  rw[e3]at this;exact this
theorem Yd {o:Nu}{T yT:TypeId}{x:NF}{ad:OK Addr}{m k:Nat}{E:TypeId}{a:NI}{w:N4}(hu:P.underlying T=some (.slice E)) (h:o.op = .binOp .eql T x (.const (.slice none 0 0)) yT) (hx:a.eval x = .slice ad m k):(execOp a.eval o).run P w = .ok (.value (.bool ad.isNone)) w:=by
 have hc:a.eval (.const (.slice none 0 0)) = .slice none 0 0:=rfl;have h1:(eqGuard .eql T x (.const (.slice none 0 0)) (.slice ad m k) (.slice none 0 0)).run P w = .ok () w:=yF (by intro h;cases h) (by intro cs h;cases h);have h2:(binOp .eql T (.slice ad m k) (.slice none 0 0)).run P w = .ok (.bool ad.isNone) w:=by unfold binOp;simp[run_equal_slice_nil w T E ad m k hu]
 simp only[execOp,h,hx,hc,Ms,h1,Mt,h2,MV]
theorem yw (hm:P.follows .mixedOrders=true) {L:Loops}:∀(code:Np) (tm:ON AV) (H:ON Box) (Q:Post),(∀b∈loopsOf code,∀W,L (loopId b)=some W->∀tm H Q,W tm H Q->PW P G rd n (mkLoop b) tm H Q)->pw P G L code tm H Q->PW P G rd n code tm H Q
 |.skip,tm,H,Q,_,h=>⟨λnb c a w hR=>wpIn_skip (oR.now hR h)⟩
 |.label l,tm,H,Q,_,h=>⟨λnb c a w hR=>wpIn_label (oR.now hR h)⟩
 |.exit id,tm,H,Q,_,h=>⟨λnb c a w hR=>wpIn_exit (oR.now hR h)⟩
 |.ret,tm,H,Q,_,h=>⟨λnb c a w hR=>wpIn_ret (oR.now hR h)⟩
 |.seq x y,tm,H,Q,hL,h=>by
  simp only[pw]at h;simp only[loopsOf]at hL;split at h
  ·rename_i id hid;rw[hid]at hL;have hl:loopId (.scope (.seq x y))=1000000+id:=by
    unfold rangeId at hid;split at hid
    ·cases hid;rfl
    ·cases hid
   split at h
   ·rename_i W hW;exact hL (.scope (.seq x y)) (by simp) W (by rw[hl];exact hW) tm H Q h
   ·exact h.elim
  rename_i hid;rw[hid]at hL;have hx:=yw hm x tm H _ (λb hb=>hL b (by simp[hb])) h;refine PW.seq (hx.mono λe tm' H' hq=>?_);cases e with
  |normal=>exact yw hm y tm' H' Q (λb hb=>hL b (by simp[hb])) hq
  |_=>exact hq
 |.cond x p q,tm,H,Q,hL,h=>by
  refine⟨λnb c a w hR=>?_⟩;simp only[pw]at h;split at h
  ·rename_i t ht;have hx:=yW (tags:=[]) hR (λg p h=>by simp[hasTag]at h) x;rw[ht]at hx;replace h:=pm h
   refine wpIn_cond_split hx.bool (λe=>?_) (λe=>?_)
   ·exact(yw hm p tm H Q (λb hb=>hL b (by simp[loopsOf,hb])) (h.1 e)).run nb c a w hR
   ·exact(yw hm q tm H Q (λb hb=>hL b (by simp[loopsOf,hb])) (h.2 e)).run nb c a w hR
  ·exact h.elim
 |.block id x,tm,H,Q,hL,h=>PW.block (yw hm x tm H _ (λb hb=>hL b (by simpa[loopsOf]using hb)) h)
 |.region id ops false,tm,H,Q,_,h=>by
  refine⟨λnb c a w hR=>?_⟩;simp only[pw]at h;split at h
  ·rename_i x d hnl;unfold Ye at hnl;split at hnl
   ·rename_i o hlast;split at hnl
    ·rename_i T x' yT d' hgd hop hdst;split at hnl
     ·rename_i E hu;cases hnl;have happ:ops.toList=ops.toList.dropLast++[o]:=by obtain⟨ys,hys⟩:=Dh.1 hlast;rw[hys];simp
      refine wpIn_region ?_;have hsz:Mq ops.size=J8 0 (ops.toList.dropLast.length+[o].length):=by rw[G1];congr 1;have:=Mz OJ happ;simpa using this
      rw[hsz];refine js (r:=[o]) _ 0 c H w tm a (by simpa using happ) hR h ?_;intro a1 w1 c1 tm1 H1 hk hR1 e1 k1;have ho:ops[ops.toList.dropLast.length]? = some o:=by
       have:ops.toList[ops.toList.dropLast.length]? = some o:=by rw[happ];simp
       simpa using this
      split at hk
      ·rename_i ds hds;have he:=yW (tags:=[]) hR1 (λg p h=>by simp[hasTag]at h) x;obtain⟨ad,m,kk,hv,hr1,hm⟩:=wG he hds;simp only[MO,LZ,LP];rw[show J8 ops.toList.dropLast.length 1=[ops.toList.dropLast.length]from rfl,wpOpsIn_cons];unfold wpOpIn;rw[ho];simp only;have hw:L5 o (yielded ops a1.tmps)=true:=by simp[L5,hgd]
       rw[Nf hw];refine⟨λ_ _=>trivial,?_⟩;rw[KO _ _ _ (by rw[hop];intro d hd;cases hd),Yd hu hop hv];simp only[Gd,wpOpsIn];have hnil:ad.isNone=true->ds=[]:=by
        intro had;cases ad with
        |none =>
         rw[hv]at hr1;cases hr1 with
         |nil=>rfl
        |some a=>simp at had
       have hR2:=hR1.put (L7 _ _) (Md _ _) hR1.hr o.dst (v:= .bool ad.isNone) (av:= .d (.bool ad.isNone)) (Fc (Kk _));rw[hdst]at hR2 ⊢;exact⟨c1,_,H1,hk ad.isNone hnil,hR2.clear,e1,k1.cut n⟩
      ·split at hk
       ·rename_i l hml;have he:=yW (tags:=[]) hR1 (λg p h=>by simp[hasTag]at h) x;rw[hml]at he;obtain⟨ba,m,hv⟩:∃(ba:Addr) (m:Nat),a1.eval x = .slice (some ba) m m:=by generalize a1.eval x=xv at he;cases he;exact⟨_,_,rfl⟩
        simp only[MO,LZ,LP];rw[show J8 ops.toList.dropLast.length 1=[ops.toList.dropLast.length]from rfl,wpOpsIn_cons];unfold wpOpIn;rw[ho];simp only;have hw:L5 o (yielded ops a1.tmps)=true:=by simp[L5,hgd]
        rw[Nf hw];refine⟨λ_ _=>trivial,?_⟩;rw[KO _ _ _ (by rw[hop];intro d hd;cases hd),Yd hu hop hv];simp only[Gd,wpOpsIn];have hR2:=hR1.put (L7 _ _) (Md _ _) hR1.hr o.dst (v:= .bool (some ba).isNone) (av:= .d (.bool false)) (Fc (Kk _));rw[hdst]at hR2 ⊢;exact⟨c1,_,H1,hk,hR2.clear,e1,k1.cut n⟩
       ·exact hk.elim
     ·cases hnl
    ·cases hnl
   ·cases hnl
  refine wpIn_region ?_;have:=j9 (rd:=rd) (Q:=oR G nb n c H w Q) ops.toList 0 c H w tm a (by simp) hR h (λa' w' c' tm' H' hk hR' e k=>⟨c',za tm',H',hk,hR'.clear,e,k.cut n⟩);rw[G1];simpa using this
 |.region id ops true,tm,H,Q,_,h=>⟨λnb c a w hR=>b6 (Q:=oR G nb n c H w Q) hm hR h (λa' w' c' tm' H' hk hR' e k=>⟨c',za tm',H',hk,hR'.clear,e,k.cut n⟩)⟩
 |.loop b,tm,H,Q,hL,h=>by
  simp only[pw]at h;split at h
  ·exact h.elim
  rename_i hsc;split at h
  ·rename_i W hW;have hl:mkLoop b = .loop b:=by cases b<;>first|rfl|simp[isScope]at hsc
   rw[←hl];exact hL b (by simp[loopsOf]) W hW tm H Q h
  ·exact h.elim
 |.rangeFunc _ _ _ _,_,_,_,_,h=>h.elim
 |.scope _,_,_,_,_,h=>h.elim
 |.goto _,_,_,_,_,h=>h.elim
 |.refuse _,_,_,_,_,h=>h.elim
end
section
variable {P:Ng}{G:Nat->OK (ON D)}{nb:Nat}{c:Cx}{H:ON Box}{w:N4}{tm:ON AV}{a:NI}
theorem XT {m:Nat}(o:Obj) (h1:∀l k:Nat,c.ρ[l]? ≠ some (some (m,k))) (h2:∀o,¬ c.I m o) (h3:¬ c.J m):Aside' c w (w.putObj m o) m :=⟨rfl,rfl,rfl,by simp,λb hb=>FW hb,h1,h2,h3⟩
theorem lp {c0:Cx}{w0:N4}{fn:L3}{R:Ending->N4->Prop}:∀(ms:ON Nat) (w:N4),ms.Nodup->(∀m∈ms,w0.heap.size<=m/\w.heap[m]? = some (.deferred (some []))/\(∀l k:Nat,c.ρ[l]? ≠ some (some (m,k)))/\(∀o,¬ c.I m o)/\¬ c.J m)->HR c H w->GR G c w->Tc c H w a.tmps tm->Nw c0 w0 c w->(∀w',HR c H w'->GR G c w'->Tc c H w' a.tmps tm->Nw c0 w0 c w'->LeavesIn (wF none) 0 P fn a.tmps R [] .returning w')->LeavesInM (wF none) 0 P fn a.tmps R (ms.map mark) .returning w
 |[],w,_,_,h1,h2,h3,h4,h=>h w h1 h2 h3 h4
 |m::ms,w,hnd,hm,h1,h2,h3,h4,h=>by obtain⟨a1,a2,a3,a4,a5⟩:=hm m (by simp);have hs:=XT (w:=w) (.deferred none) a3 a4 a5;refine⟨by simp,.inl ⟨m,w.putObj m (.deferred none),rfl,run_takeDeferred a2,?_⟩⟩;refine lp ms _ (KZ.1 hnd).2 (λk hk=>?_) (hs.hr h1) (hs.gr h2) (hs.slots h3) (hs.ext h4 a1) h;obtain⟨b1,b2,b3⟩:=hm k (by simp[hk]);have hne:k≠m:=λe=>(KZ.1 hnd).1 (e ▸ hk);exact⟨b1,by rw[FW hne];exact b2,b3⟩
theorem wz {f:L8}{fn:L3}{code:Np}{args:OC Value}{R:Ending->N4->Prop}{c0:Cx}{w0:N4}{H0:ON Box}{n:Nat}{Q:Post}(hf:P.funcs[f]? = some fn) (hb:fn.body=some code) (hR:M5 G w0.heap.size c0 H0 w0 tm { tmps:=args++Mb (fn.ntmps - args.size) undef,defers:=[] }) (h:PW P G none n code tm H0 Q) (hq:∀e c H w tm a,Q e tm H->M5 G w0.heap.size c H w tm a->Nw c0 w0 c w->zp c0 (H0.take n) c H->(e = .ret∨e = .normal)/\∃v,(results fn a.tmps).run P w = .ok v w/\R (.returned v) w):Ku P f args w0 R:=by
 refine(callsIn_wide (n:=0)).1 (callsIn_of_wp_marks hf hb trivial (wpIn_mono (h.run _ c0 _ w0 hR) λe a' w' hE=>?_));obtain⟨c',tm',H',h1,h2,h3,h4⟩:=hE;obtain⟨_,ms,hms,hnd,hm⟩:=h2.df;have key:LeavesInM (wF none) 0 P fn a'.tmps R a'.defers .returning w':=by rw[hms];refine lp (c0:=c0) (w0:=w0) ms w' hnd hm h2.hr h2.gr h2.tm h3 λw2 g1 g2 g3 g4=>?_;exact(hq e c' H' w2 tm' { a' with defers:=[] } h1 ⟨g1,g2,g3,Ie g4.size⟩ g4 h4).2
 rcases (hq e c' H' w' tm' a' h1 h2 h3 h4).1 with rfl|rfl
 ·exact key
 ·exact key
end
def p8 (P:Ng) (tm:ON AV) (H:ON Box):GC->OK AV
 |.tmp t=>some (yr [] tm t)
 |.cell x T =>
  match yr [] tm x with
  |.ptr l o=>match H[l]? with
   |some (.cells _ cs)=>u0 P T (cs.drop o)
   |_=>none
  |_=>none
def aB (P:Ng) (fn:L3) (Q:ON D->Prop):Post:=λe tm H =>match e with
 |.ret=>match fn.results.toList.mapM (p8 P tm H)with
  |some aas=>match aas.mapM avD with
   |some rs=>Q rs
   |none=>NL
  |none=>NL
 |.normal=>match fn.results.toList.mapM (p8 P tm H)with
  |some aas=>match aas.mapM avD with
   |some rs=>Q rs
   |none=>NL
  |none=>NL
 |_=>NL
def wy (fn:L3) (ds:ON D):ON AV:=ds.map .d++M4 (fn.ntmps - ds.length) .any
def fG (tmps:OC Value):GC->Sem Value
 |.tmp t=>pure (tmps.getD t undef)
 |.cell b T=>do loadVar T (←asAddr (tmps.getD b undef))
section
variable {P:Ng}{G:Nat->OK (ON D)}{nb:Nat}{rd:OK Nat}{c:Cx}{H:ON Box}{w:N4}{tm:ON AV}{a:NI}
theorem aA (hR:M5 G nb c H w tm a) (x:GC) (av:AV) (h:p8 P tm H x=some av):∃v,(fG a.tmps x).run P w = .ok v w/\RA c H w av v:=by
 have ht:uo a.tmps []:=λg p h=>by simp[hasTag]at h
 cases x with
 |tmp t =>
  simp only[p8,K0]at h;subst h;exact⟨_,rfl,s7 hR ht t⟩
 |cell b T =>
  simp only[p8]at h;simp only[fG];have hb:=s7 hR ht b;split at h
  ·rename_i l o hg;rw[hg]at hb;split at h
   ·rename_i T' cs hl;generalize a.tmps.getD b undef=vb at *;cases hb with
    |@ptr _ _ blk k _ _ hH hρ =>
     obtain⟨vs,hw,hvs⟩:=hR.hr.box l blk k _ hρ hl;obtain⟨v,h1,h2⟩:=uQ (b:=blk) (o:=o) h (hvs.drop o) (λj v hj=>by simp only[ON.getElem?_drop]at hj;simp[Ko,hw,hj]);refine⟨v,?_,h2⟩;simp only[Instr.loadAt,Ms,JZ,MV,Mt]at h1;simp only[Ms,asAddr,MV,Mt,h1]
   ·cases h
  ·cases h
theorem gg (hR:M5 G nb c H w tm a):∀(l:ON GC) (aas:ON AV),l.mapM (p8 P tm H)=some aas->∃vs:ON Value,(l.mapM (fG a.tmps)).run P w = .ok vs w/\z8 (λv a=>RA c H w a v) vs aas
 |[],aas,h=>by simp at h;subst h;exact⟨[],rfl,Mh⟩
 |x::l,aas,h=>by
  rw[Jq]at h;cases hx:p8 P tm H x with
  |none=>rw[hx]at h;cases h
  |some y =>
   rw[hx]at h;cases hr:l.mapM (p8 P tm H)with
   |none=>rw[hr]at h;cases h
   |some ys =>
    rw[hr]at h;simp at h;subst h;obtain⟨v,h1,h2⟩:=aA hR x y hx;obtain⟨vs,h3,h4⟩:=gg hR l ys hr;refine⟨v::vs,?_,M8 h2 h4⟩;rw[Jq];simp only[Ms,h1,Mt,h3,MV]
theorem wi {fn:L3}{aas:ON AV}(hR:M5 G nb c H w tm a) (h:fn.results.toList.mapM (p8 P tm H)=some aas):∃vs:ON Value,(results fn a.tmps).run P w = .ok (if hh:vs.toArray.size=1 then vs.toArray[0]else .tuple vs.toArray) w/\z8 (λv a=>RA c H w a v) vs aas:=by
 obtain⟨vs,h1,h2⟩:=gg hR _ _ h;refine⟨vs,?_,h2⟩;have hs:results fn a.tmps=(do
   let vs ←fn.results.mapM (fG a.tmps);pure (if h:vs.size=1 then vs[0]else .tuple vs)):=by
  unfold results;congr 2
 rw[hs,OC.mapM_eq_mapM_toList];simp only[Ms,Sem.run_map,MV];rw[h1];rfl
theorem Yc {c':Cx}{w':N4}{vs:ON Value}{rs:ON D}(h:z8 (RV c'.I c'.J w') vs rs):fT c'.I c'.J w' (if hh:vs.toArray.size=1 then vs.toArray[0]else .tuple vs.toArray) rs:=by
 match rs,vs,h with
 |[],vs,h =>
  have:=h.nil_right;subst this;exact⟨[],rfl,Mh⟩
 |[d],vs,h =>
  obtain⟨v,vs',rfl,h1,h2⟩:=h.cons_right;have:=h2.nil_right;subst this;exact h1
 |d1::d2::r,vs,h =>
  obtain⟨v,vs',rfl,h1,h2⟩:=h.cons_right;obtain⟨v2,vs2,rfl,h3,h4⟩:=h2.cons_right;have:¬ (v::v2::vs2).toArray.size=1:=by simp
  rw[dif_neg this];exact⟨_,rfl,h⟩
theorem z8.start {fn:L3}{ds:ON D}{vs:ON Value}(tmps:OC Value) (h:z8 (RV c.I c.J w) vs ds):z8 (λv a=>yA c H w tmps a v) (vs++M4 (fn.ntmps - vs.length) undef) (wy fn ds):=by
 unfold wy;rw[h.1];refine GF ⟨by simp[h.1],λi v a hv ha=>?_⟩ ⟨by simp,λi v a hv ha=>?_⟩
 ·simp only[M6]at ha;cases hd:ds[i]? with
  |none=>rw[hd]at ha;simp at ha
  |some d=>rw[hd]at ha;simp at ha;subst ha;exact Fc (h.2 i v d hv hd)
 ·have hi:i<fn.ntmps - ds.length:=by
   rcases M0 i (fn.ntmps - ds.length)with h' |h'
   ·exact h'
   ·rw[My (by simpa using h')]at ha;simp at ha
  simp[hi]at ha;subst ha;exact Jx v
theorem PFn.intro {f:L8}{fn:L3}{code:Np}{ds:ON D}{Q:ON D->Prop}(hf:P.funcs[f]? = some fn) (hb:fn.body=some code) (hex:∃rs,Q rs) (h:PW P G none 0 code (wy fn ds) [] (aB P fn Q)):OB P G f ds Q:=by
 refine⟨hex,λc w vs hρ hr hg hvs=>wz (c0:=c) (tm:=wy fn ds) (H0:=[]) hf hb ?_ h ?_⟩
 ·refine⟨hr,hg,?_,Ie (MS _)⟩;show z8 _ (vs.toArray++Mb (fn.ntmps - vs.toArray.size) undef).toList _;have:(vs.toArray++Mb (fn.ntmps - vs.toArray.size) undef).toList=vs++M4 (fn.ntmps - vs.length) undef:=by simp
  rw[this];exact z8.start _ hvs
 ·intro e c' H' w' tm' a' h1 h2 h3 h4;have fin:∀aas rs,fn.results.toList.mapM (p8 P tm' H')=some aas->aas.mapM avD=some rs->Q rs ->
    ∃v,(results fn a'.tmps).run P w' = .ok v w'/\∃v' rs c',Ex v = .returned v'/\Q rs/\c'.ρ=[]/\Nw c w c' w'/\HR c' [] w'/\fT c'.I c'.J w' v' rs:=by
   intro aas rs has hrs hq;obtain⟨vs',h5,h6⟩:=wi h2 has;refine⟨_,h5,_,rs,c'.take 0,rfl,hq,by simp[Fv],h3.trans (Jj c' w' 0),?_,?_⟩
   ·have:=h2.hr.take (n:=0) (by simp);simpa using this
   ·have hrv:=mapM_avD hrs h6;exact Yc (c':=c'.take 0) hrv
  cases e with
  |ret =>
   simp only[aB]at h1;split at h1
   ·rename_i aas has;split at h1
    ·rename_i rs hrs;exact⟨.inl rfl,fin aas rs has hrs h1⟩
    ·exact h1.elim
   ·exact h1.elim
  |normal =>
   simp only[aB]at h1;split at h1
   ·rename_i aas has;split at h1
    ·rename_i rs hrs;exact⟨.inr rfl,fin aas rs has hrs h1⟩
    ·exact h1.elim
   ·exact h1.elim
  |_=>exact h1.elim
theorem PFn.walk {f:L8}{fn:L3}{code:Np}{ds:ON D}{Q:ON D->Prop}(hm:P.follows .mixedOrders=true) (L:Loops) (hf:P.funcs[f]? = some fn) (hb:fn.body=some code) (hex:∃rs,Q rs) (hL:∀b∈loopsOf code,∀W,L (loopId b)=some W->∀tm H Q,W tm H Q->PW P G none 0 (mkLoop b) tm H Q) (h:pw P G L code (wy fn ds) [] (aB P fn Q)):OB P G f ds Q :=PFn.intro hf hb hex (yw hm code _ _ _ hL h)
def XS (P:Ng) (fn:L3) (n:Nat) (Q:ON D->ON Box->Prop):Post:=λe tm H =>match e with
 |.ret=>match fn.results.toList.mapM (p8 P tm H)with
  |some aas=>match aas.mapM avD with
   |some rs=>if decide (n<=H.length)&&(H.take n).all (Kd n)then Q rs (H.take n)else NL
   |none=>NL
  |none=>NL
 |.normal=>match fn.results.toList.mapM (p8 P tm H)with
  |some aas=>match aas.mapM avD with
   |some rs=>if decide (n<=H.length)&&(H.take n).all (Kd n)then Q rs (H.take n)else NL
   |none=>NL
  |none=>NL
 |_=>NL
def startA (fn:L3) (aas:ON AV):ON AV:=aas++M4 (fn.ntmps - aas.length) .any
def plainAV:AV->Bool
 |.opt _ _ _=>false
 |_=>true
theorem z8.startA {fn:L3}{aas:ON AV}{vs:ON Value}(tmps:OC Value) (hp:aas.all plainAV=true) (h:z8 (λv a=>RA c H w a v) vs aas):z8 (λv a=>yA c H w tmps a v) (vs++M4 (fn.ntmps - vs.length) undef) (startA fn aas):=by
 unfold Go.Sx.startA;rw[h.1];refine GF ⟨h.1,λi v a hv ha=>?_⟩ ⟨by simp,λi v a hv ha=>?_⟩
 ·have h1:=h.2 i v a hv ha;have h2:=ND.1 hp _ (MX ha);cases a<;>first
   |exact h1
   |simp[plainAV]at h2
 ·have hi:i<fn.ntmps - aas.length:=by
   rcases M0 i (fn.ntmps - aas.length)with h' |h'
   ·exact h'
   ·rw[My (by simpa using h')]at ha;simp at ha
  simp[hi]at ha;subst ha;exact Jx v
theorem PCall.intro {f:L8}{fn:L3}{code:Np}{aas:ON AV}{H:ON Box}{Q:ON D->ON Box->Prop}(hf:P.funcs[f]? = some fn) (hb:fn.body=some code) (hp:aas.all plainAV=true) (hex:∃rs H',Q rs H') (h:PW P G none H.length code (startA fn aas) H (XS P fn H.length Q)):Nn P G f aas H Q:=by
 refine⟨hex,λc w vs hr hg hvs=>wz (c0:=c) (tm:=startA fn aas) (H0:=H) hf hb ?_ h ?_⟩
 ·refine⟨hr,hg,?_,Ie (MS _)⟩;show z8 _ (vs.toArray++Mb (fn.ntmps - vs.toArray.size) undef).toList _;have:(vs.toArray++Mb (fn.ntmps - vs.toArray.size) undef).toList=vs++M4 (fn.ntmps - vs.length) undef:=by simp
  rw[this];exact z8.startA _ hp hvs
 ·intro e c' H' w' tm' a' h1 h2 h3 h4;rw[La]at h4;have fin:∀aas rs,fn.results.toList.mapM (p8 P tm' H')=some aas->aas.mapM avD=some rs->(if decide (H.length<=H'.length)&&(H'.take H.length).all (Kd H.length)then Q rs (H'.take H.length)else NL) ->
    ∃v,(results fn a'.tmps).run P w' = .ok v w'/\∃v' rs c' H',Ex v = .returned v'/\Q rs H'/\H'.length=H.length/\Nw c w c' w'/\zp c H c' H'/\HR c' H' w'/\fT c'.I c'.J w' v' rs:=by
   intro aas rs has hrs hq;split at hq
   ·rename_i hu;simp only[NK,NR]at hu;obtain⟨hlen,hu⟩:=hu;obtain⟨vs',h5,h6⟩:=wi h2 has;refine⟨_,h5,_,rs,c'.take H.length,H'.take H.length,rfl,hq,by rw[Kr];omega,h3.trans (Jj c' w' _),?_,h2.hr.take hu,?_⟩
    ·intro l x hx;have hlt:l<H.length:=by
      rcases M0 l H.length with h' |h'
      ·exact h'
      ·rw[My h']at hx;cases hx
     have:=h4 l x hx;have e1:(c'.take H.length).ρ[l]? = c'.ρ[l]? :=by show(c'.ρ.take _)[l]? = _;rw[zJ hlt]
     have e2:(H'.take H.length)[l]? = H'[l]? :=zJ hlt;cases x<;>simp only[e1,e2]<;>exact this
    ·have hrv:=mapM_avD hrs h6;exact Yc (c':=c'.take H.length) hrv
   ·exact hq.elim
  cases e with
  |ret =>
   simp only[XS]at h1;split at h1
   ·rename_i aas has;split at h1
    ·rename_i rs hrs;exact⟨.inl rfl,fin aas rs has hrs h1⟩
    ·exact h1.elim
   ·exact h1.elim
  |normal =>
   simp only[XS]at h1;split at h1
   ·rename_i aas has;split at h1
    ·rename_i rs hrs;exact⟨.inr rfl,fin aas rs has hrs h1⟩
    ·exact h1.elim
   ·exact h1.elim
  |_=>exact h1.elim
theorem PCall.walk {f:L8}{fn:L3}{code:Np}{aas:ON AV}{H:ON Box}{Q:ON D->ON Box->Prop}(hm:P.follows .mixedOrders=true) (L:Loops) (hf:P.funcs[f]? = some fn) (hb:fn.body=some code) (hp:aas.all plainAV=true) (hex:∃rs H',Q rs H') (hL:∀b∈loopsOf code,∀W,L (loopId b)=some W->∀tm H' Q,W tm H' Q->PW P G none H.length (mkLoop b) tm H' Q) (h:pw P G L code (startA fn aas) H (XS P fn H.length Q)):Nn P G f aas H Q :=PCall.intro hf hb hp hex (yw hm code _ _ _ hL h)
theorem z7 {A:Prop}(B:Prop) (h:A=B) (hb:B):A:=h.symm ▸ hb
end
def hasN:ON Nat->Nat->Bool
 |[],_=>false
 |x::r,i=>KE x i||hasN r i
def findU:ON (Nat×AV)->Nat->OK AV
 |[],_=>none
 |(j,x)::r,i=>if KE j i then some x else findU r i
def jr (keep:ON Nat) (upd:ON (Nat×AV)):Nat->ON AV->ON AV
 |_,[]=>[]
 |i,a::r=>(match findU upd i with
  |some x=>dull x
  |none=>if hasN keep i then dull a else .any)::jr keep upd (i+1) r
theorem wA (keep:ON Nat) (upd:ON (Nat×AV)):∀(i:Nat) (tm:ON AV),cU (jr keep upd i tm)=true
 |_,[]=>rfl
 |i,a::r=>by
  have hd:∀x:AV,(match dull x with|.opt _ _ _=>false|_=>true)=true:=λx=>by cases x<;>rfl
  have ih:=wA keep upd (i+1) r;simp only[cU,jr,ON.all_cons,NK]at ih ⊢;refine⟨?_,ih⟩;cases findU upd i with
  |some x=>exact hd x
  |none =>
   simp only;cases hasN keep i with
   |true=>exact hd a
   |false=>rfl
def zT {α:Type}(P:Ng) (G:Nat->OK (ON D)) (L:Loops) (n:Nat) (body:Np) (keep:ON Nat) (Inv:α->Prop) (m:α->Nat) (tmU:α->ON (Nat×AV)) (hU:ON Box->α->ON Box) (tm:ON AV) (H:ON Box) (Q:Post):Prop :=if isScope body then NL else ∃x0,Inv x0/\Wk n tm H (jr keep (tmU x0) 0 tm) (hU H x0)/\∀x,Inv x->pw P G L body (jr keep (tmU x) 0 tm) (hU H x) (jt (λtm' H'=>∃y,Inv y/\m y<m x/\Wk n tm' H' (jr keep (tmU y) 0 tm) (hU H y)) Q)
def zx (P:Ng) (G:Nat->OK (ON D)) (rd:OK Nat) (n:Nat) (L:Loops) (bs:ON Np):Prop :=∀b∈bs,∀W,L (loopId b)=some W->∀tm H Q,W tm H Q->PW P G rd n (mkLoop b) tm H Q
section
variable {P:Ng}{G:Nat->OK (ON D)}{rd:OK Nat}{n:Nat}
theorem zx.nil {L:Loops}:zx P G rd n L []:=λb hb=>by cases hb
theorem zx.cons {L:Loops}{b:Np}{bs:ON Np}{W:ON AV->ON Box->Post->Prop}(h1:L (loopId b)=some W) (h2:∀tm H Q,W tm H Q->PW P G rd n (mkLoop b) tm H Q) (h3:zx P G rd n L bs):zx P G rd n L (b::bs):=by
 intro b' hb W' hW;rcases MU.1 hb with rfl|hb
 ·rw[h1]at hW;cases hW;exact h2
 ·exact h3 b' hb W' hW
theorem b7 {α:Type}(hm:P.follows .mixedOrders=true) {L:Loops}{body:Np}{keep:ON Nat}{Inv:α->Prop}{m:α->Nat}{tmU:α->ON (Nat×AV)}{hU:ON Box->α->ON Box}(hL:zx P G rd n L (loopsOf body)) (tm:ON AV) (H:ON Box) (Q:Post) (h:zT P G L n body keep Inv m tmU hU tm H Q):PW P G rd n (mkLoop body) tm H Q:=by
 unfold zT at h;split at h
 ·exact h.elim
 rename_i hsc;have hl:mkLoop body = .loop body:=by cases body<;>first|rfl|simp[isScope]at hsc
 rw[hl];obtain⟨x0,hi,hw,hr⟩:=h;refine PW.weaken hw (wA _ _ _ _) ?_;refine PW.loop (α:= { x:α // Inv x }) (λx=>jr keep (tmU x.1) 0 tm) (λx=>hU H x.1) (λx=>m x.1) (λx=>wA _ _ _ _) (λx=>?_) ⟨x0,hi⟩;refine(yw hm body _ _ _ hL (hr x.1 x.2)).mono λe tm' H' hq=>?_;cases e with
 |normal =>
  obtain⟨y,h1,h2,h3⟩:=hq;exact⟨⟨y,h1⟩,h2,h3⟩
 |_=>exact hq
end
abbrev LW:=ON AV->ON Box->Post->Prop
def LL:ON (Nat×LW)->Loops
 |[],_=>none
 |(i,W)::r,j=>if KE i j then some W else LL r j
section
variable {P:Ng}{G:Nat->OK (ON D)}{rd:OK Nat}{n:Nat}
def yU (P:Ng) (G:Nat->OK (ON D)) (rd:OK Nat) (n:Nat) (b:Np) (W:LW):Prop:= ∀tm H Q,W tm H Q->PW P G rd n (mkLoop b) tm H Q
theorem zx.of {L:Loops}{code:Np}:∀{bs:ON Np},loopsOf code=bs->zx P G rd n L bs->zx P G rd n L (loopsOf code)
 |_,h,h2=>by rw[h];exact h2
theorem zx.one {code b1:Np}{i1:Nat}{W1:LW}(h:loopsOf code=[b1]) (e1:LL [(i1,W1)] (loopId b1)=some W1) (h1:yU P G rd n b1 W1):zx P G rd n (LL [(i1,W1)]) (loopsOf code) := .of h (.cons e1 h1 .nil)
theorem zx.two {code b1 b2:Np}{i1 i2:Nat}{W1 W2:LW}(h:loopsOf code=[b1,b2]) (e1:LL [(i1,W1),(i2,W2)] (loopId b1)=some W1) (e2:LL [(i1,W1),(i2,W2)] (loopId b2)=some W2) (h1:yU P G rd n b1 W1) (h2:yU P G rd n b2 W2):zx P G rd n (LL [(i1,W1),(i2,W2)]) (loopsOf code) := .of h (.cons e1 h1 (.cons e2 h2 .nil))
theorem zx.four {code b1 b2 b3 b4:Np}{i1 i2 i3 i4:Nat}{W1 W2 W3 W4:LW}(h:loopsOf code=[b1,b2,b3,b4]) (e1:LL [(i1,W1),(i2,W2),(i3,W3),(i4,W4)] (loopId b1)=some W1) (e2:LL [(i1,W1),(i2,W2),(i3,W3),(i4,W4)] (loopId b2)=some W2) (e3:LL [(i1,W1),(i2,W2),(i3,W3),(i4,W4)] (loopId b3)=some W3) (e4:LL [(i1,W1),(i2,W2),(i3,W3),(i4,W4)] (loopId b4)=some W4) (h1:yU P G rd n b1 W1) (h2:yU P G rd n b2 W2) (h3:yU P G rd n b3 W3) (h4:yU P G rd n b4 W4):zx P G rd n (LL [(i1,W1),(i2,W2),(i3,W3),(i4,W4)]) (loopsOf code) := .of h (.cons e1 h1 (.cons e2 h2 (.cons e3 h3 (.cons e4 h4 .nil))))
theorem zx.five {code b1 b2 b3 b4 b5:Np}{i1 i2 i3 i4 i5:Nat}{W1 W2 W3 W4 W5:LW}(h:loopsOf code=[b1,b2,b3,b4,b5]) (e1:LL [(i1,W1),(i2,W2),(i3,W3),(i4,W4),(i5,W5)] (loopId b1)=some W1) (e2:LL [(i1,W1),(i2,W2),(i3,W3),(i4,W4),(i5,W5)] (loopId b2)=some W2) (e3:LL [(i1,W1),(i2,W2),(i3,W3),(i4,W4),(i5,W5)] (loopId b3)=some W3) (e4:LL [(i1,W1),(i2,W2),(i3,W3),(i4,W4),(i5,W5)] (loopId b4)=some W4) (e5:LL [(i1,W1),(i2,W2),(i3,W3),(i4,W4),(i5,W5)] (loopId b5)=some W5) (h1:yU P G rd n b1 W1) (h2:yU P G rd n b2 W2) (h3:yU P G rd n b3 W3) (h4:yU P G rd n b4 W4) (h5:yU P G rd n b5 W5):zx P G rd n (LL [(i1,W1),(i2,W2),(i3,W3),(i4,W4),(i5,W5)]) (loopsOf code) := .of h (.cons e1 h1 (.cons e2 h2 (.cons e3 h3 (.cons e4 h4 (.cons e5 h5 .nil)))))
end
def rowAt:ON Sh->ON D->Nat->Nat->ON D
 |[],_,_,_=>[]
 |s::r,ds,i,j=>s.norm ((z1 ds i j).getD default)::rowAt r ds i (j+1)
def zk (shs:ON Sh) (ds:ON D) (i:Nat):D:= .agg (rowAt shs ds i 0)
def zz (code:Np) (i:Nat):Np:=(loopsOf code).getD i .skip
def z6 (fn:L3):Np:=fn.body.getD .skip
def oJ (tm:ON AV) (ps:ON Nat) (aas:ON AV):ON AV:=(ps.zip aas).foldl (λt (x:Nat×AV)=>t.set x.1 x.2) tm
def rq (l n:Nat) (Q:ON D->ON Box->Prop) (H':ON Box) (b:Bool) (pend:OK Np) (st:NQ):Prop :=if decide (n<=H'.length)&&(H'.take n).all (Kd n)then match H'[l]? with
  |some (.loop tm ps asn bd _ _)=>Q [.bool b] ((H'.take n).set l (.loop tm ps asn bd pend st))
  |_=>NL
 else NL
def SY (l n:Nat) (Q:ON D->ON Box->Prop):Post:=λe _ H' =>match e with
 |.normal=>rq l n Q H' true none .ready
 |.ret=>rq l n Q H' false (some .ret) .done
 |.exit i=>rq l n Q H' false (some (.exit i)) .done
 |_=>NL
def Sq (P:Ng) (G:Nat->OK (ON D)) (L:Loops) (l:Nat) (body:Np) (tm:ON AV) (H:ON Box) (Q:Post):Prop :=match H[l]? with
 |some (.loop tm' ps asn bd pend .ready)=>pw P G L body tm (H.set l (.loop tm' ps asn bd pend .busy)) Q
 |_=>NL
section
variable {P:Ng}{G:Nat->OK (ON D)}{c:Cx}{H:ON Box}{w:N4}{tm:ON AV}
theorem zp.set_loop {l:Nat}{tm:ON AV}{ps:ON Nat}{asn bd:Np}{pend:OK Np}{st:NQ}(hl:H[l]? = some (.loop tm ps asn bd pend st)) (pend':OK Np) (st':NQ):zp c H c (H.set l (.loop tm ps asn bd pend' st')):=by
 intro m y hy;by_cases e:l=m
 ·subst e;rw[hl]at hy;simp at hy;subst hy;exact⟨⟨pend',st',xy hl⟩,rfl⟩
 ·cases y<;>simp only[zG e,hy]<;>simp
theorem jq {l b k:Nat}{tm:ON AV}{ps:ON Nat}{asn bd:Np}{pend:OK Np}{st:NQ}{r:Loop}(hR:HR c H w) (hl:H[l]? = some (.loop tm ps asn bd pend st)) (hρ:c.ρ[l]? = some (some (b,k))) (hr:w.heap[b]? = some (.loop r)) (pend':OK Np) (st':NQ): let w':=w.putObj b (.loop { r with state:=st',pending:=pend' })
  Nw c w c w'/\HR c (H.set l (.loop tm ps asn bd pend' st')) w':=by
 intro w';have hlt:=hR.lt l b k hρ;have ho:∀b',b'≠b->w'.heap[b']? = w.heap[b']? :=λb' hne=>FW hne;have hs:w'.heap.size=w.heap.size:=by simp[w']
 have e:Nw c w c w':=Nw.set_box hρ hR rfl rfl rfl hs ho (λn sz h=>by rw[hl]at h;cases h);have kp:zp c H c (H.set l (.loop tm ps asn bd pend' st')):=zp.set_loop hl _ _;refine⟨e,HR.set_box hρ hR hl hs ho (λn sz h=>by cases h) e kp ?_⟩;obtain⟨r',h1,h2,h3,h4,h5,h6,h7⟩:=hR.box l b k _ hρ hl;rw[hr]at h1;simp at h1;subst h1;exact⟨_,N4.putObj_heap_same hlt,h2,h3,h4,rfl,rfl,h7.mono λ_ _ h=>h.ext e kp⟩
theorem jp {tmps0:OC Value}{R:Value->AV->Prop}:∀(ps:ON Nat) (vs:ON Value) (aas:ON AV) (tmps:OC Value) (tm:ON AV),vs.length=aas.length->(∀(i:Nat) v a,vs[i]? = some v->aas[i]? = some a->R v a)->z8 R tmps.toList tm->z8 R ((ps.zip vs).foldl (λt (x:Nat×Value)=>t.setIfInBounds x.1 x.2) tmps).toList (oJ tm ps aas)
 |[],vs,aas,tmps,tm,_,_,h=>by simpa[oJ]using h
 |p::ps,[],[],tmps,tm,_,_,h=>by simpa[oJ]using h
 |p::ps,v::vs,a::aas,tmps,tm,hl,hr,h=>by simp only[ON.zip_cons_cons,ON.foldl_cons,oJ];refine jp (tmps0:=tmps0) ps vs aas _ _ (by simpa using hl) (λi v' a' h1 h2=>hr (i+1) v' a' (by simpa using h1) (by simpa using h2)) ?_;rw[OC.toList_setIfInBounds];exact h.set p (hr 0 v a rfl rfl)
 |p::ps,[],_::_,_,_,hl,_,_=>by simp at hl
 |p::ps,_::_,[],_,_,hl,_,_=>by simp at hl
theorem PYield.walk {l:Nat}{aas:ON AV}{H:ON Box}{ps:ON Nat}{asn bd:Np}{Q:ON D->ON Box->Prop}(hm:P.follows .mixedOrders=true) (L:Loops) (hl:H[l]? = some (.loop tm ps asn bd none .ready)) (hlen:ps.length=aas.length) (hp:aas.all plainAV=true) (hno:tm.all plainAV=true) (hex:∃rs H',Q rs H') (hL1:∀rd,zx P G rd H.length L (loopsOf asn)) (hL2:∀rd,zx P G rd H.length L (loopsOf bd)) (h:pw P G L asn (oJ tm ps aas) H (jt (λtm1 H1=>Sq P G L l bd tm1 H1 (SY l H.length Q)) (λ_ _ _=>NL))):Mo P G l aas H Q:=by
 refine⟨hex,λc w vs b k hr hg hρ hvs=>?_⟩;obtain⟨r,h1,h2,h3,h4,h5,h6,h7⟩:=hr.box l b k _ hρ hl;have hsz:vs.toArray.size=r.params.size:=by
  have e1:=hvs.1;have e2:r.params.size=ps.length:=by rw[←h2];simp
  simp only[ON.size_toArray];omega
 refine⟨r.fn,_,r.assign,r.body,run_yield h1 hsz,?_⟩;refine roundIn_of_wpIn trivial ?_;have hplain:∀(a:AV) (v:Value),a∈oJ tm ps aas->plainAV a=true:=by
  intro a v ha;unfold oJ at ha;have:∀(zs:ON (Nat×AV)) (t:ON AV),(∀x∈t,plainAV x=true)->(∀z∈zs,plainAV z.2=true)->∀x∈zs.foldl (λt (x:Nat×AV)=>t.set x.1 x.2) t,plainAV x=true:=by
   intro zs;induction zs with
   |nil=>intro t h1 _ x hx;exact h1 x hx
   |cons z zs ih =>
    intro t h1 h2 x hx;refine ih (t.set z.1 z.2) (λy hy=>?_) (λy hy=>h2 y (by simp[hy])) x hx;rcases Di hy with h3|h3
    ·exact h1 y h3
    ·rw[h3];exact h2 z (by simp)
  refine this _ _ (λx hx=>ND.1 hno x hx) (λz hz=>?_) a ha;exact ND.1 hp _ (ON.of_mem_zip hz).2
 let tmps:OC Value:=(r.params.zip vs.toArray).foldl (λtmps (x:Nat×Value)=>tmps.setIfInBounds x.1 x.2) r.tmps;have htm:Tc c H w tmps (oJ tm ps aas):=by
  have e1:tmps=(ps.zip vs).foldl (λt (x:Nat×Value)=>t.setIfInBounds x.1 x.2) r.tmps:=by show(r.params.zip vs.toArray).foldl _ _=_;rw[←OC.foldl_toList,OC.toList_zip,h2]
  have e2:=jp (tmps0:= #[]) (R:=λv a=>RA c H w a v) ps vs aas r.tmps tm hvs.1 (λi v a h1 h2=>hvs.2 i v a h1 h2) h7;rw[←e1]at e2;refine⟨e2.1,λi v a hv ha=>?_⟩;have h8:=e2.2 i v a hv ha;have h9:=hplain a v (MX ha);cases a<;>first
   |exact h8
   |simp[plainAV]at h9
 have hRep:M5 G w.heap.size c H w (oJ tm ps aas) { tmps:=tmps,defers:=[] }:=⟨hr,hg,htm,Ie (MS _)⟩;have hasn:=yw (rd:=some b) (n:=H.length) hm asn _ _ _ (hL1 (some b)) h;subst h3 h4;refine wpIn_mono (hasn.run _ c _ w hRep) λe a1 w1 hE=>?_;obtain⟨c1,tm1,H1,g1,g2,g3,g4⟩:=hE;rw[La]at g4;cases e with
 |normal =>
  simp only[jt,Sq]at g1;split at g1
  ·rename_i tm' ps' asn' bd' pend' hl1;obtain⟨⟨p2,s2,k1⟩,k2⟩:=g4 l _ hl;rw[hl1]at k1;simp only[K0,Ae]at k1;obtain⟨rfl,rfl,rfl,rfl,rfl,rfl⟩:=k1;have hρ1:c1.ρ[l]? = some (some (b,k)):=by rw[k2];exact hρ
   obtain⟨r1,q1,q2,q3,q4,q5,q6,q7⟩:=g2.hr.box l b k _ hρ1 hl1;obtain⟨e5,hr5⟩:=jq g2.hr hl1 hρ1 q1 pend' .busy;have kp5:zp c1 H1 c1 (H1.set l (.loop tm' ps' r.assign r.body pend' .busy)):=zp.set_loop hl1 _ _;refine⟨w1.putObj b (.loop { r1 with state:= .busy }),run_beginRound q1 q6,?_⟩;have e6:({ r1 with state:= .busy,pending:=pend' }:Loop) = { r1 with state:= .busy }:=by rw[←q5]
   rw[e6]at e5 hr5;have hRep1:M5 G w.heap.size c1 (H1.set l (.loop tm' ps' r.assign r.body pend' .busy)) (w1.putObj b (.loop { r1 with state:= .busy })) tm1 a1:=⟨hr5,g2.gr.ext e5,g2.tm.ext e5 kp5,g2.df.ext e5⟩;have hbd:=yw (rd:=some b) (n:=H.length) hm r.body _ _ _ (hL2 (some b)) g1;refine wpIn_mono (hbd.run _ c1 _ _ hRep1) λe2 a3 w3 hE2=>?_;obtain⟨c3,tm3,H3,m1,m2,m3,m4⟩:=hE2;have hext:Nw c w c3 w3:=g3.trans (e5.trans m3);have hkeep:zp c H c3 H3:=by
    have h10:zp c (H.take H.length) c1 (H1.set l (.loop tm' ps' r.assign r.body pend' .busy)):=by rw[La];exact g4.trans kp5
    have:=h10.link m4;rwa [La]at this
   have fin:∀(bb:Bool) (jump:OK Np) (st:NQ),rq l H.length Q H3 bb jump st->(bb=jump.isNone)->(st=if jump.isNone then .ready else .done)->∃v w',(Instr.endRound b jump).run P w3 = .ok v w'/\∃v' rs c' H',Ex v = .returned v'/\Q rs H'/\H'.length=H.length/\Nw c w c' w'/\zp c H c' H'/\HR c' H' w'/\fT c'.I c'.J w' v' rs:=by
    intro bb jump st hq hbb hst;unfold rq at hq;split at hq
    ·rename_i hu;simp only[NK,NR]at hu;obtain⟨hu1,hu2⟩:=hu;split at hq
     ·rename_i tm4 ps4 asn4 bd4 pend4 st4 hl3;have hllt:l<H.length:=by
       rcases M0 l H.length with h' |h'
       ·exact h'
       ·rw[My h']at hl;cases hl
      obtain⟨_,k5⟩:=hkeep l _ hl;have hρ3:c3.ρ[l]? = some (some (b,k)):=by rw[k5];exact hρ
      obtain⟨r3,t1,_⟩:=m2.hr.box l b k _ hρ3 hl3;have hρ4:(c3.take H.length).ρ[l]? = some (some (b,k)):=by show(c3.ρ.take _)[l]? = _;rw[zJ hllt];exact hρ3
      have hl4:(H3.take H.length)[l]? = some (.loop tm4 ps4 asn4 bd4 pend4 st4):=by rw[zJ hllt];exact hl3
      obtain⟨e7,hr7⟩:=jq (m2.hr.take hu2) hl4 hρ4 t1 jump st;refine⟨_,_,run_endRound jump t1,.bool bb,[.bool bb],c3.take H.length,(H3.take H.length).set l (.loop tm4 ps4 asn4 bd4 jump st),by rw[hbb],hq,by simp[Kr];omega,?_,?_,?_,Kk _⟩
      ·rw[←hst];exact(hext.trans (Jj c3 w3 _)).trans e7
      ·have kp7:zp (c3.take H.length) (H3.take H.length) (c3.take H.length) ((H3.take H.length).set l (.loop tm4 ps4 asn4 bd4 jump st)):=zp.set_loop hl4 _ _;have kp6:zp c H (c3.take H.length) (H3.take H.length):=by
        intro m x hx;have hlt:m<H.length:=by
         rcases M0 m H.length with h' |h'
         ·exact h'
         ·rw[My h']at hx;cases hx
        have:=hkeep m x hx;have e1:(c3.take H.length).ρ[m]? = c3.ρ[m]? :=by show(c3.ρ.take _)[m]? = _;rw[zJ hlt]
        have e2:(H3.take H.length)[m]? = H3[m]? :=zJ hlt;cases x<;>simp only[e1,e2]<;>exact this
       exact kp6.trans kp7
      ·rw[←hst];exact hr7
     ·exact hq.elim
    ·exact hq.elim
   cases e2 with
   |normal=>exact fin true none .ready m1 rfl rfl
   |ret=>exact fin false (some .ret) .done m1 rfl rfl
   |exit i=>exact fin false (some (.exit i)) .done m1 rfl rfl
   |goto t=>exact m1.elim
   |panic ch=>exact m1.elim
   |outgrown=>exact m1.elim
  ·exact g1.elim
 |_=>exact g1.elim
end
structure PFnA (P:Ng) (G:Nat->OK (ON D)) (f:L8) (ds:ON D) (Q:AV->Prop):Prop where
 run:∀(c:Cx) (w:N4) (vs:ON Value),c.ρ=[]->HR c [] w->GR G c w->z8 (RV c.I c.J w) vs ds ->
  Ku P f vs.toArray w λe w'=>∃v av c',e = .returned v/\Q av/\c'.ρ=[]/\Nw c w c' w'/\HR c' [] w'/\RA c' [] w' av v
def uL (H:ON Box):AV->OK AV
 |.d x=>some (.d x)
 |.iptr cs=>some (.iptr cs)
 |.full ds=>some (.full ds)
 |.ptr l 0 =>
  match H[l]? with
  |some (.cells _ cs)=>(cs.mapM avD1).map .iptr
  |_=>none
 |_=>none
def fF (H:ON Box):AV->OK AV
 |.clo f fi ca =>
  match fi.mapM (uL H),ca.mapM (uL H)with
  |some fi',some ca'=>some (.clo f fi' ca')
  |_,_=>none
 |a=>uL H a
def Rh (P:Ng) (fn:L3) (Q:AV->Prop):Post:=λe tm H =>match e with
 |.ret=>match fn.results.toList.mapM (p8 P tm H)with
  |some [av]=>match fF H av with
   |some r=>Q r
   |none=>NL
  |_=>NL
 |_=>NL
def Cx.freeze (c:Cx) (H:ON Box):Cx:= { ρ:=[],I:=λb o=>c.I b o∨ ∃(l k:Nat) (T:TypeId) (cs:ON AV),c.ρ[l]? = some (some (b,k))/\H[l]? = some (.cells T cs),J:=c.J }
section
variable {P:Ng}{G:Nat->OK (ON D)}{c:Cx}{H:ON Box}{w:N4}{tm:ON AV}{a:NI}
theorem Ext.freeze (c:Cx) (H:ON Box) (w:N4):Nw c w (c.freeze H) w :=⟨rfl,rfl,rfl,λ_ _ h=>.inl h,λ_ h=>h,λ_ _ _=>rfl,λ_ _=>rfl,MS _,λ_ _ _=>rfl,λb o h=>by
  rcases h with h|⟨l,k,T,cs,h1,h2⟩
  ·exact .inl h
  ·exact .inr (.inr ⟨l,k,h1⟩),λ_ h=>.inl h,λl b k h=>by simp[Cx.freeze]at h⟩
theorem HR.freeze (hR:HR c H w):HR (c.freeze H) [] w where
 len:=rfl
 inj l l' b k k' h:=by simp[Cx.freeze]at h
 box l b k x h:=by simp[Cx.freeze]at h
 non l x h:=by simp[Cx.freeze]at h
 lt l b k h:=by simp[Cx.freeze]at h
 ilt b o h:=by
  rcases h with h|⟨l,k,T,cs,h1,h2⟩
  ·exact hR.ilt b o h
  ·exact hR.lt l b k h1
 jlt:=hR.jlt
 iap b o l k hi h:=by simp[Cx.freeze]at h
 jap r l k hr h:=by simp[Cx.freeze]at h
theorem pl (hR:HR c H w) {av r:AV}{v:Value}(h:RA c H w av v) (hf:uL H av=some r):RA (c.freeze H) [] w r v:=by
 have e:=Ext.freeze c H w;unfold uL at hf;split at hf
 ·cases hf;cases h with
  |d h=>exact .d (h.ext e)
 ·cases hf;cases h with
  |iptr h=>exact .iptr λj x hx=>⟨e.isub _ _ (h j x hx).1,by obtain⟨hi,u,hu,hr⟩:=h j x hx;exact⟨u,hu,hr.ext e⟩⟩
 ·cases hf;cases h with
  |full h=>exact .full (h.ext e)
 ·rename_i l;split at hf
  ·rename_i T cs hl;cases hm:cs.mapM avD1 with
   |none=>rw[hm]at hf;cases hf
   |some ds =>
    rw[hm]at hf;cases hf;cases h with
    |@ptr _ _ b k T' cs' hH hρ =>
     obtain⟨vs,h1,h2⟩:=hR.box l b k _ hρ hl;have h3:=mapM_avD1 hm h2;refine .iptr λj x hx=>⟨.inr ⟨l,k,T,cs,hρ,hl⟩,?_⟩;obtain⟨u,hu,hr⟩:=h3.get hx;exact⟨u,by simp[Ko,h1,hu],hr.ext e⟩
  ·cases hf
 ·cases hf
theorem tu (hR:HR c H w):∀{aas rs:ON AV}{vs:ON Value},aas.mapM (uL H)=some rs->z8 (λv a=>RA c H w a v) vs aas->z8 (λv a=>RA (c.freeze H) [] w a v) vs rs
 |[],rs,vs,h,h2=>by simp at h;subst h;have:=h2.nil_right;subst this;exact Mh
 |a::aas,rs,vs,h,h2=>by
  rw[Jq]at h;cases ha:uL H a with
  |none=>rw[ha]at h;cases h
  |some x =>
   rw[ha]at h;cases hr:aas.mapM (uL H)with
   |none=>rw[hr]at h;cases h
   |some xs =>
    rw[hr]at h;simp at h;subst h;obtain⟨v,vs',rfl,h3,h4⟩:=h2.cons_right;exact M8 (pl hR h3 ha) (tu hR hr h4)
theorem pk (hR:HR c H w) {av r:AV}{v:Value}(h:RA c H w av v) (hf:fF H av=some r):RA (c.freeze H) [] w r v:=by
 unfold fF at hf;split at hf
 ·rename_i f fi ca;split at hf
  ·rename_i fi' ca' h1 h2;cases hf;cases h with
   |@clo _ _ _ fv cv l1 l2 g1 g2 =>
    have k1:=tu hR h1 (vs:=fv) ⟨l1.symm,λi v a hv ha=>g1 i a v ha hv⟩;have k2:=tu hR h2 (vs:=cv) ⟨l2.symm,λi v a hv ha=>g2 i a v ha hv⟩;exact .clo k1.1.symm k2.1.symm (λi a v ha hv=>k1.2 i v a hv ha) (λi a v ha hv=>k2.2 i v a hv ha)
  ·cases hf
 ·exact pl hR h hf
theorem PFnA.walk {f:L8}{fn:L3}{code:Np}{ds:ON D}{Q:AV->Prop}(hm:P.follows .mixedOrders=true) (L:Loops) (hf:P.funcs[f]? = some fn) (hb:fn.body=some code) (hL:zx P G none 0 L (loopsOf code)) (h:pw P G L code (wy fn ds) [] (Rh P fn Q)):PFnA P G f ds Q:=by
 refine⟨λc w vs hρ hr hg hvs=>wz (c0:=c) (tm:=wy fn ds) (H0:=[]) hf hb ?_ (yw hm code _ _ _ hL h) ?_⟩
 ·refine⟨hr,hg,?_,Ie (MS _)⟩;show z8 _ (vs.toArray++Mb (fn.ntmps - vs.toArray.size) undef).toList _;have:(vs.toArray++Mb (fn.ntmps - vs.toArray.size) undef).toList=vs++M4 (fn.ntmps - vs.length) undef:=by simp
  rw[this];exact z8.start _ hvs
 ·intro e c' H' w' tm' a' h1 h2 h3 h4;cases e with
  |ret =>
   simp only[Rh]at h1;split at h1
   ·rename_i av has;split at h1
    ·rename_i r hr';obtain⟨vs',h5,h6⟩:=wi h2 has;obtain⟨v,vs2,rfl,h7,h8⟩:=h6.cons_right;have:=h8.nil_right;subst this;exact⟨.inl rfl,v,h5,v,r,c'.freeze H',rfl,h1,rfl,h3.trans (Ext.freeze c' H' w'),h2.hr.freeze,pk h2.hr h7 hr'⟩
    ·exact h1.elim
   ·exact h1.elim
  |_=>exact h1.elim
def Rg (P:Ng) (fn:L3) (sz:Nat) (Q:ON D->Prop):Post:=λe tm H =>match e with
 |.ret=>match fn.results.toList.mapM (p8 P tm H)with
  |some [.vec 0 l]=>match H with
   |.vec n s::_=>n=l.length/\s=sz/\Q l
   |_=>NL
  |some [.full l]=>Q l
  |_=>NL
 |_=>NL
theorem PFnV.walk {f:L8}{fn:L3}{code:Np}{ds:ON D}{sz:Nat}{Q:ON D->Prop}(hm:P.follows .mixedOrders=true) (L:Loops) (hf:P.funcs[f]? = some fn) (hb:fn.body=some code) (hL:zx P G none 0 L (loopsOf code)) (h:pw P G L code (wy fn ds) [] (Rg P fn sz Q)):PFnV P G f ds sz Q:=by
 refine⟨λc w vs hρ hr hg hvs=>wz (c0:=c) (tm:=wy fn ds) (H0:=[]) hf hb ?_ (yw hm code _ _ _ hL h) ?_⟩
 ·refine⟨hr,hg,?_,Ie (MS _)⟩;show z8 _ (vs.toArray++Mb (fn.ntmps - vs.toArray.size) undef).toList _;have:(vs.toArray++Mb (fn.ntmps - vs.toArray.size) undef).toList=vs++M4 (fn.ntmps - vs.length) undef:=by simp
  rw[this];exact z8.start _ hvs
 ·intro e c' H' w' tm' a' h1 h2 h3 h4;cases e with
  |ret =>
   simp only[Rg]at h1;split at h1
   ·rename_i l has;split at h1
    ·rename_i n s r;obtain⟨rfl,rfl,hq⟩:=h1;obtain⟨vs',h5,h6⟩:=wi h2 has;obtain⟨v,vs2,rfl,h7,h8⟩:=h6.cons_right;have:=h8.nil_right;subst this;refine⟨.inl rfl,v,h5,v,l,c'.take 1,rfl,hq,h3.trans (Jj c' w' 1),?_,?_⟩
     ·have:=h2.hr.take (n:=1) (by simp[Kd]);simpa using this
     ·have:=h7.take (n:=1) (by simp[KX]);simpa using this
    ·exact h1.elim
   ·rename_i l has;obtain⟨vs',h5,h6⟩:=wi h2 has;obtain⟨v,vs2,rfl,h7,h8⟩:=h6.cons_right;have:=h8.nil_right;subst this;have hr0:HR (c'.take 0) (H'.take 0) w':=h2.hr.take (n:=0) (by simp);have hr0':HR { c' with ρ:=[] } [] w':=by simpa[Fv]using hr0
    obtain⟨p1,p2,p3⟩:=HR.push_none (n:=l.length) (sz:=sz) hr0';have e0:Nw c' w' { c' with ρ:=[] } w':=by simpa[Fv]using Jj c' w' 0
    refine⟨.inl rfl,v,h5,v,l,_,rfl,h1,h3.trans (e0.trans p3),p1,?_⟩;cases h7 with
    |full h=>exact .vec (n:=l.length) (sz:=sz) h rfl (MS _) (λ_=>.inl rfl)
   ·exact h1.elim
  |_=>exact h1.elim
def Rf (P:Ng) (fn:L3) (H:ON Box) (av:AV) (N:ON Box):Post:=λe tm H' =>match e with
 |.ret=>match fn.results.toList.mapM (p8 P tm H')with
  |some [x]=>x=av/\H'=H++N
  |_=>NL
 |_=>NL
theorem PMaker.walk {f:L8}{fn:L3}{code:Np}{aas:ON AV}{H N:ON Box}{av:AV}(hm:P.follows .mixedOrders=true) (L:Loops) (hf:P.funcs[f]? = some fn) (hb:fn.body=some code) (hp:aas.all plainAV=true) (hL:zx P G none H.length L (loopsOf code)) (h:pw P G L code (startA fn aas) H (Rf P fn H av N)):PMaker P G f aas H av N:=by
 refine⟨λc w vs hr hg hvs=>wz (c0:=c) (tm:=startA fn aas) (H0:=H) hf hb ?_ (yw hm code _ _ _ hL h) ?_⟩
 ·refine⟨hr,hg,?_,Ie (MS _)⟩;show z8 _ (vs.toArray++Mb (fn.ntmps - vs.toArray.size) undef).toList _;have:(vs.toArray++Mb (fn.ntmps - vs.toArray.size) undef).toList=vs++M4 (fn.ntmps - vs.length) undef:=by simp
  rw[this];exact z8.startA _ hp hvs
 ·intro e c' H' w' tm' a' h1 h2 h3 h4;rw[La]at h4;cases e with
  |ret =>
   simp only[Rf]at h1;split at h1
   ·rename_i x has;obtain⟨rfl,rfl⟩:=h1;obtain⟨vs',h5,h6⟩:=wi h2 has;obtain⟨v,vs2,rfl,h7,h8⟩:=h6.cons_right;have:=h8.nil_right;subst this;exact⟨.inl rfl,v,h5,v,c',rfl,h3,h4,h2.hr,h7⟩
   ·exact h1.elim
  |_=>exact h1.elim
theorem PFnF.of_A {f:L8}{ds:ON D}{Q:ON D->Prop}(h:PFnA P G f ds λav=>∃l,av = .full l/\Q l):PFnF P G f ds Q :=⟨λc w vs a b d e=>(h.run c w vs a b d e).mono λ_ _ ⟨v,_,c',e1,⟨l,e2,e3⟩,e4,e5,e6,e7⟩=>⟨v,l,c',e1,e3,e4,e5,e6,e2 ▸ e7⟩⟩
end
def Yb (j:Nat) (tm:ON AV) (Q:Post) (n:Nat) (H:ON Box):Prop :=match H[n]? with
 |some (.loop _ _ _ _ pend st) =>
  if(H.take n).all (Kd n)then
   st ≠ .busy/\((pend=none/\Q .normal tm (H.take n))∨(pend=some .ret/\Q .ret tm (H.take n))∨(pend=some (.exit j)/\Q .normal tm (H.take n)))
  else NL
 |_=>NL
def b8 (P:Ng) (G:Nat->OK (ON D)) (keep:ON Nat) (j g:Nat) (ps:ON Nat) (asn bd:Np) (tm:ON AV) (H:ON Box) (Q:Post):Prop :=match tm.getD g .any with
 |.clo f fi ca =>
  if s5 P f&&tm.all plainAV then
   Nn P G f (fi++[.yld H.length]++ca) (H++[.loop (jr keep [] 0 tm) ps asn bd none .ready]) λ_ H' =>
    exH (H++[.loop (jr keep [] 0 tm) ps asn bd none .ready]) λH''=>H'=H''/\Yb j tm Q H.length H''
  else NL
 |_=>NL
structure RangeParts where
 ops:OC Nu
 j:Nat
 g:Nat
 ps:OC Tmp
 asn:Np
 bd:Np
def rangeParts:Np->OK RangeParts
 |.seq (.region _ ops false) (.block j (.rangeFunc (.tmp g) ps asn bd))=>some ⟨ops,j,g,ps,asn,bd⟩
 |_=>none
def ze (c:Np):ON Nat:=match rangeParts c with|some r=>r.ps.toList|none=>[]
def aa (c:Np):Nat:=match rangeParts c with|some r=>r.j|none=>0
def zo (c:Np):Np:=match rangeParts c with|some r=>r.asn|none=>.skip
def zc (c:Np):Np:=match rangeParts c with|some r=>r.bd|none=>.skip
def unScope:Np->Np
 |.scope c=>c
 |c=>c
def vI (P:Ng) (G:Nat->OK (ON D)) (keep:ON Nat) (it:ON D->AV) (code:Np) (tm:ON AV) (H:ON Box) (Q:Post):Prop :=match rangeParts code with
 |some r =>
  t8 P G r.ops r.ops.toList.dropLast tm H λtm1 H1 =>
   match r.ops.toList.getLast? with
   |some o =>
    match o.guard,o.op,o.dst with
    |none,.call { callee:= .value f,args,argTypes:=_ },some d =>
     match calleeAV (ev G (yr [] tm1) f)with
     |some (k,[],[]) =>
      if s5 P k then
       match (args.toList.map (ev G (yr [] tm1))).mapM avD with
       |some ds=>PFnA P G k ds (λav=>av=it ds)/\b8 P G keep (aa code) r.g (ze code) (zo code) (zc code) (za (yk tm1 (some d) (dull (it ds)))) H1 Q
       |none=>NL
      else NL
     |_=>NL
    |_,_,_=>NL
   |none=>NL
 |none=>NL
section
variable {P:Ng}{G:Nat->OK (ON D)}{nb:Nat}{rd:OK Nat}{c:Cx}{H:ON Box}{w:N4}{tm:ON AV}{a:NI}{n:Nat}
theorem RA.bare {c':Cx}{w':N4}{ρ:ON (OK (Nat×Nat))}{av:AV}{v:Value}(hρ:c'.ρ=[]) (h:RA c' [] w' av v):RA { c' with ρ:=ρ } H w' av v:=by have:=RA.more (ρ2:=ρ) (H2:=H) (by simp[hρ]) h;simpa[hρ]using this
theorem jo (keep:ON Nat):∀(i:Nat) {tm:ON AV}{vs:ON Value},z8 (λv a=>RA c H w a v) vs tm->z8 (λv a=>RA c H w a v) vs (jr keep [] i tm)
 |i,[],vs,h=>by simpa[jr]using h
 |i,a::r,vs,h=>by
  obtain⟨v,vs',rfl,h1,h2⟩:=h.cons_right;simp only[jr,findU];refine M8 ?_ (jo keep (i+1) h2);split
  ·exact h1.dull
  ·exact .any v
theorem b9 {g:NF}{l f:Nat}{fv cv:ON Value}(hf:a.eval g = .func (.func f) fv.toArray cv.toArray) (hok:s5 P f=true):∃d,(resolve a.eval (rangeCall g l) 0).run P w = .ok d w/\(invoke d.target d.args).run P w = .ok (.enter f (fv++[HZ (.yield l) #[] #[]]++cv).toArray) w:=by
 unfold s5 at hok;cases hfn:P.funcs[f]? with
 |none=>rw[hfn]at hok;simp at hok
 |some fn =>
  rw[hfn]at hok;simp only[NK,Lc]at hok;obtain⟨h1,h2⟩:=hok;have h3:fn.body.isNone=false:=by cases hb:fn.body with
   |none=>rw[hb]at h2;simp at h2
   |some b=>rfl
  refine⟨{ target:= .fn (.func f) cv.toArray,args:=fv.toArray++ #[HZ (.yield l) #[] #[]] },?_,?_⟩
  ·simp only[resolve,hf,E3,MV];simp[F6]
  ·have ha:fv.toArray++ #[HZ (.yield l) #[] #[]]++cv.toArray=(fv++[HZ (.yield l) #[] #[]]++cv).toArray:=by apply OC.ext';simp
   simp only[invoke,callFunc,Ms,MV,Mt,run_program,hfn,h1,LH,if_false,h3];rw[ha]
theorem ln {keep:ON Nat}{j g:Nat}{ps:OC Tmp}{asn bd:Np}{Q:Post}(h:b8 P G keep j g ps.toList asn bd tm H Q):PW P G none n (.block j (.rangeFunc (.tmp g) ps asn bd)) tm H Q:=by
 refine⟨λnb c a w hR=>?_⟩;unfold b8 at h;split at h
 ·rename_i f fi ca hcl;split at h
  ·rename_i hok;simp only[NK]at hok;obtain⟨hok,hpl⟩:=hok;have hg:=yW (tags:=[]) hR (λg p h=>by simp[hasTag]at h) (.tmp g);have hev:ev G (yr [] tm) (.tmp g) = .clo f fi ca:=by show yr [] tm g=_;unfold yr;rw[hcl]
   rw[hev]at hg;generalize hgv:a.eval (.tmp g)=gv at hg;cases hg with
   |@clo _ _ _ fv cv l1 l2 g1 g2 =>
   refine wpIn_block (wpIn_rangeFunc λfn _=>?_);let w1:N4:=w.alloc (.deferred (some []));let rec_:Loop:= { state:= .ready,pending:=none,fn,tmps:=a.tmps,params:=ps,assign:=asn,body:=bd,defers:=w.heap.size };let w2:N4:=w1.alloc (.loop rec_);have hs1:w1.heap.size=w.heap.size+1:=N4.size_alloc w _;obtain⟨d,hd1,hd2⟩:=b9 (P:=P) (w:=w2) (a:=a) (g:= .tmp g) (l:=w1.heap.size) hgv hok;refine⟨w.heap.size+1,[mark w.heap.size],w2,d,w2,f,_,w2,run_enterLoop_outer fn a.tmps ps asn bd,by rw[←hs1];exact hd1,λ_ _=>trivial,hd2,λh=>by simp[wF,Fence.wide]at h,?_⟩;refine ly ?_;have e1:Nw c w c w1:=Hk c w _ hR.hr.ilt hR.hr.jlt;have hr1:HR c H w1:=hR.hr.push_free _;let x:Box:= .loop (jr keep [] 0 tm) ps.toList asn bd none .ready;have e2:Nw c w1 (c.grow w1.heap.size 0) w2:=Nw.push_box c w1 _ 0 hr1.ilt hr1.jlt;have kp2:zp c H (c.grow w1.heap.size 0) (H++[x]):=JE c H _ 0 x hR.hr.len;have htm2:z8 (λv a=>RA (c.grow w1.heap.size 0) (H++[x]) w2 a v) a.tmps.toList tm:=by
    have h3:=(hR.tm.ext e1 (Md c H)).ext e2 kp2;refine⟨h3.1,λi v y hv hy=>?_⟩;have h4:=h3.2 i v y hv hy;have h5:=ND.1 hpl _ (MX hy);cases y<;>first
     |exact h4
     |simp[plainAV]at h5
   have hr2:HR (c.grow w1.heap.size 0) (H++[x]) w2:=by refine HR.push_box hr1 (.loop rec_) 0 x ⟨rec_,by simp,rfl,rfl,rfl,rfl,rfl,jo keep 0 htm2⟩
   have hext2:=e1.trans e2;have hdf1:lL nb (c.grow w1.heap.size 0) w2 (mark w.heap.size::a.defers):=by
    obtain⟨d0,ms,d1,d2,d3⟩:=hR.df.ext hext2;have hnot:∀m∈ms,m<w.heap.size:=λm hm=>by
     obtain⟨_,ms',q1,_,q3⟩:=hR.df;have:ms'=ms:=by
      have h6:ms'.map mark=ms.map mark:=q1.symm.trans d1;have hinj:Aj mark:=λx y hxy=>by simpa[mark]using hxy
      exact(ON.map_inj_right (λx y hxy=>hinj hxy)).1 h6
     subst this;exact lK (q3 m hm).2.1
    refine⟨d0,w.heap.size::ms,by rw[d1];rfl,KZ.2 ⟨λh=>JW _ (hnot _ h),d2⟩,λm hm=>?_⟩;rcases MU.1 hm with rfl|hm
    ·refine⟨hR.df.1,?_,λl k hl=>?_,λo hi=>?_,λhj=>?_⟩
     ·show((w.heap.push _).push _)[w.heap.size]? = _;rw[OC.getElem?_push];simp
     ·rcases zw hl with hl|⟨_,hl⟩
      ·exact JW _ (hR.hr.lt l _ k hl)
      ·simp at hl;omega
     ·exact JW _ (hR.hr.ilt _ o hi)
     ·exact JW _ (hR.hr.jlt _ hj)
    ·exact d3 m hm
   have hargs:z8 (λv a=>RA (c.grow w1.heap.size 0) (H++[x]) w2 a v) (fv++[HZ (.yield w1.heap.size) #[] #[]]++cv) (fi++[.yld H.length]++ca):=by
    have k1:z8 (λv a=>RA (c.grow w1.heap.size 0) (H++[x]) w2 a v) fv fi:=⟨l1.symm,λi v a hv ha=>((g1 i a v ha hv).ext e1 (Md c H)).ext e2 kp2⟩;have k2:z8 (λv a=>RA (c.grow w1.heap.size 0) (H++[x]) w2 a v) cv ca:=⟨l2.symm,λi v a hv ha=>((g2 i a v ha hv).ext e1 (Md c H)).ext e2 kp2⟩;have k3:RA (c.grow w1.heap.size 0) (H++[x]) w2 (.yld H.length) (.func (.yield w1.heap.size) #[] #[]) :=
     .yld (k:=0) (by simp[x];exact⟨rfl,rfl,rfl,rfl,rfl,rfl⟩) (by simp[Fx,←hR.hr.len])
    exact(k1.append (M8 k3 Mh)).append k2
   refine(h.run (c.grow w1.heap.size 0) w2 _ hr2 (hR.gr.ext hext2) hargs).mono λen w3 hen=>?_;obtain⟨v,rs,c3,H3,rfl,hq,hl3,e3,k3,hr3,_⟩:=hen;obtain⟨H'',rfl,hend⟩:=exH_some hq;unfold Yb at hend;split at hend
   ·rename_i tm' ps' asn' bd' pend st hl;split at hend
    ·rename_i hund;obtain⟨hst,hend⟩:=hend;have hlen3:H3.length=H.length+1:=by simpa using hl3
     have hlx:(H++[x])[H.length]? = some x:=by simp
     obtain⟨⟨p4,s4,hq4⟩,hρ4⟩:=k3 H.length _ hlx;have hρ3:c3.ρ[H.length]? = some (some (w1.heap.size,0)):=by rw[hρ4];simp[Fx,←hR.hr.len]
     obtain⟨r3,t1,t2,t3,t4,t5,t6,t7⟩:=hr3.box H.length _ _ _ hρ3 hl;obtain⟨e4,hr4⟩:=jq hr3 hl hρ3 t1 pend .exhausted;have e5:({ r3 with state:= .exhausted,pending:=pend }:Loop) = { r3 with state:= .exhausted }:=by rw[←t5]
     rw[e5]at e4 hr4;have hrun:(Instr.endLoop (w.heap.size+1)).run P w3 = .ok pend (w3.putObj (w.heap.size+1) (.loop { r3 with state:= .exhausted })):=by rw[hs1]at t1;rw[←t5];exact run_endLoop t1 (by rw[t6];exact hst)
     rw[hs1]at e4 hr4;refine⟨pend,_,hrun,?_⟩;have htk:(H3.set H.length (.loop tm' ps' asn' bd' pend .exhausted)).take H.length=H3.take H.length:=by rw[ON.take_set_of_le (MS _)]
     have hr5:HR (c3.take H.length) (H3.take H.length) (w3.putObj (w.heap.size+1) (.loop { r3 with state:= .exhausted })):=by have:=hr4.take (n:=H.length) (by rw[htk];exact hund);rwa [htk]at this
     have e6:Nw c w (c3.take H.length) (w3.putObj (w.heap.size+1) (.loop { r3 with state:= .exhausted })):=(hext2.trans (e3.trans e4)).trans (Jj _ _ _);have k6:zp c H (c3.take H.length) (H3.take H.length):=by
      intro m y hy;have hlt:m<H.length:=by
       rcases M0 m H.length with h' |h'
       ·exact h'
       ·rw[My h']at hy;cases hy
      have:=(kp2.trans k3) m y hy;have e1:(c3.take H.length).ρ[m]? = c3.ρ[m]? :=by show(c3.ρ.take _)[m]? = _;rw[zJ hlt]
      have e2:(H3.take H.length)[m]? = H3[m]? :=zJ hlt;cases y<;>simp only[e1,e2]<;>exact this
     have hRep:M5 G nb (c3.take H.length) (H3.take H.length) (w3.putObj (w.heap.size+1) (.loop { r3 with state:= .exhausted })) tm { a with defers:=[mark w.heap.size]++a.defers } :=
      ⟨hr5,hR.gr.ext e6,hR.tm.ext e6 k6,((hdf1.ext e3).ext e4).ext (Jj _ _ _)⟩
     have hEnds:∀e,Q e tm (H3.take H.length)->oR G nb n c H w Q e { a with defers:=[mark w.heap.size]++a.defers } (w3.putObj (w.heap.size+1) (.loop { r3 with state:= .exhausted })) :=
      λe he=>⟨_,tm,_,he,hRep,e6,k6.cut n⟩
     rcases hend with⟨rfl,hq⟩|⟨rfl,hq⟩|⟨rfl,hq⟩
     ·exact hEnds .normal hq
     ·exact wpIn_ret (hEnds .ret hq)
     ·refine wpIn_exit ?_;simp only[CZ,if_true];exact hEnds .normal hq
    ·exact hend.elim
   ·exact hend.elim
  ·exact h.elim
 ·exact h.elim
theorem iG {keep:ON Nat}{it:ON D->AV}{code:Np}{Q:Post}(h:vI P G keep it code tm H Q):PW P G none n code tm H Q:=by
 unfold vI at h;split at h
 ·rename_i r hr;have hcode:∃id,code = .seq (.region id r.ops false) (.block r.j (.rangeFunc (.tmp r.g) r.ps r.asn r.bd)):=by
   unfold rangeParts at hr;split at hr
   ·cases hr;exact⟨_,rfl⟩
   ·cases hr
  have ha:zo code=r.asn:=by unfold zo;rw[hr]
  have hb:zc code=r.bd:=by unfold zc;rw[hr]
  have hj:aa code=r.j:=by unfold aa;rw[hr]
  have hps:ze code=r.ps.toList:=by unfold ze;rw[hr]
  obtain⟨id,rfl⟩:=hcode;rw[ha,hb,hj,hps]at h;refine⟨λnb c a w hR=>?_⟩;cases hlast:r.ops.toList.getLast? with
  |none =>
   have h0:r.ops.toList=[]:=ON.getLast?_eq_none_iff.1 hlast;rw[h0]at h;simp[t8]at h
  |some o =>
   have happ:r.ops.toList=r.ops.toList.dropLast++[o]:=by obtain⟨ys,hys⟩:=Dh.1 hlast;rw[hys];simp
   rw[hlast]at h;refine wpIn_seq (wpIn_region ?_);have hsz:Mq r.ops.size=J8 0 (r.ops.toList.dropLast.length+[o].length):=by rw[G1];congr 1;have:=Mz OJ happ;simpa using this
   rw[hsz];refine js (r:=[o]) _ 0 c H w tm a (by simpa using happ) hR h ?_;intro a1 w1 c1 tm1 H1 hk hR1 e1 k1;have ho:r.ops[r.ops.toList.dropLast.length]? = some o:=by
    have:r.ops.toList[r.ops.toList.dropLast.length]? = some o:=by rw[happ];simp
    simpa using this
   simp only at hk;split at hk
   ·rename_i f args types d hgd hop hdst;split at hk
    ·rename_i k hcal;split at hk
     ·rename_i hok;split at hk
      ·rename_i ds hds;obtain⟨hA,hI⟩:=hk;have he:=yW (tags:=[]) hR1 (λg p h=>by simp[hasTag]at h);obtain⟨fv,cv,hfv,hargs⟩:=xO (args:=args) he hcal;have hrv:=mapM_avD (by simpa using hds) hargs;simp only[MO,LZ,LP];rw[show J8 r.ops.toList.dropLast.length 1=[r.ops.toList.dropLast.length]from rfl,wpOpsIn_cons];unfold wpOpIn;rw[ho];simp only;have hw:L5 o (yielded r.ops a1.tmps)=true:=by simp[L5,hgd]
       rw[Nf hw];refine xh (by rw[hop];intro d hd;cases hd) (wZ hop hfv hok) ?_;refine(hA.run { c1 with ρ:=[] } w1 _ rfl hR1.hr.nil hR1.gr hrv).mono λen w2 hen=>?_;obtain⟨v,av,c2,rfl,rfl,hρ2,hext,hhr,hra⟩:=hen;obtain⟨e2,k2,h2⟩:=td hR1.hr hext hhr;have hra2:RA { c2 with ρ:=c1.ρ } H1 w2 (it ds) v:=RA.bare hρ2 hra;have hR2:=hR1.put e2 k2 h2 o.dst (xp hra2);refine⟨v,rfl,?_⟩;simp only[wpOpsIn];rw[hdst]at hR2 ⊢;have hfin:=(ln (n:=n) (ps:=r.ps) hI).run nb _ _ w2 hR2.clear;refine wpIn_mono hfin λe a3 w3 hE=>?_;exact hE.later (e1.trans e2) ((k1.trans k2).cut n)
      ·exact hk.elim
     ·exact hk.elim
    ·exact hk.elim
   ·exact hk.elim
 ·exact h.elim
theorem yL {keep:ON Nat}{it:ON D->AV}{b:Np}(hb:isScope b=true) (tm:ON AV) (H:ON Box) (Q:Post) (h:vI P G keep it (unScope b) tm H Q):PW P G none n (mkLoop b) tm H Q:=by
 have:mkLoop b=unScope b:=by cases b<;>first|rfl|simp[isScope]at hb
 rw[this];exact iG h
end
end Go.Sx
open Go.Sx renaming rowAt->Ky
open Go.Sx.PCall renaming walk->Bi
open Go.Sx.PFn renaming walk->IE
open Go.Sx.PW renaming weaken->GB
namespace Go.Sx
open Go Go.RowKit
section
variable {P:Ng}{G:Nat->OK (ON D)}{c:Cx}{w w':N4}
theorem Ext.below (h:Below w.heap.size w w') (hR:HR c [] w):Nw c w c w' where
 os:=h.os
 tape:=h.tape
 output:=h.output
 isub _ _ h:=h
 jsub _ h:=h
 icell b o hi:=xz (h.block b (hR.ilt b o hi)) _ _
 jobj r hr:=h.block r (hR.jlt r hr)
 size:=h.size
 frame b hb _:=h.block b hb
 inew _ _ h:= .inl h
 jnew _ h:= .inl h
 fresh l b k h:= .inl ⟨l,k,h⟩
theorem HR.below (h:Below w.heap.size w w') (hρ:c.ρ=[]) (hR:HR c [] w):HR c [] w' where
 len:=hR.len
 inj:=hR.inj
 box l b k x h1:=by rw[hρ]at h1;simp at h1
 non l x h1:=by rw[hρ]at h1;simp at h1
 lt l b k h1:=by rw[hρ]at h1;simp at h1
 ilt b o hi:=MM (hR.ilt b o hi) h.size
 jlt r hr:=MM (hR.jlt r hr) h.size
 iap:=hR.iap
 jap:=hR.jap
theorem PFn.of_calls {f:L8}{ds:ON D}{r:D}{v:Value}(hv:∀I J w,RV I J w v r) (h:∀(c:Cx) (w:N4) (vs:ON Value),c.ρ=[]->HR c [] w->z8 (RV c.I c.J w) vs ds->Ku P f vs.toArray w λe w'=>e = .returned v/\Below w.heap.size w w'):OB P G f ds (· = [r]):=by refine⟨⟨_,rfl⟩,λc w vs hρ hr _ hvs=>(h c w vs hρ hr hvs).mono λe w' he=>?_⟩;obtain⟨rfl,hb⟩:=he;exact⟨v,[r],c,rfl,rfl,hρ,Ext.below hb hr,HR.below hb hρ hr,hv _ _ _⟩
end
end Go.Sx
namespace Go.Sx
open Go
def Re (n:Nat) (keep:ON Nat) (upd:ON (Nat×AV)) (hU:ON Box->ON Box) (W:LW):LW:=λtm H Q =>Wk n tm H (jr keep upd 0 tm) (hU H)/\W (jr keep upd 0 tm) (hU H) Q
theorem Z0 {P:Ng}{G:Nat->OK (ON D)}{rd:OK Nat}{n:Nat}{keep:ON Nat}{upd:ON (Nat×AV)}{hU:ON Box->ON Box}{W:LW}{b:Np}(h:yU P G rd n b W):yU P G rd n b (Re n keep upd hU W) :=λtm H Q hw=>GB hw.1 (wA _ _ _ _) (h _ _ _ hw.2)
end Go.Sx
namespace Go.Sx
open Go Go.RowKit
section
variable {P:Ng}{G G':Nat->OK (ON D)}{c:Cx}{H:ON Box}{w w':N4}
theorem Ext.belowH (h:Below w.heap.size w w') (hR:HR c H w):Nw c w c w' where
 os:=h.os
 tape:=h.tape
 output:=h.output
 isub _ _ h:=h
 jsub _ h:=h
 icell b o hi:=xz (h.block b (hR.ilt b o hi)) _ _
 jobj r hr:=h.block r (hR.jlt r hr)
 size:=h.size
 frame b hb _:=h.block b hb
 inew _ _ h:= .inl h
 jnew _ h:= .inl h
 fresh l b k h:= .inl ⟨l,k,h⟩
theorem HR.belowH (h:Below w.heap.size w w') (hR:HR c H w):HR c H w' where
 len:=hR.len
 inj:=hR.inj
 box l b k x h1 h2:=(hR.box l b k x h1 h2).ext (Ext.belowH h hR) (Md _ _) (h.block b (hR.lt l b k h1))
 non:=hR.non
 lt l b k h1:=MM (hR.lt l b k h1) h.size
 ilt b o hi:=MM (hR.ilt b o hi) h.size
 jlt r hr:=MM (hR.jlt r hr) h.size
 iap:=hR.iap
 jap:=hR.jap
theorem PCall.of_below {f:L8}{aas:ON AV}{rs:ON D}{v:Value}(hv:∀I J w,fT I J w v rs) (h:∀(c:Cx) (w:N4) (vs:ON Value),HR c H w->GR G c w->z8 (λv a=>RA c H w a v) vs aas->Ku P f vs.toArray w λe w'=>e = .returned v/\Below w.heap.size w w'): Nn P G f aas H (λrs' H'=>rs'=rs/\H'=H):=by refine⟨⟨_,_,rfl,rfl⟩,λc w vs hr hg hvs=>(h c w vs hr hg hvs).mono λe w' he=>?_⟩;obtain⟨rfl,hb⟩:=he;exact⟨v,rs,c,H,rfl,⟨rfl,rfl⟩,rfl,Ext.belowH hb hr,Md _ _,HR.belowH hb hr,hv _ _ _⟩
theorem Ext.is_below' {c':Cx}(h:Nw c w c' w') (hρ:c.ρ=[]):Below w.heap.size w w':=⟨h.os,h.tape,h.output,h.size,λb hb=>h.frame b hb λl k=>by rw[hρ];simp⟩
theorem GR.le (hG:∀g cs,G g=some cs->G' g=some cs) (h:GR G' c w):GR G c w:=λg cs hg=>h g cs (hG g cs hg)
theorem PFn.more {f:L8}{ds:ON D}{Q:ON D->Prop}(hG:∀g cs,G g=some cs->G' g=some cs) (h:OB P G f ds Q):OB P G' f ds Q :=⟨h.ex,λc w vs hρ hr hg hvs=>h.run c w vs hρ hr (hg.le hG) hvs⟩
end
end Go.Sx
namespace Go.Sx
open Go
section
variable {P:Ng}{G:Nat->OK (ON D)}{rd:OK Nat}{n nb:Nat}{c:Cx}{H:ON Box}{w:N4}{tm:ON AV}{a:NI}
def zN (P:Ng) (G:Nat->OK (ON D)) (L:Loops) (body:Np):Nat->LW
 |0,_,_,_=>NL
 |k+1,tm,H,Q=>if isScope body then NL else pw P G L body tm H (jt (λtm' H'=>zN P G L body k tm' H' Q) Q)
theorem zW (hm:P.follows .mixedOrders=true) {L:Loops}{body:Np}(hL:zx P G rd n L (loopsOf body)) (k:Nat) (tm:ON AV) (H:ON Box) (Q:Post) (h:zN P G L body k tm H Q):PW P G rd n (mkLoop body) tm H Q:=by
 cases k with
 |zero=>exact h.elim
 |succ k =>
  have hsc:isScope body=false:=by
   unfold zN at h;split at h
   ·exact h.elim
   ·rename_i hs;simpa using hs
  have hl:mkLoop body = .loop body:=by cases body<;>first|rfl|simp[isScope]at hsc
  rw[hl];refine⟨λnb c a w hR=>?_⟩;refine sM (λj a' w'=>∃tm' H' c',zN P G L body j tm' H' Q/\M5 G nb c' H' w' tm' a'/\Nw c w c' w'/\zp c (H.take n) c' H') (k+1) ⟨tm,H,c,h,hR,L7 _ _,(Md _ _).cut n⟩ ?_;rintro j a' w' ⟨tm',H',c',hu,hR',e,kp⟩;cases j with
  |zero=>exact hu.elim
  |succ j =>
   unfold zN at hu;rw[N2 (by simp[hsc])]at hu;refine wpIn_mono ((yw hm body _ _ _ hL hu).run nb c' a' w' hR') λex a2 w2 hE=>?_;obtain⟨c2,tm2,H2,h1,h2,h3,h4⟩:=hE;cases ex with
   |normal=>exact⟨j,by omega,tm2,H2,c2,h1,h2,e.trans h3,kp.link h4⟩
   |_=>exact⟨c2,tm2,H2,h1,h2,e.trans h3,kp.link h4⟩
theorem R1.sub {I I':Nat->Nat->Prop}{J:Nat->Prop}(hs:∀b o,I b o->I' b o) {v:Value}{x:D}(h:R1 I J w v x):R1 I' J w v x:=by
 induction h with
 |int k n=>exact .int k n
 |bool b=>exact .bool b
 |str s=>exact .str s
 |fn f=>exact .fn f
 |nil=>exact .nil
 |emp a cap=>exact .emp a cap
 |sl b off cap sz ds vals hsz hc _ hcap ih=>exact .sl b off cap sz ds vals hsz (λi j d hd=>⟨hs _ _ (hc i j d hd).1,(hc i j d hd).2⟩) ih hcap
 |gmap r ents clk es hJ hw hlen _ _ ihk ihv=>exact .gmap r ents clk es hJ hw hlen ihk ihv
theorem RV.sub {I I':Nat->Nat->Prop}{J:Nat->Prop}(hs:∀b o,I b o->I' b o) {v:Value}{x:D}(h:RV I J w v x):RV I' J w v x:=by
 cases x<;>simp only[RV]at h ⊢ <;> first
  |(obtain⟨vs,rfl,hv⟩:=h;exact⟨vs,rfl,hv.mono λ_ _ h=>h.sub hs⟩)
  |exact R1.sub hs h
def Cx.wide (c:Cx) (S:Nat->Nat->Prop):Cx:= { c with I:=λb o=>c.I b o∨S b o }
theorem RA.wide {S:Nat->Nat->Prop}{av:AV}{v:Value}(h:RA c H w av v):RA (c.wide S) H w av v:=by
 have hs:∀b o,c.I b o->(c.wide S).I b o:=λ_ _ h=>.inl h;induction h with
 |d h=>exact .d (RV.sub hs h)
 |ptr hH h=>exact .ptr hH h
 |iptr h=>exact .iptr λj x hx=>⟨hs _ _ (h j x hx).1,by obtain⟨v,h1,h2⟩:=(h j x hx).2;exact⟨v,h1,h2.sub hs⟩⟩
 |clo hf hc _ _ ih1 ih2=>exact .clo hf hc ih1 ih2
 |full h=>exact .full (R1.sub hs h)
 |vec h hH hn he=>exact .vec (R1.sub hs h) hH hn he
 |map hH h=>exact .map hH h
 |tup hl _ ih=>exact .tup hl ih
 |agg hl _ ih=>exact .agg hl ih
 |any v=>exact .any v
 |opt g p x v=>exact .opt g p x v
 |yld hH h=>exact .yld hH h
 |nils=>exact .nils
 |nilf=>exact .nilf
 |fsym o=>exact .fsym o
 |msl hH h=>exact .msl hH h
 |eptr hH h=>exact .eptr hH h
theorem sG.wide {S:Nat->Nat->Prop}{b k:Nat}{x:Box}(h:sG c H w b k x):sG (c.wide S) H w b k x:=by
 have hs:∀b o,c.I b o->(c.wide S).I b o:=λ_ _ h=>.inl h;cases x with
 |cells T cs=>obtain⟨vs,h1,h2⟩:=h;exact⟨vs,h1,h2.mono λ_ _ h=>h.wide⟩
 |map es=>obtain⟨ents,clk,h1,h2⟩:=h;exact⟨ents,clk,h1,h2.mono λ_ _ h=>⟨RV.sub hs h.1,RV.sub hs h.2⟩⟩
 |vec m sz=>exact h
 |dead=>exact h
 |arr sz ds=>obtain⟨vs,T,h1,h2,h3⟩:=h;exact⟨vs,T,h1,h2,h3.mono λ_ _ h=>h.sub hs⟩
 |loop tm ps asn bd pend st=>obtain⟨r,h1,h2,h3,h4,h5,h6,h7⟩:=h;exact⟨r,h1,h2,h3,h4,h5,h6,h7.mono λ_ _ h=>h.wide⟩
theorem HR.wide {S:Nat->Nat->Prop}(hR:HR c H w) (h1:∀b o,S b o->b<w.heap.size) (h2:∀b o l k:Nat,S b o->c.ρ[l]? ≠ some (some (b,k))):HR (c.wide S) H w where
 len:=hR.len
 inj:=hR.inj
 box l b k x hl hx:=(hR.box l b k x hl hx).wide
 non:=hR.non
 lt:=hR.lt
 ilt b o hi:=by
  rcases hi with hi|hi
  ·exact hR.ilt b o hi
  ·exact h1 b o hi
 jlt:=hR.jlt
 iap b o l k hi hl:=by
  rcases hi with hi|hi
  ·exact hR.iap b o l k hi hl
  ·exact No hl (h2 b o l k hi)
 jap:=hR.jap
def SX (l:Nat) (ds:ON D) (x:AV):AV :=match x with
 |.msl k=>if k=l then .d (.sl ds)else if k<l then .msl k else .any
 |.opt _ _ _=>.any
 |x=>if x.under l then x else .any
def TQ (n:Nat) (K:ON AV->ON Box->Prop):ON AV->ON Box->Prop:=λtm H =>match H.getLast? with
 |some (.arr _ ds)=>if decide (n<H.length)&&H.dropLast.all (Kd (H.length - 1))then K (tm.map (SX (H.length - 1) ds)) H.dropLast else NL
 |_=>NL
def QK (n:Nat) (Q:Post):Post:=λe tm H =>match e with
 |.normal=>TQ n (Q .normal) tm H
 |.exit i=>TQ n (Q (.exit i)) tm H
 |e=>Q e tm H
def Rd (n:Nat) (W:LW):LW:=λtm H Q=>W tm H (QK n Q)
theorem R1.arr {sz b k:Nat}{ds:ON D}{S:Nat->Nat->Prop}(hb:sG c H w b k (.arr sz ds)) (hS:∀o,o<ds.length*sz->S b o):R1 (c.wide S).I c.J w (.slice (some ⟨b,0,none⟩) ds.length ds.length) (.sl ds):=by
 obtain⟨vs,T,h1,h2,h3⟩:=hb;obtain⟨us,h4,h5⟩:=tA ds vs h3;have hs:∀b o,c.I b o->(c.wide S).I b o:=λ_ _ h=>.inl h;refine R1.of_row (vs:=us) (h4.mono λ_ _ h=>RV.sub hs h) h2 (λj u hj=>?_) (MS _);rw[h5]at hj;have hlt:j<ds.length*sz:=by
  have hl:=h3.1;rw[sB ds h2]at hl;have:j<vs.length:=by
   rcases M0 j vs.length with h' |h'
   ·exact h'
   ·rw[My h']at hj;cases hj
  omega
 rw[LP];exact⟨.inr (hS j hlt),by simp[Ko,h1,hj]⟩
theorem Rep.frz {sz:Nat}{ds:ON D}(hR:M5 G nb c H w tm a) (hl:H.getLast? = some (.arr sz ds)) (hn:n<H.length) (hu:(H.dropLast.all (Kd (H.length - 1)))=true):∃c',M5 G nb c' H.dropLast w (tm.map (SX (H.length - 1) ds)) a/\Nw c w c' w/\zp c (H.take n) c' H.dropLast:=by
 have hpos:0<H.length:=by omega
 generalize hp:H.length - 1=p at *;have hdl:H.dropLast=H.take p:=by rw[ON.dropLast_eq_take,hp]
 rw[hdl]at hu ⊢;have hget:H[p]? = some (.arr sz ds):=by rw[←hp,←ON.getLast?_eq_getElem?];exact hl
 have hr0:=hR.hr.take (n:=p) hu;have hplt:p<c.ρ.length:=by rw[hR.hr.len];omega
 obtain⟨ob,hob⟩:∃ob,c.ρ[p]? = some ob:=⟨c.ρ[p],by simp[hplt]⟩;have hob' :∃b k,ob=some (b,k):=by
  cases ob with
  |none =>
   rcases hR.hr.non p _ hob hget with⟨n',sz',h⟩|h<;>cases h
  |some bk=>exact⟨bk.1,bk.2,rfl⟩
 obtain⟨b,k,rfl⟩:=hob';have hbox:=hR.hr.box p b k _ hob hget;let S:Nat->Nat->Prop:=λb' o=>b'=b/\o<ds.length*sz;have hr1:HR ((c.take p).wide S) (H.take p) w:=by refine hr0.wide (λb' o h=>by rw[h.1];exact hR.hr.lt p b k hob) (λb' o l k' h hl'=>?_);obtain⟨h5,h6⟩:=zS hl';have:=hR.hr.inj l p b k' k (by rw[←h.1];exact h6) hob;omega
 have e:Nw c w ((c.take p).wide S) w:=by
  refine⟨rfl,rfl,rfl,λ_ _ h=>.inl h,λ_ h=>h,λ_ _ _=>rfl,λ_ _=>rfl,MS _,λ_ _ _=>rfl,λb' o h=>?_,λ_ h=>.inl h,λl _ k h=>.inl ⟨l,k,(zS h).2⟩⟩;rcases h with h|h
  ·exact .inl h
  ·exact .inr (.inr ⟨p,k,by rw[h.1];exact hob⟩)
 have kp:zp c (H.take n) ((c.take p).wide S) (H.take p):=by
  intro m y hy;obtain⟨hm,hy'⟩:=zS hy;have e1:((c.take p).wide S).ρ[m]? = c.ρ[m]? :=by show(c.ρ.take p)[m]? = _;rw[zJ (by omega)]
  have e2:(H.take p)[m]? = some y:=by rw[zJ (by omega)];exact hy'
  have:=Md c H m y hy';cases y<;>simp only[e1,e2]<;>simp_all
 refine⟨_,⟨hr1,hR.gr.ext e,?_,hR.df.ext e⟩,e,kp⟩;refine⟨by simpa using hR.tm.1,λi v y hv hy=>?_⟩;rw[M6]at hy;cases hx:tm[i]? with
 |none=>rw[hx]at hy;cases hy
 |some x =>
  rw[hx]at hy;simp only[Ly,K0]at hy;subst hy;have h3:=hR.tm.2 i v x hv hx;have key:∀z:AV,RA c H w z v->z.under p=true->RA ((c.take p).wide S) (H.take p) w z v:=λz hz hu'=>(hz.take hu').wide;have hany:yA ((c.take p).wide S) (H.take p) w a.tmps .any v:=Jx v;cases x<;>simp only[SX]<;>first
   |exact hany
   |(split;(· rename_i hu';exact key _ h3 hu');exact hany)
   |skip
  rename_i m;split
  ·rename_i hm;subst hm;have h4:RA c H w (.msl m) v:=h3;cases h4 with
   |@msl _ b2 k2 sz2 ds2 hH2 hρ2 =>
   rw[hget]at hH2;cases hH2;rw[hob]at hρ2;cases hρ2;exact Fc (R1.arr (c:=c.take m) (H:=H) (k:=k) (S:=S) (by obtain⟨vs,T,h1,h2,h3⟩:=hbox;exact⟨vs,T,h1,h2,h3⟩) (λo ho=>⟨rfl,ho⟩)).rv
  ·split
   ·rename_i hm;exact key _ h3 (by simp[KX,hm])
   ·exact hany
theorem Z1 {W:LW}{b:Np}(h0:∀tm H Q,W tm H Q->PW P G rd n (mkLoop b) tm H Q) (tm:ON AV) (H:ON Box) (Q:Post) (h:Rd n W tm H Q):PW P G rd n (mkLoop b) tm H Q:=by
 refine⟨λnb c a w hR=>?_⟩;refine wpIn_mono ((h0 _ _ _ h).run nb c a w hR) λex a2 w2 hE=>?_;obtain⟨c2,tm2,H2,h1,h2,h3,h4⟩:=hE;have key:∀e,TQ n (Q e) tm2 H2->oR G nb n c H w Q e a2 w2:=by
  intro e hk;unfold TQ at hk;split at hk
  ·rename_i sz ds hl;split at hk
   ·rename_i hc;simp only[NK,NR]at hc;obtain⟨c4,r1,r2,r3⟩:=h2.frz hl hc.1 hc.2;exact⟨c4,_,_,hk,r1,h3.trans r2,h4.link r3⟩
   ·exact hk.elim
  ·exact hk.elim
 cases ex with
 |normal=>exact key _ h1
 |exit i=>exact key _ h1
 |_=>exact⟨c2,tm2,H2,h1,h2,h3,h4⟩
def fulA:AV->AV
 |.nils=>.full []
 |x=>x
def fulB:Box->Box
 |.cells T cs=>.cells T (cs.map fulA)
 |x=>x
theorem RA.ful {av:AV}{v:Value}(h:RA c H w av v):RA c H w (fulA av) v:=by
 cases av<;>first
  |exact h
  |(cases h;exact .full .nil)
theorem yA.ful {tmps:OC Value}{av:AV}{v:Value}(h:yA c H w tmps av v):yA c H w tmps (fulA av) v:=by
 cases av<;>first
  |exact h
  |exact RA.ful (av:= .nils) h
theorem Rep.ful (hR:M5 G nb c H w tm a):M5 G nb c (H.map fulB) w (tm.map fulA) a/\zp c H c (H.map fulB):=by
 have kp:zp c H c (H.map fulB):=by
  intro m y hy;have e2:(H.map fulB)[m]? = some (fulB y):=by simp[hy]
  cases y<;>simp[e2,fulB]
 have hx:∀(l:Nat) y,(H.map fulB)[l]? = some y->∃x,H[l]? = some x/\y=fulB x:=by
  intro l y hy;rw[M6]at hy;cases h:H[l]? with
  |none=>rw[h]at hy;cases hy
  |some x=>rw[h]at hy;simp at hy;exact⟨x,rfl,hy.symm⟩
 refine⟨⟨⟨by simpa using hR.hr.len,hR.hr.inj,?_,?_,hR.hr.lt,hR.hr.ilt,hR.hr.jlt,?_,hR.hr.jap⟩,hR.gr,?_,hR.df⟩,kp⟩
 ·intro l b k y hl hy;obtain⟨x,h1,rfl⟩:=hx l y hy;have hb:=(hR.hr.box l b k x hl h1).ext (L7 c w) kp rfl;cases x with
  |cells T cs =>
   obtain⟨vs,h2,h3⟩:=hb;refine⟨vs,h2,⟨by simpa using h3.1,λi v z hv hz=>?_⟩⟩;rw[M6]at hz;cases hc:cs[i]? with
   |none=>rw[hc]at hz;cases hz
   |some u =>
    rw[hc]at hz;simp at hz;subst hz;exact(h3.2 i v u hv hc).ful
  |_=>exact hb
 ·intro l y hl hy;obtain⟨x,h1,rfl⟩:=hx l y hy;rcases hR.hr.non l x hl h1 with⟨m,sz,rfl⟩|rfl
  ·exact .inl ⟨m,sz,rfl⟩
  ·exact .inr rfl
 ·intro b o l k hi hl;obtain⟨m,sz,h1,h2⟩:=hR.hr.iap b o l k hi hl;exact⟨m,sz,by simp[h1,fulB],h2⟩
 ·have ht:=hR.tm.ext (L7 c w) kp;refine⟨by simpa using ht.1,λi v y hv hy=>?_⟩;rw[M6]at hy;cases h:tm[i]? with
  |none=>rw[h]at hy;cases hy
  |some x=>rw[h]at hy;simp at hy;subst hy;exact(ht.2 i v x hv h).ful
theorem PW.ful {code:Np}{Q:Post}(h:PW P G rd n code (tm.map fulA) (H.map fulB) Q):PW P G rd n code tm H Q:=by refine⟨λnb c a w hR=>?_⟩;obtain⟨r1,r2⟩:=hR.ful;exact wpIn_mono (h.run nb c a w r1) λe a2 w2 hE=>hE.later (L7 _ _) (r2.cut n)
def Z2 (P:Ng) (G:Nat->OK (ON D)) (n:Nat) (keep:ON Nat) (hU:ON Box->ON Box) (code:Np) (tm:ON AV) (H:ON Box) (Q:Post):Prop :=match rangeParts code with
 |some r=>pw P G (λ_=>none) (.region 0 r.ops false) tm H (jt (λtm1 H1=>Wk n (tm1.map fulA) (H1.map fulB) (jr (r.g::keep) [] 0 (tm1.map fulA)) (hU H1)/\b8 P G keep (aa code) r.g (ze code) (zo code) (zc code) (jr (r.g::keep) [] 0 (tm1.map fulA)) (hU H1) Q) Q)
 |none=>NL
theorem fE (hm:P.follows .mixedOrders=true) {keep:ON Nat}{hU:ON Box->ON Box}{b:Np}(hb:isScope b=true) (tm:ON AV) (H:ON Box) (Q:Post) (h:Z2 P G n keep hU (unScope b) tm H Q):PW P G none n (mkLoop b) tm H Q:=by
 have:mkLoop b=unScope b:=by cases b<;>first|rfl|simp[isScope]at hb
 rw[this];generalize unScope b=code at h;unfold Z2 at h;split at h
 ·rename_i r hr;have hcode:∃id,code = .seq (.region id r.ops false) (.block r.j (.rangeFunc (.tmp r.g) r.ps r.asn r.bd)):=by
   unfold rangeParts at hr;split at hr
   ·cases hr;exact⟨_,rfl⟩
   ·cases hr
  have ha:zo code=r.asn:=by unfold zo;rw[hr]
  have hb:zc code=r.bd:=by unfold zc;rw[hr]
  have hj:aa code=r.j:=by unfold aa;rw[hr]
  have hps:ze code=r.ps.toList:=by unfold ze;rw[hr]
  obtain⟨id,rfl⟩:=hcode;rw[ha,hb,hj,hps]at h;have h1:pw P G (λ_=>none) (.region id r.ops false) tm H (jt (λtm1 H1=>Wk n (tm1.map fulA) (H1.map fulB) (jr (r.g::keep) [] 0 (tm1.map fulA)) (hU H1)/\b8 P G keep r.j r.g r.ps.toList r.asn r.bd (jr (r.g::keep) [] 0 (tm1.map fulA)) (hU H1) Q) Q):=by simpa only[pw]using h
  refine PW.seq ((yw hm _ tm H _ (λb hb=>by simp[loopsOf]at hb) h1).mono λe tm' H' hq=>?_);cases e with
  |normal=>exact PW.ful (GB hq.1 (wA _ _ _ _) (ln (n:=n) (ps:=r.ps) hq.2))
  |_=>exact hq
 ·exact h.elim
def fD (P:Ng) (it:Nat->ON D->OK AV) (e:NF->AV) (o:Nu):OK (Nat×ON D×AV) :=match o.guard,o.op with
 |none,.call { callee:= .value f,args,argTypes:=_ } =>
  match calleeAV (e f)with
  |some (k,[],[]) =>
   if s5 P k then
    match (args.toList.map e).mapM avD with
    |some ds=>match it k ds with
     |some av=>some (k,ds,av)
     |none=>none
    |none=>none
   else none
  |_=>none
 |_,_=>none
def bz (P:Ng) (G:Nat->OK (ON D)) (it:Nat->ON D->OK AV) (ops:OC Nu):ON Nu->ON AV->ON Box->(ON AV->ON Box->Prop)->Prop
 |[],tm,H,K=>K tm H
 |o::rest,tm,H,K =>
  match fD P it (ev G (yr [] tm)) o with
  |some (k,ds,av)=>PFnA P G k ds (λx=>x=av)/\bz P G it ops rest (yk tm o.dst (dull av)) H K
  |none=>gt P G ops o tm H λtm' H'=>bz P G it ops rest tm' H' K
theorem Z3 {it:Nat->ON D->OK AV}{o:Nu}{k:Nat}{ds:ON D}{av:AV}{next:NI->N4->Prop}{Q:Me->NI->N4->Prop}(hR:M5 G nb c H w tm a) (hh:fD P it (ev G (yr [] tm)) o=some (k,ds,av)) (h:PFnA P G k ds (λx=>x=av)) (hn:∀v w2 c2,M5 G nb c2 H w2 (yk tm o.dst (dull av)) (a.put o.dst v)->Nw c w c2 w2->zp c H c2 H->next (a.put o.dst v) w2):o.wpIn (wF rd) 0 P a w next Q:=by
 have he:=yW (tags:=[]) hR (λg p h=>by simp[hasTag]at h);unfold fD at hh;split at hh
 ·rename_i f args types hgd hop;split at hh
  ·rename_i k' hcal;split at hh
   ·rename_i hok;split at hh
    ·rename_i ds' hds;split at hh
     ·cases hh;obtain⟨fv,cv,hfv,hargs⟩:=xO (args:=args) he hcal;have hrv:=mapM_avD (by simpa using hds) hargs;refine xh (by rw[hop];intro d hd;cases hd) (wZ hop hfv hok) ?_;refine(h.run { c with ρ:=[] } w _ rfl hR.hr.nil hR.gr hrv).mono λen w2 hen=>?_;obtain⟨v,av',c2,rfl,rfl,hρ2,hext,hhr,hra⟩:=hen;obtain⟨e2,k2,h2⟩:=td hR.hr hext hhr;have hra2:RA { c2 with ρ:=c.ρ } H w2 _ v:=RA.bare hρ2 hra;exact⟨v,rfl,hn v w2 _ (hR.put e2 k2 h2 o.dst (xp hra2)) e2 k2⟩
     ·cases hh
    ·cases hh
   ·cases hh
  ·cases hh
 ·cases hh
theorem mp {it:Nat->ON D->OK AV}{ops:OC Nu}{K:ON AV->ON Box->Prop}{Q:Me->NI->N4->Prop}:∀(l:ON Nu) (i:Nat) (c:Cx) (H:ON Box) (w:N4) (tm:ON AV) (a:NI),ops.toList.drop i=l->M5 G nb c H w tm a->bz P G it ops l tm H K->(∀a' w' c' tm' H',K tm' H'->M5 G nb c' H' w' tm' a'->Nw c w c' w'->zp c H c' H'->Q .normal a' w')->wpOpsIn (wF rd) 0 P ops Q (J8 i l.length) a w
 |[],i,c,H,w,tm,a,_,hR,h,hq=>by simpa[wpOpsIn]using hq a w c tm H h hR (L7 _ _) (Md _ _)
 |o::l,i,c,H,w,tm,a,hl,hR,h,hq=>by
  have ho:ops[i]? = some o:=by have:=Mz (λx=>x[0]?) hl;simpa using this
  have hl':ops.toList.drop (i+1)=l:=by have:=Mz EF hl;simpa using this
  rw[MO,E4];unfold bz at h;split at h
  ·rename_i k ds av hmk;obtain⟨hA,hk⟩:=h;rw[wpOpsIn_cons];unfold wpOpIn;rw[ho];simp only;have hgd:o.guard=none:=by
    unfold fD at hmk;split at hmk
    ·assumption
    ·cases hmk
   have hw:L5 o (yielded ops a.tmps)=true:=by simp[L5,hgd]
   rw[Nf hw];refine Z3 hR hmk hA λv w2 c2 hR2 e2 k2=>?_;exact mp l (i+1) c2 H w2 _ _ hl' hR2 hk λa3 w3 c3 tm3 H3 q1 q2 q3 q4=>hq a3 w3 c3 tm3 H3 q1 q2 (e2.trans q3) (k2.trans q4)
  ·refine rz ho hR h ?_;intro a' w' c' tm' H' hk hR' e k;exact mp l (i+1) c' H' w' tm' a' hl' hR' hk λa3 w3 c3 tm3 H3 q1 q2 q3 q4=>hq a3 w3 c3 tm3 H3 q1 q2 (e.trans q3) (k.trans q4)
def Tk (P:Ng) (G:Nat->OK (ON D)) (L:Loops) (it:Nat->ON D->OK AV) (mk:ON Nat):Np->ON AV->ON Box->Post->Prop
 |.seq a b,tm,H,Q =>
  match rangeId a b with
  |some _=>pw P G L (.seq a b) tm H Q
  |none=>Tk P G L it mk a tm H (jt (λtm' H'=>Tk P G L it mk b tm' H' Q) Q)
 |.cond x a b,tm,H,Q =>
  match ev G (yr [] tm) x with
  |.d (.bool t)=>lF L t (Tk P G L it mk a tm H Q) (Tk P G L it mk b tm H Q)
  |_=>NL
 |.block id b,tm,H,Q=>Tk P G L it mk b tm H (fH id Q)
 |.region id ops dr,tm,H,Q=>if !dr&&hasN mk id then bz P G it ops ops.toList tm H λtm' H'=>Q .normal (za tm') H' else pw P G L (.region id ops dr) tm H Q
 |c,tm,H,Q=>pw P G L c tm H Q
theorem ux (hm:P.follows .mixedOrders=true) {L:Loops}{it:Nat->ON D->OK AV}{mk:ON Nat}:∀(code:Np) (tm:ON AV) (H:ON Box) (Q:Post),zx P G rd n L (loopsOf code)->Tk P G L it mk code tm H Q->PW P G rd n code tm H Q
 |.seq x y,tm,H,Q,hL,h=>by
  simp only[Tk]at h;split at h
  ·exact yw hm _ _ _ _ hL h
  ·rename_i hid;unfold zx at hL;simp only[loopsOf,hid]at hL;have hx:=ux hm x tm H _ (λb hb=>hL b (by simp[hb])) h;refine PW.seq (hx.mono λe tm' H' hq=>?_);cases e with
   |normal=>exact ux hm y tm' H' Q (λb hb=>hL b (by simp[hb])) hq
   |_=>exact hq
 |.cond x p q,tm,H,Q,hL,h=>by
  refine⟨λnb c a w hR=>?_⟩;simp only[Tk]at h;unfold zx at hL;simp only[loopsOf]at hL;split at h
  ·rename_i t ht;have hx:=yW (tags:=[]) hR (λg p h=>by simp[hasTag]at h) x;rw[ht]at hx;replace h:=pm h
   refine wpIn_cond_split hx.bool (λe=>?_) (λe=>?_)
   ·exact(ux hm p tm H Q (λb hb=>hL b (by simp[hb])) (h.1 e)).run nb c a w hR
   ·exact(ux hm q tm H Q (λb hb=>hL b (by simp[hb])) (h.2 e)).run nb c a w hR
  ·exact h.elim
 |.block id x,tm,H,Q,hL,h=>PW.block (ux hm x tm H _ (λb hb=>hL b (by simp only[loopsOf];exact hb)) h)
 |.region id ops dr,tm,H,Q,hL,h=>by
  simp only[Tk]at h;split at h
  ·rename_i hc;simp only[NK,Lc]at hc;obtain⟨rfl,_⟩:=hc;refine⟨λnb c a w hR=>wpIn_region ?_⟩;rw[G1,show ops.size=ops.toList.length by simp];exact mp ops.toList 0 c H w tm a (by simp) hR h λa' w' c' tm' H' hk hR' e k=>⟨c',_,H',hk,hR'.clear,e,k.cut n⟩
  ·exact yw hm _ _ _ _ hL h
 |.skip,tm,H,Q,hL,h=>yw hm _ _ _ _ hL h
 |.label _,tm,H,Q,hL,h=>yw hm _ _ _ _ hL h
 |.exit _,tm,H,Q,hL,h=>yw hm _ _ _ _ hL h
 |.ret,tm,H,Q,hL,h=>yw hm _ _ _ _ hL h
 |.loop _,tm,H,Q,hL,h=>yw hm _ _ _ _ hL h
theorem PFn.walkM {f:L8}{fn:L3}{code:Np}{ds:ON D}{Q:ON D->Prop}(hm:P.follows .mixedOrders=true) (L:Loops) (it:Nat->ON D->OK AV) (mk:ON Nat) (hf:P.funcs[f]? = some fn) (hb:fn.body=some code) (hex:∃rs,Q rs) (hL:zx P G none 0 L (loopsOf code)) (h:Tk P G L it mk code (wy fn ds) [] (aB P fn Q)):OB P G f ds Q :=OB.intro hf hb hex (ux hm code _ _ _ hL h)
end
end Go.Sx
namespace Go.Fo
open Go Go.Sx
section
structure Tm where
 kind:Int
 name:ON UInt8
 n:Int
 deriving DecidableEq
structure Bd where
 name:ON UInt8
 sort:Int
 deriving DecidableEq
inductive Fm where
 |mk (kind:Int) (name:ON UInt8) (n:Int) (ts:ON Tm) (bs:ON Bd) (l:ON Fm)
def Fm.kind:Fm->Int
 |.mk k _ _ _ _ _=>k
def Fm.name:Fm->ON UInt8
 |.mk _ s _ _ _ _=>s
def Fm.n:Fm->Int
 |.mk _ _ n _ _ _=>n
def Fm.ts:Fm->ON Tm
 |.mk _ _ _ t _ _=>t
def Fm.bs:Fm->ON Bd
 |.mk _ _ _ _ b _=>b
def Fm.l:Fm->ON Fm
 |.mk _ _ _ _ _ l=>l
def Tm.d (t:Tm):D:= .agg [.int .i64 t.kind,.str t.name,.int .i64 t.n]
def Bd.d (b:Bd):D:= .agg [.str b.name,.int .i64 b.sort]
mutual
def Fm.d:Fm->D
 |.mk k nm n ts bs l=>.agg [.int .i64 k,.str nm,.int .i64 n,.sl (ts.map Tm.d),.sl (bs.map Bd.d),.sl (Fm.ds l)]
def Fm.ds:ON Fm->ON D
 |[]=>[]
 |x::r=>x.d::Fm.ds r
end
theorem Fm.ds_eq:∀l:ON Fm,Fm.ds l=l.map Fm.d
 |[]=>by simp[Fm.ds]
 |x::r=>by simp[Fm.ds,Fm.ds_eq r]
theorem Fm.d_mk (k:Int) (nm:ON UInt8) (n:Int) (ts:ON Tm) (bs:ON Bd) (l:ON Fm):(Fm.mk k nm n ts bs l).d = .agg [.int .i64 k,.str nm,.int .i64 n,.sl (ts.map Tm.d),.sl (bs.map Bd.d),.sl (l.map Fm.d)]:=by rw[Fm.d,Fm.ds_eq]
theorem Fm.d_eq (f:Fm):f.d = .agg [.int .i64 f.kind,.str f.name,.int .i64 f.n,.sl (f.ts.map Tm.d),.sl (f.bs.map Bd.d),.sl (f.l.map Fm.d)]:=by cases f;exact Fm.d_mk _ _ _ _ _ _
section
variable {i:Nat}
theorem V8 {ts:ON Tm}{t:Tm}(h:ts[i]? = some t):z1 (ts.map Tm.d) i 0=some (.int .i64 t.kind):=by simp[z1,h,Tm.d,Mw]
theorem V9 {ts:ON Tm}{t:Tm}(h:ts[i]? = some t):z1 (ts.map Tm.d) i (0+1)=some (.str t.name):=by simp[z1,h,Tm.d,Mw]
theorem Vz {ts:ON Tm}{t:Tm}(h:ts[i]? = some t):z1 (ts.map Tm.d) i (0+1+1)=some (.int .i64 t.n):=by simp[z1,h,Tm.d,Mw]
theorem rp {bs:ON Bd}{b:Bd}(h:bs[i]? = some b):z1 (bs.map Bd.d) i 0=some (.str b.name):=by simp[z1,h,Bd.d,Mw]
theorem tW {bs:ON Bd}{b:Bd}(h:bs[i]? = some b):z1 (bs.map Bd.d) i (0+1)=some (.int .i64 b.sort):=by simp[z1,h,Bd.d,Mw]
theorem Vy {l:ON Fm}{f:Fm}(h:l[i]? = some f):z1 (l.map Fm.d) i 0=some (.int .i64 f.kind):=by simp[z1,h,Fm.d_eq,Mw]
theorem Vx {l:ON Fm}{f:Fm}(h:l[i]? = some f):z1 (l.map Fm.d) i (0+1)=some (.str f.name):=by simp[z1,h,Fm.d_eq,Mw]
theorem Vw {l:ON Fm}{f:Fm}(h:l[i]? = some f):z1 (l.map Fm.d) i (0+1+1)=some (.int .i64 f.n):=by simp[z1,h,Fm.d_eq,Mw]
theorem Vv {l:ON Fm}{f:Fm}(h:l[i]? = some f):z1 (l.map Fm.d) i (0+1+1+1)=some (.sl (f.ts.map Tm.d)):=by simp[z1,h,Fm.d_eq,Mw]
theorem Vu {l:ON Fm}{f:Fm}(h:l[i]? = some f):z1 (l.map Fm.d) i (0+1+1+1+1)=some (.sl (f.bs.map Bd.d)):=by simp[z1,h,Fm.d_eq,Mw]
theorem Vt {l:ON Fm}{f:Fm}(h:l[i]? = some f):z1 (l.map Fm.d) i (0+1+1+1+1+1)=some (.sl (f.l.map Fm.d)):=by simp[z1,h,Fm.d_eq,Mw]
theorem jn {ts:ON Tm}{t:Tm}(h:ts[i]? = some t):zk [.int .i64,.str,.int .i64] (ts.map Tm.d) i=t.d:=by simp only[zk,Ky,V8 h,V9 h,Vz h];rfl
theorem tt {bs:ON Bd}{b:Bd}(h:bs[i]? = some b):zk [.str,.int .i64] (bs.map Bd.d) i=b.d:=by simp only[zk,Ky,rp h,tW h];rfl
theorem uk {l:ON Fm}{f:Fm}(h:l[i]? = some f):zk [.int .i64,.str,.int .i64,.sl,.sl,.sl] (l.map Fm.d) i=f.d:=by simp only[zk,Ky,Vy h,Vx h,Vw h,Vv h,Vu h,Vt h];rw[Fm.d_eq];rfl
end
mutual
def Fm.rank:Fm->Nat
 |.mk _ _ _ _ _ l=>1+Fm.ranks l
def Fm.ranks:ON Fm->Nat
 |[]=>0
 |x::r=>x.rank+Fm.ranks r
end
theorem Fm.ranks_mem:∀{l:ON Fm}{x:Fm},x∈l->x.rank<=Fm.ranks l
 |y::r,x,h=>by
  rw[Fm.ranks];rcases MU.1 h with rfl|h
  ·omega
  ·have:=Fm.ranks_mem h;omega
theorem Fm.rank_lt {f x:Fm}(h:x∈f.l):x.rank<f.rank:=by
 cases f with
 |mk k nm n ts bs l =>
  have:=Fm.ranks_mem (l:=l) h;rw[Fm.rank];omega
theorem Fm.induct {M:Fm->Prop}(h:∀f,(∀x∈f.l,M x)->M f) (f:Fm):M f:=by
 have:∀n (f:Fm),f.rank<n->M f:=by
  intro n;induction n with
  |zero=>intro f hf;omega
  |succ n ih=>intro f hf;exact h f λx hx=>ih x (by have:=Fm.rank_lt hx;omega)
 exact this _ f (Nat.lt_succ_self _)
theorem gf {α:Type}{l:ON α}{x:Int}(h0:0<=x) (h:x<(l.length:Int)):∃y,l[x.toNat]? = some y/\y∈l:=by
 have hlt:x.toNat<l.length:=by omega
 exact⟨l[x.toNat],by simp[hlt],KQ hlt⟩
theorem zu {n:Int}(h0: -9223372036854775808<=n) (h1:n<9223372036854775808):Nl Nq n=n:=by simp only[Nl];simp[IntKind.signed,IntKind.bits];omega
end
end Go.Fo
open Go.Fo.Bd renaming d->N3
open Go.Fo.Fm renaming bs->NJ,d->NX,induct->KY,kind->NU,l->Nt,n->NA,name->NG,rank->Jz,rank_lt->EI,ranks->MQ,ts->NH
open Go.Fo.Tm renaming d->Nc
namespace Go.Fo
open Go Go.Sx Go.Proofs
theorem mixed:Tryz.prog.follows .mixedOrders=true:=by kernel_rfl
def L0:Loops:=λ_=>none
theorem nC {G:Nat->OK (ON D)}{rd:OK Nat}{n:Nat}{L:Loops}{code:Np}(h:loopsOf code=[]):zx Tryz.prog G rd n L (loopsOf code):=by rw[h];exact zx.nil
section
variable {G:Nat->OK (ON D)}
def y7 (k:Int):Bool:=decide (3<=k)&&decide (k<=9)
def yj (k:Int):Bool:=decide (14<=k)&&decide (k<=17)
def xZ (k:Int):Bool:=decide (k=16)||decide (k=17)
def bx (n:Int):Bool:=decide (0<=n)&&decide (n<=1099511627776)
theorem zM (a b:Bool):(bif a then b else false)=(a&&b):=by cases a<;>rfl
theorem yi (a b:Bool):(bif a then true else b)=(a||b):=by cases a<;>rfl
theorem Rc (k:Int):OB Tryz.prog G 218 [.int .i64 k] (· = [.bool (y7 k)]):=by
 refine IE (fn:=Tryz.f218) (code:=z6 Tryz.f218) mixed L0 Tryz.func218 (by kernel_rfl) ⟨_,rfl⟩ (nC (by kernel_rfl)) ?_;apply @z7 _ ([OD (bif decide (k>=3)then decide (k<=9)else false)]=[OD (y7 k)])
 ·kernel_rfl
 simp only[zM,y7,ge_iff_le]
theorem Rb (k:Int):OB Tryz.prog G 219 [.int .i64 k] (· = [.bool (yj k)]):=by
 refine IE (fn:=Tryz.f219) (code:=z6 Tryz.f219) mixed L0 Tryz.func219 (by kernel_rfl) ⟨_,rfl⟩ (nC (by kernel_rfl)) ?_;apply @z7 _ ([OD (bif decide (k>=14)then decide (k<=17)else false)]=[OD (yj k)])
 ·kernel_rfl
 simp only[zM,yj,ge_iff_le]
theorem QJ (k:Int):OB Tryz.prog G 220 [.int .i64 k] (· = [.bool (xZ k)]):=by
 refine IE (fn:=Tryz.f220) (code:=z6 Tryz.f220) mixed L0 Tryz.func220 (by kernel_rfl) ⟨_,rfl⟩ (nC (by kernel_rfl)) ?_;apply @z7 _ ([OD (bif k==16 then true else k==17)]=[OD (xZ k)])
 ·kernel_rfl
 simp only[yi,xZ];rfl
theorem Ra (k:Int):OB Tryz.prog G 226 [.int .i64 k] (· = [.bool (bx k)]):=by
 refine IE (fn:=Tryz.f226) (code:=z6 Tryz.f226) mixed L0 Tryz.func226 (by kernel_rfl) ⟨_,rfl⟩ (nC (by kernel_rfl)) ?_;apply @z7 _ ([OD (bif decide (k>=0)then decide (k<=1099511627776)else false)]=[OD (bx k)])
 ·kernel_rfl
 simp only[zM,bx,ge_iff_le]
def lm (s:ON UInt8):Bool:=s==[61]||s==[33,61]||s==[60]||s==[60,61]||s==[62]||s==[62,61]
def RZ (s:ON UInt8):ON UInt8 :=if s==[61]then [33,61]else if s==[33,61]then [61]else if s==[60]then [62,61]else if s==[62,61]then [60]else if s==[60,61]then [62]else [60,61]
def yb (k:Int):Int :=if k=10∨k=14∨k=15∨k=16∨k=17 then 1 else if k=11∨k=12∨k=13 then 2 else if k=1∨k=2∨y7 k=true then 0 else -1
def Ya (f:Fm):Bool:=f.kind==1||(f.kind==16&&f.n==0)||(f.kind==17&&f.n==1099511627776)
end
section
variable {G:Nat->OK (ON D)}{rd:OK Nat}{n:Nat}{P:Ng}
theorem zn {f:L8}{fn:L3}{ds:ON D}{Q:ON D->Prop}(hf:Tryz.prog.funcs[f]? = some fn) (hex:∃rs,Q rs) (h:pw Tryz.prog G L0 (z6 fn) (wy fn ds) [] (aB Tryz.prog fn Q)) (hb:fn.body=some (z6 fn):=by kernel_rfl) (hl:loopsOf (z6 fn)=[]:=by kernel_rfl):OB Tryz.prog G f ds Q :=IE mixed L0 hf hb hex (nC hl) h
theorem zr {f:L8}{fn:L3}{ds:ON D}{Q:ON D->Prop}(L:Loops) (hf:Tryz.prog.funcs[f]? = some fn) (hex:∃rs,Q rs) (hL:zx Tryz.prog G none 0 L (loopsOf (z6 fn))) (h:pw Tryz.prog G L (z6 fn) (wy fn ds) [] (aB Tryz.prog fn Q)) (hb:fn.body=some (z6 fn):=by kernel_rfl):OB Tryz.prog G f ds Q :=IE mixed L hf hb hex hL h
theorem zF {f:L8}{fn:L3}{aas:ON AV}{H:ON Box}{Q:ON D->ON Box->Prop}(hf:Tryz.prog.funcs[f]? = some fn) (hp:aas.all plainAV=true) (hex:∃rs H',Q rs H') (h:pw Tryz.prog G L0 (z6 fn) (startA fn aas) H (XS Tryz.prog fn H.length Q)) (hb:fn.body=some (z6 fn):=by kernel_rfl) (hl:loopsOf (z6 fn)=[]:=by kernel_rfl):Nn Tryz.prog G f aas H Q :=Bi mixed L0 hf hb hp hex (nC hl) h
theorem zg {f:L8}{fn:L3}{aas:ON AV}{H:ON Box}{Q:ON D->ON Box->Prop}(L:Loops) (hf:Tryz.prog.funcs[f]? = some fn) (hp:aas.all plainAV=true) (hex:∃rs H',Q rs H') (hL:zx Tryz.prog G none H.length L (loopsOf (z6 fn))) (h:pw Tryz.prog G L (z6 fn) (startA fn aas) H (XS Tryz.prog fn H.length Q)) (hb:fn.body=some (z6 fn):=by kernel_rfl):Nn Tryz.prog G f aas H Q :=Bi mixed L hf hb hp hex hL h
theorem zm {code:Np}{i1:Nat}{W1:LW}(h1:yU P G rd n (zz code 0) W1) (h:loopsOf code=[zz code 0]:=by kernel_rfl) (e1:LL [(i1,W1)] (loopId (zz code 0))=some W1:=by kernel_rfl):zx P G rd n (LL [(i1,W1)]) (loopsOf code) :=zx.one h e1 h1
theorem lE {code:Np}{i1 i2:Nat}{W1 W2:LW}(h1:yU P G rd n (zz code 0) W1) (h2:yU P G rd n (zz code 1) W2) (h:loopsOf code=[zz code 0,zz code 1]:=by kernel_rfl) (e1:LL [(i1,W1),(i2,W2)] (loopId (zz code 0))=some W1:=by kernel_rfl) (e2:LL [(i1,W1),(i2,W2)] (loopId (zz code 1))=some W2:=by kernel_rfl):zx P G rd n (LL [(i1,W1),(i2,W2)]) (loopsOf code) :=zx.two h e1 e2 h1 h2
theorem u3 {L:Loops}{code:Np}(h:loopsOf code=[]:=by kernel_rfl):zx Tryz.prog G rd n L (loopsOf code):=nC h
theorem zy {α:Type}{L:Loops}{body:Np}{keep:ON Nat}{Inv:α->Prop}{m:α->Nat}{tmU:α->ON (Nat×AV)}{hU:ON Box->α->ON Box}(h:loopsOf body=[]:=by kernel_rfl):yU Tryz.prog G rd n body (zT Tryz.prog G L n body keep Inv m tmU hU):=b7 mixed (nC h)
end
section
theorem sL {l:ON Fm}{i:Nat}{z:Fm}(h:l[i]? = some z):MQ (l.take (i+1))=MQ (l.take i)+z.rank:=by
 induction l generalizing i with
 |nil=>simp at h
 |cons y r ih =>
  cases i with
  |zero=>simp at h;subst h;simp[MQ]
  |succ i=>simp at h;simp only[Lj,MQ];rw[ih h];omega
theorem pj (l:ON Fm) (i:Nat):MQ (l.take i)<=MQ l:=by
 induction l generalizing i with
 |nil=>simp
 |cons y r ih =>
  cases i with
  |zero=>simp[MQ]
  |succ i=>simp only[Lj,MQ];have:=ih i;omega
theorem Fm.rank_eq (f:Fm):f.rank=1+MQ f.l:=by cases f;rfl
theorem mo (l:ON Fm):l.length<=MQ l:=by
 induction l with
 |nil=>simp[MQ]
 |cons y r ih =>
  have:=y.rank_eq;simp only[MQ,MO];omega
theorem zt {α:Type}{l:ON α}{x:Nat}(h:x<l.length):∃y,l[x]? = some y/\y∈l:=⟨l[x],by simp[h],KQ h⟩
mutual
def Fm.depth:Fm->Nat
 |.mk _ _ _ _ _ l=>Fm.depths l+1
def Fm.depths:ON Fm->Nat
 |[]=>0
 |x::r=>max x.depth (Fm.depths r)
end
theorem mn {l:ON Fm}{i:Nat}{z:Fm}(h:l[i]? = some z):Fm.depths (l.take (i+1))=max (Fm.depths (l.take i)) z.depth:=by
 induction l generalizing i with
 |nil=>simp at h
 |cons y r ih =>
  cases i with
  |zero=>simp at h;subst h;simp[Fm.depths]
  |succ i=>simp at h;simp only[Lj,Fm.depths];rw[ih h];omega
theorem Fm.depth_eq (f:Fm):f.depth=Fm.depths f.l+1:=by cases f;rfl
theorem XR {l:ON Fm}(h:∀x∈l,x.depth<=x.rank):Fm.depths l<=MQ l:=by
 induction l with
 |nil=>simp[Fm.depths]
 |cons y r ih =>
  simp only[Fm.depths,MQ];have h1:=h y (by simp);have h2:=ih λx hx=>h x (by simp[hx]);omega
theorem Fm.depth_le (f:Fm):f.depth<=f.rank:=by
 induction f using KY with
 |h f ih=>rw[f.depth_eq,f.rank_eq];have:=XR ih;omega
section
variable {G:Nat->OK (ON D)}
abbrev ge (a:Nat) (b:Fm):Int:=(1:Int)+(↑(MQ (NW a (Nt b))):Int)
abbrev gd (a:Fm):Prop:=(NU a=NU a/\NG a=NG a/\NA a=NA a/\OM Nc (NH a)=OM Nc (NH a)/\OM N3 (NJ a)=OM N3 (NJ a)/\OM NX (Nt a)=OM NX (Nt a)/\OG)/\OG
abbrev gc (a:Nat) (b:Fm):Bool:=decide ((a:Int)<(↑(OJ (OM NX (Nt b))):Int))
abbrev gb (a:Fm) (b:Nat):D:=zk [NP .i64,NC,NP .i64,NB,NB,NB] (OM NX (Nt a)) (N1 (b:Int))
theorem QI (f:Fm) (hf:f.rank<4611686018427387904):OB Tryz.prog G 80 [f.d] (· = [.int .i64 f.rank]):=by
 induction f using KY with
 |h f ih =>
 have hr:=f.rank_eq;rw[f.d_eq];refine zr (LL [(3,zT (α:=Nat) Tryz.prog G L0 0 (zz (z6 Tryz.f80) 0) [1] (λx=>x<=f.l.length) (λx=>f.l.length - x) (λx=>[(3,.d (.int .i64 (1+(MQ (f.l.take x):Int)))),(4,.d (.int .i64 x))]) (λH _=>H))]) Tryz.func80 ⟨_,rfl⟩ (zm zy) ?_
 ·apply @z7 _ (∃(x0:Nat),x0<=OJ (Nt f)/\((N5 0 0=N5 0 0/\1=ge x0 f/\(0:Int)=(x0:Int)/\OG)/\gd f)/\∀(x:Nat),x<=OJ (Nt f)->(gc x f=true->((0:Int)<=(x:Int)/\(OM NX (Nt f))[N1 (x:Int)]? = some (gb f x))/\OB Tryz.prog G 80 [gb f x] λ(rs:ON D)=>∃(n:Int),rs=[OH .i64 n]/\∃(y:Nat),y<=OJ (Nt f)/\OJ (Nt f) - y<OJ (Nt f) - x/\(N5 0 0=N5 0 0/\Nl .i64 (ge x f+n)=ge y f/\Nl .i64 ((x:Int)+1)=(y:Int)/\OG)/\gd f)/\(gc x f=false->[OH .i64 (ge x f)]=[OH .i64 (↑(Jz f):Int)]))
  ·kernel_rfl
  delta ge gd gc gb;refine⟨0,by omega,by simp[MQ],λx hx=>⟨λhlt=>?_,λhge=>?_⟩⟩
  ·simp only[Nv,NR]at hlt;obtain⟨z,hz,hm⟩:=zt (l:=f.l) (x:=x) (by omega);simp only[M1];rw[uk hz];refine⟨⟨by omega,by simp[hz]⟩,?_⟩;have hzr:=EI hm;refine(ih z hm (by omega)).mono ?_;rintro rs rfl;have h1:=sL hz;have h2:=pj f.l (x+1);have h3:=mo f.l;refine⟨_,rfl,x+1,by omega,by omega,?_⟩;rw[zu (by omega) (by omega),zu (by omega) (by omega)];simp only[true_and,and_true];refine⟨?_,?_⟩<;>omega
  ·simp only[Nv,M2]at hge;have:x=f.l.length:=by omega
   subst this;rw[La,hr];simp
abbrev ga (a:Nat) (b:Fm):Int:=(↑(Fm.depths (NW a (Nt b))):Int)
theorem QH (f:Fm) (hf:f.rank<4611686018427387904):OB Tryz.prog G 192 [f.d] (· = [.int .i64 f.depth]):=by
 induction f using KY with
 |h f ih =>
 have hr:=f.rank_eq;have hd:=f.depth_eq;have hdl:=f.depth_le;rw[f.d_eq];refine zr (LL [(3,zT (α:=Nat) Tryz.prog G L0 0 (zz (z6 Tryz.f192) 0) [1,7,8] (λx=>x<=f.l.length) (λx=>f.l.length - x) (λx=>[(3,.d (.int .i64 (Fm.depths (f.l.take x):Int))),(9,.d (.int .i64 x))]) (λH _=>H))]) Tryz.func192 ⟨_,rfl⟩ (zm zy) ?_;apply @z7 _ (∃(x0:Nat),x0<=OJ (Nt f)/\((N5 0 0=N5 0 0/\0=ga x0 f/\OM NX (Nt f)=OM NX (Nt f)/\(↑(OJ (OM NX (Nt f))):Int)=(↑(OJ (OM NX (Nt f))):Int)/\(0:Int)=(x0:Int)/\OG)/\gd f)/\∀(x:Nat),x<=OJ (Nt f)->(gc x f=true->((0:Int)<=(x:Int)/\(OM NX (Nt f))[N1 (x:Int)]? = some (gb f x))/\OB Tryz.prog G 192 [gb f x] λ(rs:ON D)=>∃(n:Int),rs=[OH .i64 n]/\∃(y:Nat),y<=OJ (Nt f)/\OJ (Nt f) - y<OJ (Nt f) - x/\(N5 0 0=N5 0 0/\(if n>ga x f then n else ga x f)=ga y f/\OM NX (Nt f)=OM NX (Nt f)/\(↑(OJ (OM NX (Nt f))):Int)=(↑(OJ (OM NX (Nt f))):Int)/\Nl .i64 ((x:Int)+1)=(↑y: Int)/\OG)/\gd f)/\(gc x f=false->[OH .i64 (Nl .i64 (ga x f+1))]=[OH .i64 (↑(Fm.depth f):Int)]))
 ·kernel_rfl
 delta ga gd ge gc gb;refine⟨0,by omega,by simp[Fm.depths],λx hx=>⟨λhlt=>?_,λhge=>?_⟩⟩
 ·simp only[Nv,NR]at hlt;obtain⟨z,hz,hm⟩:=zt (l:=f.l) (x:=x) (by omega);simp only[M1];rw[uk hz];refine⟨⟨by omega,by simp[hz]⟩,?_⟩;have hzr:=EI hm;refine(ih z hm (by omega)).mono ?_;rintro rs rfl;have h1:=mn hz;have h3:=mo f.l;refine⟨_,rfl,x+1,by omega,by omega,?_⟩;rw[zu (by omega) (by omega)];simp only[true_and,and_true];refine⟨?_,?_⟩
  ·rw[h1];omega
  ·omega
 ·simp only[Nv,M2]at hge;have:x=f.l.length:=by omega
  subst this;rw[La,zu (by omega) (by omega),hd];simp
end
end
def bw (ts:ON Tm):Nat:=(ts.map λt=>t.name.length).sum
def fC (bs:ON Bd):Nat:=(bs.map λb=>b.name.length).sum
mutual
def Fm.wt:Fm->Nat
 |.mk _ s _ ts bs l=>1+s.length+ts.length+bs.length+bw ts+fC bs+Fm.wts l
def Fm.wts:ON Fm->Nat
 |[]=>0
 |x::r=>x.wt+Fm.wts r
end
theorem Fm.wt_eq (f:Fm):f.wt=1+f.name.length+f.ts.length+f.bs.length+bw f.ts+fC f.bs+Fm.wts f.l:=by cases f;rfl
theorem YZ {l:ON Fm}{x:Fm}(h:x∈l):x.wt<=Fm.wts l:=by
 induction l with
 |nil=>cases h
 |cons y r ih =>
  simp only[Fm.wts];rcases MU.1 h with rfl|h
  ·omega
  ·have:=ih h;omega
theorem Fm.wt_lt {f x:Fm}(h:x∈f.l):x.wt<f.wt:=by have:=YZ h;have:=f.wt_eq;omega
theorem Fm.rank_le_wt (f:Fm):f.rank<=f.wt:=by
 induction f using KY with
 |h f ih =>
  rw[f.rank_eq,f.wt_eq];have:∀l:ON Fm,(∀x∈l,x.rank<=x.wt)->MQ l<=Fm.wts l:=by
   intro l;induction l with
   |nil=>simp[MQ]
   |cons y r ih2 =>
    intro h;simp only[MQ,Fm.wts];have h1:=h y (by simp);have h2:=ih2 λx hx=>h x (by simp[hx]);omega
  have:=this f.l ih;omega
theorem oI (l:ON Fm):l.length<=Fm.wts l:=by
 induction l with
 |nil=>simp[Fm.wts]
 |cons y r ih =>
  have:=y.wt_eq;simp only[Fm.wts,MO];omega
mutual
def Fm.beq:Fm->Fm->Bool
 |.mk k s n ts bs l,.mk k' s' n' ts' bs' l'=>k==k'&&s==s'&&n==n'&&ts==ts'&&bs==bs'&&Fm.beqs l l'
def Fm.beqs:ON Fm->ON Fm->Bool
 |[],[]=>true
 |x::r,y::q=>x.beq y&&Fm.beqs r q
 |_,_=>false
end
section
variable {G:Nat->OK (ON D)}
end
section
variable {G:Nat->OK (ON D)}
end
section
variable {G:Nat->OK (ON D)}
end
def sw (t s:ON UInt8):Bool:=(Mq (t.length+1)).any λi=>decide (i+s.length<=t.length)&&((t.drop i).take s.length==s)
theorem ll {t s:ON UInt8}:sw t s=true↔ ∃i,i+s.length<=t.length/\(t.drop i).take s.length=s:=by
 simp only[sw,Jb,Lp,NK,NR,beq_iff_eq];constructor
 ·rintro⟨i,_,h⟩;exact⟨i,h⟩
 ·rintro⟨i,h⟩;exact⟨i,by omega,h⟩
def bv (c:UInt8):Bool:=decide (97<=c.toNat)&&decide (c.toNat<=122)
def Vs (c:UInt8):Bool:=decide (48<=c.toNat)&&decide (c.toNat<=57)
def XQ (i:Nat) (c:UInt8):Bool:=bv c||(decide (i≠0)&&(Vs c||decide (c.toNat=95)))
def gZ (s:ON UInt8):Bool:=(Mq s.length).all (λi=>XQ i (s.getD i 0))&&decide (1<=s.length)&&decide (s.length<=64)
section
variable {G:Nat->OK (ON D)}
def resS:ON UInt8:=[32,104,97,114,100,32,115,111,102,116,32,101,97,99,104,32,97,108,108,32,115,111,109,101,32,108,101,97,115,116,32,109,111,115,116,32,116,114,117,101,32,102,97,108,115,101,32,97,116,32,105,110,32,116,101,97,99,104,101,115,32,97,116,116,101,110,100,115,32,97,119,97,121,32,115,104,117,116,32,100,97,121,32,104,111,117,114,32,104,111,117,115,101,32,115,101,97,116,115,32,115,105,122,101,32,108,101,115,115,111,110,32,115,108,111,116,32,114,111,111,109,32,112,101,114,115,111,110,32,103,114,111,117,112,32]
def yO (s:ON UInt8):Bool:=gZ s&& !sw resS (32::s++[32])
def yC (t:Tm):Bool:=if t.kind=1 then t.name==[]&&bx t.n else decide (2<=t.kind)&&decide (t.kind<=7)&&yO t.name&&t.n==0
end
end Go.Fo
namespace Go.Fo
open Go Go.Sx
def vz (x:Int):Bool:=(decide (97<=x)&&decide (x<=122))||(decide (48<=x)&&decide (x<=57))||x==95
theorem bu (t s:ON UInt8) (i:Nat):BX t s i=true↔i+s.length<=max t.length i/\(t.drop i).take s.length=s:=by
 unfold BX;rw[ON.isPrefixOf_iff_prefix];constructor
 ·rintro h;refine⟨?_,?_⟩
  ·have:=h.length_le;rw[ON.length_drop]at this;omega
  ·exact(ON.prefix_iff_eq_take.1 h).symm
 ·rintro⟨_,h⟩;rw[←h];exact ON.take_prefix _ _
theorem lQ (t s:ON UInt8) (hs:s≠[]):Hg t s=sw t s:=by
 have hl:0<s.length:=Hv.2 hs;rw[MG,ll];unfold Hg;rw[NR];rcases Lib.index_spec t s with⟨h1,h2⟩|⟨i,h1,h2,h3,_⟩
 ·rw[h1];constructor
  ·intro h;omega
  ·rintro⟨i,h3,h4⟩;have:=h2 i (by omega);rw[(bu t s i).2 ⟨by omega,h4⟩]at this;cases this
 ·rw[h1];constructor
  ·intro _;obtain⟨h5,h6⟩:=(bu t s i).1 h3;exact⟨i,by omega,h6⟩
  ·intro _;omega
def bt (s:ON UInt8):Bool:=(((s==[])||decide ((s.length:Int)>64))||decide (((s.getD 0 0).toNat:Int)<97))||s.any λc=>!vz c.toNat
theorem Vr (s:ON UInt8):gZ s = !bt s:=by
 rw[MG];unfold gZ bt;simp only[NK,Lc,LA,NR,M2,ND,Lp,beq_eq_false_iff_ne,ON.any_eq_false];have get:∀i (h:i<s.length),s.getD i 0=s[i]:=λi h=>by rw[LB,LR h];rfl
 have inn:∀c:UInt8,¬ (vz c.toNat=false)↔(97<=c.toNat/\c.toNat<=122)∨(48<=c.toNat/\c.toNat<=57)∨c.toNat=95:=λc=>by unfold vz;simp;omega
 have ok:∀i (c:UInt8),XQ i c=true↔(97<=c.toNat/\c.toNat<=122)∨(i≠0/\((48<=c.toNat/\c.toNat<=57)∨c.toNat=95)):=λi c=>by unfold XQ bv Vs;simp
 constructor
 ·rintro⟨⟨h1,h2⟩,h3⟩;refine⟨⟨⟨λh=>by rw[h]at h2;simp at h2,by omega⟩,?_⟩,λc hc=>?_⟩
  ·have:=(ok _ _).1 (h1 0 (by omega));omega
  ·rw[inn];obtain⟨i,hi,rfl⟩:=KS.1 hc;have:=(ok _ _).1 (h1 i hi);rw[get i hi]at this;omega
 ·rintro⟨⟨⟨h1,h2⟩,h3⟩,h4⟩;have hl:0<s.length:=Hv.2 h1;refine⟨⟨λi hi=>?_,by omega⟩,by omega⟩;rw[ok,get i hi];have:=(inn _).1 (h4 s[i] (KQ hi));by_cases h0:i=0
  ·subst h0;rw[get 0 hi]at h3;omega
  ·omega
theorem br (s:ON UInt8):yO s=(!bt s&& !Hg resS (32::s++[32])):=by unfold yO;rw[Vr,lQ _ _ (by simp)]
end Go.Fo
namespace Go.Fo
open Go Go.Sx Go.Proofs
def vH (ts:ON Tm) (i:Nat):Tm:=(ts[i]?).getD ⟨0,[],0⟩
theorem Vq {ts:ON Tm}{t:Tm}(h:t∈ts):t.name.length<=bw ts:=by
 unfold bw;induction ts with
 |nil=>cases h
 |cons y r ih =>
  simp only[Mf,Jo];rcases MU.1 h with rfl|h
  ·omega
  ·have:=ih h;omega
theorem jm {bs:ON Bd}{t:Bd}(h:t∈bs):t.name.length<=fC bs:=by
 unfold fC;induction bs with
 |nil=>cases h
 |cons y r ih =>
  simp only[Mf,Jo];rcases MU.1 h with rfl|h
  ·omega
  ·have:=ih h;omega
theorem Fm.ts_len {f:Fm}(hf:f.wt<4611686018427387904):∀t∈f.ts,t.name.length<4611686018427387904:=λt ht=>by have:=Vq ht;have:=f.wt_eq;omega
theorem Fm.bs_len {f:Fm}(hf:f.wt<4611686018427387904):∀t∈f.bs,t.name.length<4611686018427387904:=λt ht=>by have:=jm ht;have:=f.wt_eq;omega
def pP (f:Fm):Bool :=if y7 f.kind then decide (f.ts.length=2)&&yC (vH f.ts 0)&&yC (vH f.ts 1)&&(if f.kind=9 then lm f.name else f.name==[]&&(vH f.ts 0).kind==2&&(vH f.ts 1).kind==2)else f.ts.isEmpty&&f.name==[]
def bindB (b:Bd):Bool:=yO b.name&&decide (1<=b.sort)&&decide (b.sort<=7)
def jl (f:Fm):Bool :=if yj f.kind then f.bs.all bindB&&decide (1<=f.bs.length)&&decide (f.bs.length<=6)&&(f.n==0||(xZ f.kind&&decide (0<f.n)&&decide (f.n<=1099511627776)))else f.bs.isEmpty&&f.n==0
section
variable {G:Nat->OK (ON D)}
end
section
def xx (f:Fm):Bool:=((f.l.length:Int)==yb f.kind)&&pP f&&jl f
mutual
def Fm.formB:Fm->Bool
 |.mk k s n ts bs l=>xx (.mk k s n ts bs l)&&Fm.formsB l
def Fm.formsB:ON Fm->Bool
 |[]=>true
 |x::r=>x.formB&&Fm.formsB r
end
theorem Fm.formB_eq (f:Fm):f.formB=(xx f&&Fm.formsB f.l):=by cases f;rw[Fm.formB];rfl
theorem uj (l:ON Fm):Fm.formsB l=l.all Fm.formB:=by
 induction l with
 |nil=>rw[Fm.formsB];rfl
 |cons x r ih=>rw[Fm.formsB,ih];rfl
def Fm.checkI (f:Fm):Int:=if f.formB then(if 256<f.rank∨24<f.depth then 2 else 0)else 1
section
variable {G:Nat->OK (ON D)}
end
end
end Go.Fo
namespace Go.Fo
open Go Go.Sx
def RY (k:Int):Int:=if k=11 then 12 else if k=12 then 11 else if k=14 then 15 else if k=15 then 14 else if k=16 then 17 else if k=17 then 16 else if k=1 then 2 else if k=2 then 1 else 0
def nil0:Fm:= .mk 0 [] 0 [] [] []
mutual
def Fm.right:Fm->Bool->Fm
 |.mk k s n ts bs l,t =>
  if(Ya (.mk k s n ts bs l)&&t||k==2&& !t)=true then .mk 2 [] 0 [] [] []
  else if(Ya (.mk k s n ts bs l)||k==2)=true then .mk 1 [] 0 [] [] []
  else if k=10 then(Fm.rights l (!t)).getD 0 nil0
  else if k=13 then .mk (if t then 11 else 12) [] 0 [] [] [(Fm.rights l (!t)).getD 0 nil0,(Fm.rights l t).getD 1 nil0]
  else if(y7 k&&t&&k != 9)=true then .mk 10 [] 0 [] [] [.mk k s n ts bs l]
  else .mk (if t&&k != 9 then RY k else k) (if t&&k==9 then RZ s else s) (if t&&k==16 then n - 1 else if t&&k==17 then n+1 else n) ts bs (Fm.rights l (t&& !xZ k))
def Fm.rights:ON Fm->Bool->ON Fm
 |[],_=>[]
 |x::r,t=>x.right t::Fm.rights r t
end
inductive Shape:Fm->Prop
 |const (k:Int) (hk:k=1∨k=2):Shape (.mk k [] 0 [] [] [])
 |atom (k:Int) (a b:Tm) (hk:k=3∨k=4∨k=5∨k=6∨k=7∨k=8) (ha:yC a=true) (hb:yC b=true) (ha2:a.kind=2) (hb2:b.kind=2):Shape (.mk k [] 0 [a,b] [] [])
 |cmp (s:ON UInt8) (a b:Tm) (hs:lm s=true) (ha:yC a=true) (hb:yC b=true):Shape (.mk 9 s 0 [a,b] [] [])
 |not (x:Fm) (hx:x.formB=true):Shape (.mk 10 [] 0 [] [] [x])
 |two (k:Int) (x y:Fm) (hk:k=11∨k=12∨k=13) (hx:x.formB=true) (hy:y.formB=true):Shape (.mk k [] 0 [] [] [x,y])
 |quant (k:Int) (bs:ON Bd) (x:Fm) (hk:k=14∨k=15) (hb:bs.all bindB=true) (h1:1<=bs.length) (h6:bs.length<=6) (hx:x.formB=true):Shape (.mk k [] 0 [] bs [x])
 |count (k n:Int) (bs:ON Bd) (x:Fm) (hk:k=16∨k=17) (h0:0<=n) (hn:n<=1099511627776) (hb:bs.all bindB=true) (h1:1<=bs.length) (h6:bs.length<=6) (hx:x.formB=true):Shape (.mk k [] n [] bs [x])
theorem SW {α:Type}{l:ON α}(h:l.length=1):∃x,l=[x]:=by
 match l,h with
 |[x],_=>exact⟨x,rfl⟩
theorem TP {α:Type}{l:ON α}(h:l.length=2):∃x y,l=[x,y]:=by
 match l,h with
 |[x,y],_=>exact⟨x,y,rfl⟩
theorem uK {f:Fm}(h:f.formB=true):Shape f:=by
 cases f with
 |mk k s n ts bs l =>
 rw[Fm.formB,uj]at h;simp only[xx,NK,beq_iff_eq,Nt,NU]at h;obtain⟨⟨⟨hl,ht⟩,hb⟩,hall⟩:=h;simp only[pP,NU,NH,NG]at ht;simp only[jl,NU,NJ,NA]at hb;have hc:k=1∨k=2∨(k=3∨k=4∨k=5∨k=6∨k=7∨k=8)∨k=9∨k=10∨(k=11∨k=12∨k=13)∨(k=14∨k=15)∨(k=16∨k=17):=by
  unfold yb at hl;simp only[y7,NK,NR]at hl;split at hl
  ·omega
  ·split at hl
   ·omega
   ·split at hl<;>omega
 rcases hc with hk|hk|hk|hk|hk|hk|hk|hk
 ·subst hk;simp[yb,y7,yj]at hl ht hb;obtain⟨rfl,rfl⟩:=ht;obtain⟨rfl,rfl⟩:=hb;subst hl;exact .const 1 (.inl rfl)
 ·subst hk;simp[yb,y7,yj]at hl ht hb;obtain⟨rfl,rfl⟩:=ht;obtain⟨rfl,rfl⟩:=hb;subst hl;exact .const 2 (.inr rfl)
 ·have h1:y7 k=true:=by simp only[y7,NK,NR];omega
  have h2:yj k=false:=by simp only[yj,Jt,M2];omega
  have h3:yb k=0:=by unfold yb;rw[N2 (by omega),N2 (by omega),Nf (.inr (.inr h1))]
  have h9:k≠9:=by omega
  rw[h3]at hl;simp[h1,h2,h9]at hl ht hb;obtain⟨rfl,rfl⟩:=hb;subst hl;obtain⟨⟨⟨h5,h6⟩,h7⟩,⟨rfl,h8⟩,h10⟩:=ht;obtain⟨a,b,rfl⟩:=TP (M3 h5);exact .atom k a b hk h6 h7 h8 h10
 ·subst hk;simp[yb,y7,yj]at hl ht hb;obtain⟨rfl,rfl⟩:=hb;subst hl;obtain⟨⟨⟨h5,h6⟩,h7⟩,h8⟩:=ht;obtain⟨a,b,rfl⟩:=TP (M3 h5);exact .cmp s a b h8 h6 h7
 ·subst hk;simp[yb,y7,yj]at ht hb;have hl':l.length=1:=by simp[yb]at hl;omega
  obtain⟨rfl,rfl⟩:=hb;obtain⟨rfl,rfl⟩:=ht;obtain⟨x,rfl⟩:=SW hl';simp at hall;exact .not x hall
 ·have h1:y7 k=false:=by simp only[y7,Jt,M2];omega
  have h2:yj k=false:=by simp only[yj,Jt,M2];omega
  have h3:yb k=2:=by unfold yb;rw[N2 (by omega),Nf hk]
  rw[h3]at hl;simp[h1,h2]at ht hb;obtain⟨rfl,rfl⟩:=hb;obtain⟨rfl,rfl⟩:=ht;obtain⟨x,y,rfl⟩:=TP (by omega:l.length=2);simp at hall;exact .two k x y hk hall.1 hall.2
 ·have h1:y7 k=false:=by simp only[y7,Jt,M2];omega
  have h2:yj k=true:=by simp only[yj,NK,NR];omega
  have h4:xZ k=false:=by simp only[xZ,LA,M2];omega
  have h3:yb k=1:=by unfold yb;rw[Nf (by omega)]
  rw[h3]at hl;simp only[h1,h2,h4,if_true,if_false,NK,NR,Bool.false_and,Bool.or_false,beq_iff_eq,G5,reduceCtorEq,LH]at ht hb;obtain⟨⟨⟨h5,h6⟩,h7⟩,rfl⟩:=hb;obtain⟨rfl,rfl⟩:=ht;obtain⟨x,rfl⟩:=SW (by omega:l.length=1);simp at hall;exact .quant k bs x hk h5 (M3 h6) (M3 h7) hall
 ·have h1:y7 k=false:=by simp only[y7,Jt,M2];omega
  have h2:yj k=true:=by simp only[yj,NK,NR];omega
  have h3:yb k=1:=by unfold yb;rw[Nf (by omega)]
  rw[h3]at hl;simp only[h1,h2,if_true,if_false,NK,L4,NR,beq_iff_eq,G5,reduceCtorEq,LH]at ht hb;obtain⟨⟨⟨h5,h6⟩,h7⟩,h8⟩:=hb;obtain⟨rfl,rfl⟩:=ht;obtain⟨x,rfl⟩:=SW (by omega:l.length=1);simp at hall;have h9:0<=n/\n<=1099511627776:=by
   rcases h8 with h8|⟨⟨_,h8⟩,h9⟩
   ·omega
   ·have:=M3 h8;have:=M3 h9;omega
  exact .count k n bs x hk h9.1 h9.2 h5 (M3 h6) (M3 h7) hall
end Go.Fo
namespace Go.Fo
open Go Go.Sx Go.Proofs
section
variable {G:Nat->OK (ON D)}
end
def uJ (f:Fm):ON D:=[.int .i64 f.kind,.str f.name,.int .i64 f.n,.sl (f.ts.map Nc),.sl (f.bs.map N3),.sl (f.l.map NX)]
theorem yK (f:Fm):f.d = .agg (uJ f):=f.d_eq
def gY (f:Fm):ON AV:=[.d (.int .i64 f.kind),.d (.str f.name),.d (.int .i64 f.n),.d (.sl (f.ts.map Nc)),.d (.sl (f.bs.map N3)),.d (.sl (f.l.map NX))]
def Sp (ds:ON D):AV:= .clo 216 [] [.iptr (ds.getD 0 default).cells]
section
variable {G:Nat->OK (ON D)}
theorem RX (f:Fm):PFnA Tryz.prog G 189 [.agg (uJ f)] (· = .clo 216 [] [.iptr (uJ f)]):=by
 refine PFnA.walk (fn:=Tryz.f189) (code:=z6 Tryz.f189) mixed L0 Tryz.func189 (by kernel_rfl) u3 ?_;apply @z7 _ (Ml (216:Nat) [] [Ma [OH Nq (NU f),NZ (NG f),OH Nq (NA f),OE (OM Nc (NH f)),OE (OM N3 (NJ f)),OE (OM NX (Nt f))]]=Ml (216:Nat) [] [Ma [OH Nq (NU f),NZ (NG f),OH Nq (NA f),OE (OM Nc (NH f)),OE (OM N3 (NJ f)),OE (OM NX (Nt f))]])
 ·kernel_rfl
 rfl
def c15:Np:=unScope (zz (z6 Tryz.f191) 0)
def tm15:ON AV:=[.any,.any,.any,.ptr 1 0,.any,.any,.any,.any,.any,.any]
def h15 (f0:Fm) (k:Int):ON Box:=[.cells 85 (gY f0),.cells 3 [.d (.int .i64 k)],.loop tm15 (ze c15) (zo c15) (zc c15) none .ready]
theorem RW (f0 x:Fm) (k:Int):Mo Tryz.prog G 2 [.d (.agg (uJ x))] (h15 f0 k) (λrs H'=>rs=[.bool true]/\H'=h15 f0 (Nl .i64 (k+1))):=by
 refine Mo.walk (tm:=tm15) (ps:=ze c15) (asn:=zo c15) (bd:=zc c15) mixed L0 rfl (by kernel_rfl) rfl rfl ⟨_,_,rfl,rfl⟩ (λ_=>nC (by kernel_rfl)) (λ_=>nC (by kernel_rfl)) ?_;apply @z7 _ ([OD true]=[OD true]/\[Ns (85:Nat) [OF (OH Nq (NU f0)),OF (NZ (NG f0)),OF (OH Nq (NA f0)),OF (OE (OM Nc (NH f0))),OF (OE (OM N3 (NJ f0))),OF (OE (OM NX (Nt f0)))],Ns (3:Nat) [OF (OH Nq (Nl Nq (k+(1:Int))))],M7 [OI,OI,OI,N5 (1:Nat) (0:Nat),OI,OI,OI,OI,OI,OI] (ze c15) (zo c15) (zc c15) none Mg]=[Ns (85:Nat) [OF (OH Nq (NU f0)),OF (NZ (NG f0)),OF (OH Nq (NA f0)),OF (OE (OM Nc (NH f0))),OF (OE (OM N3 (NJ f0))),OF (OE (OM NX (Nt f0)))],Ns (3:Nat) [OF (OH Nq (Nl Nq (k+(1:Int))))],M7 [OI,OI,OI,N5 (1:Nat) (0:Nat),OI,OI,OI,OI,OI,OI] (ze c15) (zo c15) (zc c15) none Mg])
 ·kernel_rfl
 exact⟨rfl,rfl⟩
theorem RU (f0 x:Fm) (k:Int) (h0:0<=k) (hk:k+x.rank<4611686018427387904):Nn Tryz.prog G 217 [.d x.d,.yld 2] (h15 f0 k) (λrs H'=>rs=[.bool true]/\H'=h15 f0 (k+x.rank)):=by
 induction x using KY generalizing k with
 |h x ih =>
 have hr:=x.rank_eq;rw[yK];refine zg (LL [(4,zT (α:=Nat) Tryz.prog G L0 3 (zz (z6 Tryz.f217) 0) [1,2,12,13] (λi=>i<=x.l.length) (λi=>x.l.length - i) (λi=>[(14,.d (.int .i64 i))]) (λH i=>h15 f0 (k+1+(MQ (x.l.take i):Int))++H.drop 3))]) Tryz.func217 rfl ⟨_,_,rfl,rfl⟩ (zm zy) ?_;apply @z7 _ (Mo Tryz.prog G (2:Nat) [OF (D.agg [OH Nq (NU x),NZ (NG x),OH Nq (NA x),OE (OM Nc (NH x)),OE (OM N3 (NJ x)),OE (OM NX (Nt x))])] [Ns (85:Nat) [OF (OH Nq (NU f0)),OF (NZ (NG f0)),OF (OH Nq (NA f0)),OF (OE (OM Nc (NH f0))),OF (OE (OM N3 (NJ f0))),OF (OE (OM NX (Nt f0)))],Ns (3:Nat) [OF (OH Nq k)],M7 [OI,OI,OI,N5 (1:Nat) (0:Nat),OI,OI,OI,OI,OI,OI] (ze c15) (zo c15) (zc c15) none Mg] λ(rs:ON D) (H':ON Box)=>∃(b:Bool),rs=[OD b]/\∃(n:Int)(s:ON UInt8)(n_1:Int)(l:ON D)(l_1:ON D)(l_2:ON D)(n_2:Int)(pend:OK Np)(st: NQ),H'=[Ns (85:Nat) [OF (OH Nq n),OF (NZ s),OF (OH Nq n_1),OF (OE l),OF (OE l_1),OF (OE l_2)],Ns (3:Nat) [OF (OH Nq n_2)],M7 [OI,OI,OI,N5 (1:Nat) (0:Nat),OI,OI,OI,OI,OI,OI] (ze c15) (zo c15) (zc c15) pend st]/\((!b)=true->[OD false]=[OD true]/\[Ns (85:Nat) [OF (OH Nq n),OF (NZ s),OF (OH Nq n_1),OF (OE l),OF (OE l_1),OF (OE l_2)],Ns (3:Nat) [OF (OH Nq n_2)],M7 [OI,OI,OI,N5 (1:Nat) (0:Nat),OI,OI,OI,OI,OI,OI] (ze c15) (zo c15) (zc c15) pend st]=[Ns (85:Nat) [OF (OH Nq (NU f0)),OF (NZ (NG f0)),OF (OH Nq (NA f0)),OF (OE (OM Nc (NH f0))),OF (OE (OM N3 (NJ f0))),OF (OE (OM NX (Nt f0)))],Ns (3:Nat) [OF (OH Nq (k+(↑(Jz x):Int)))],M7 [OI,OI,OI,N5 (1:Nat) (0:Nat),OI,OI,OI,OI,OI,OI] (ze c15) (zo c15) (zc c15) none Mg])/\((!b)=false->∃(x0:Nat),x0<=OJ (Nt x)/\((NE (2:Nat)=NE (2:Nat)/\N5 (3:Nat) (0:Nat)=N5 (3:Nat) (0:Nat)/\OM NX (Nt x)=OM NX (Nt x)/\(↑(OJ (OM NX (Nt x))):Int)=(↑(OJ (OM NX (Nt x))):Int)/\(0:Int)=(x0:Int)/\OG)/\(n=NU f0/\s=NG f0/\n_1=NA f0/\l=OM Nc (NH f0)/\l_1=OM N3 (NJ f0)/\l_2=OM NX (Nt f0)/\OG)/\(n_2=k+(1:Int) + (↑(MQ (NW x0 (Nt x))):Int)/\OG)/\M7 [OI,OI,OI,N5 (1:Nat) (0:Nat),OI,OI,OI,OI,OI,OI] (ze c15) (zo c15) (zc c15) pend st=M7 [OI,OI,OI,N5 (1:Nat) (0:Nat),OI,OI,OI,OI,OI,OI] (ze c15) (zo c15) (zc c15) none Mg/\(NU x=NU x/\NG x=NG x/\NA x=NA x/\OM Nc (NH x)=OM Nc (NH x)/\OM N3 (NJ x)=OM N3 (NJ x)/\OM NX (Nt x)=OM NX (Nt x)/\OG)/\OG)/\∀(x_1:Nat),x_1<=OJ (Nt x)->(decide ((x_1:Int)<(↑(OJ (OM NX (Nt x))):Int))=true->((0:Int)<=(x_1:Int)/\(OM NX (Nt x))[N1 (x_1:Int)]? = some (zk [NP Nq,NC,NP Nq,NB,NB,NB] (OM NX (Nt x)) (N1 (x_1:Int))))/\Nn Tryz.prog G (217:Nat) [OF (zk [NP Nq,NC,NP Nq,NB,NB,NB] (OM NX (Nt x)) (N1 (x_1:Int))),NE (2:Nat)] [Ns (85:Nat) [OF (OH Nq (NU f0)),OF (NZ (NG f0)),OF (OH Nq (NA f0)),OF (OE (OM Nc (NH f0))),OF (OE (OM N3 (NJ f0))),OF (OE (OM NX (Nt f0)))],Ns (3:Nat) [OF (OH Nq (k+(1:Int)+(↑(MQ (NW x_1 (Nt x))):Int)))],M7 [OI,OI,OI,N5 (1:Nat) (0:Nat),OI,OI,OI,OI,OI,OI] (ze c15) (zo c15) (zc c15) none Mg] λ(rs:ON D) (H':ON Box)=>∃(b:Bool),rs=[OD b]/\∃(n:Int)(s:ON UInt8)(n_3:Int)(l:ON D)(l_3:ON D)(l_4:ON D)(n_4:Int)(pend:OK Np)(st:NQ),H'=[Ns (85:Nat) [OF (OH Nq n),OF (NZ s),OF (OH Nq n_3),OF (OE l),OF (OE l_3),OF (OE l_4)],Ns (3:Nat) [OF (OH Nq n_4)],M7 [OI,OI,OI,N5 (1:Nat) (0:Nat),OI,OI,OI,OI,OI,OI] (ze c15) (zo c15) (zc c15) pend st]/\((!b)=true->[OD false]=[OD true]/\[Ns (85:Nat) [OF (OH Nq n),OF (NZ s),OF (OH Nq n_3),OF (OE l),OF (OE l_3),OF (OE l_4)],Ns (3:Nat) [OF (OH Nq n_4)],M7 [OI,OI,OI,N5 (1:Nat) (0:Nat),OI,OI,OI,OI,OI,OI] (ze c15) (zo c15) (zc c15) pend st]=[Ns (85:Nat) [OF (OH Nq (NU f0)),OF (NZ (NG f0)),OF (OH Nq (NA f0)),OF (OE (OM Nc (NH f0))),OF (OE (OM N3 (NJ f0))),OF (OE (OM NX (Nt f0)))],Ns (3:Nat) [OF (OH Nq (k+(↑(Jz x):Int)))],M7 [OI,OI,OI,N5 (1:Nat) (0:Nat),OI,OI,OI,OI,OI,OI] (ze c15) (zo c15) (zc c15) none Mg])/\((!b)=false->∃(y:Nat),y<=OJ (Nt x)/\OJ (Nt x) - y<OJ (Nt x) - x_1/\(NE (2:Nat)=NE (2:Nat)/\N5 (3:Nat) (0:Nat)=N5 (3:Nat) (0:Nat)/\OM NX (Nt x)=OM NX (Nt x)/\(↑(OJ (OM NX (Nt x))):Int)=(↑(OJ (OM NX (Nt x))):Int)/\Nl Nq ((x_1:Int)+(1:Int))=(y:Int)/\OG)/\(n = NU f0/\s=NG f0/\n_3=NA f0/\l=OM Nc (NH f0)/\l_3=OM N3 (NJ f0)/\l_4=OM NX (Nt f0)/\OG)/\(n_4=k+(1:Int)+(↑(MQ (NW y (Nt x))):Int)/\OG)/\M7 [OI,OI,OI,N5 (1:Nat) (0:Nat),OI,OI,OI,OI,OI,OI] (ze c15) (zo c15) (zc c15) pend st=M7 [OI,OI,OI,N5 (1:Nat) (0:Nat),OI,OI,OI,OI,OI,OI] (ze c15) (zo c15) (zc c15) none Mg/\(NU x=NU x/\NG x=NG x/\NA x=NA x/\OM Nc (NH x)=OM Nc (NH x)/\OM N3 (NJ x)=OM N3 (NJ x)/\OM NX (Nt x)=OM NX (Nt x)/\OG)/\OG))/\(decide ((x_1:Int)<(↑(OJ (OM NX (Nt x))):Int))=false->[OD true]=[OD true]/\[Ns (85:Nat) [OF (OH Nq (NU f0)),OF (NZ (NG f0)),OF (OH Nq (NA f0)),OF (OE (OM Nc (NH f0))),OF (OE (OM N3 (NJ f0))),OF (OE (OM NX (Nt f0)))],Ns (3:Nat) [OF (OH Nq (k+(1:Int)+(↑(MQ (NW x_1 (Nt x))):Int)))],M7 [OI,OI,OI,N5 (1:Nat) (0:Nat),OI,OI,OI,OI,OI,OI] (ze c15) (zo c15) (zc c15) none Mg]=[Ns (85:Nat) [OF (OH Nq (NU f0)),OF (NZ (NG f0)),OF (OH Nq (NA f0)),OF (OE (OM Nc (NH f0))),OF (OE (OM N3 (NJ f0))),OF (OE (OM NX (Nt f0)))],Ns (3:Nat) [OF (OH Nq (k+(↑(Jz x):Int)))],M7 [OI,OI,OI,N5 (1: Nat) (0:Nat),OI,OI,OI,OI,OI,OI] (ze c15) (zo c15) (zc c15) none Mg])))
 ·kernel_rfl
 refine(RW f0 x k).mono ?_;rintro rs H' ⟨rfl,rfl⟩;refine⟨true,rfl,_,_,_,_,_,_,_,_,_,rfl,λh=>No h (by decide),λ_=>⟨0,by omega,⟨⟨rfl,rfl,rfl,rfl,rfl,trivial⟩,⟨rfl,rfl,rfl,rfl,rfl,rfl,trivial⟩,⟨?_,trivial⟩,rfl,⟨rfl,rfl,rfl,rfl,rfl,rfl,trivial⟩,trivial⟩,λi hi=>⟨λhlt=>?_,λhge=>?_⟩⟩⟩
 ·rw[zu (by omega) (by omega)];simp[MQ]
 ·simp only[Nv,NR]at hlt;obtain⟨z,hz,hm⟩:=zt (l:=x.l) (x:=i) (by omega);rw[M1,uk hz];refine⟨⟨by omega,by simp[hz]⟩,?_⟩;have h1:=sL hz;have h2:=pj x.l (i+1);have h3:=mo x.l;refine(ih z hm _ (by omega) (by omega)).mono ?_;rintro rs H' ⟨rfl,rfl⟩;refine⟨true,rfl,_,_,_,_,_,_,_,_,_,rfl,λh=>No h (by decide),λ_=>⟨i+1,by omega,by omega,⟨rfl,rfl,rfl,rfl,?_,trivial⟩,⟨rfl,rfl,rfl,rfl,rfl,rfl,trivial⟩,⟨?_,trivial⟩,rfl,⟨rfl,rfl,rfl,rfl,rfl,rfl,trivial⟩,trivial⟩⟩
  ·rw[zu (by omega) (by omega)];simp
  ·rw[h1];omega
 ·simp only[Nv,M2]at hge;rw[ON.take_of_length_le (by omega)];have e:k+1+(MQ x.l:Int)=k+x.rank:=by omega
  rw[e];exact⟨rfl,rfl⟩
theorem RT (f0 x:Fm) (k:Int) (h0:0<=k) (hk:k+x.rank<4611686018427387904):Nn Tryz.prog G 216 [.yld 2,.iptr (uJ x)] (h15 f0 k) (λ_ H'=>H'=h15 f0 (k+x.rank)):=by
 refine zF Tryz.func216 rfl ⟨[],_,rfl⟩ ?_;apply @z7 _ (Nn Tryz.prog G (217:Nat) [OF (D.agg [OH Nq (NU x),NZ (NG x),OH Nq (NA x),OE (OM Nc (NH x)),OE (OM N3 (NJ x)),OE (OM NX (Nt x))]),NE (2:Nat)] [Ns (85:Nat) [OF (OH Nq (NU f0)),OF (NZ (NG f0)),OF (OH Nq (NA f0)),OF (OE (OM Nc (NH f0))),OF (OE (OM N3 (NJ f0))),OF (OE (OM NX (Nt f0)))],Ns (3:Nat) [OF (OH Nq k)],M7 [OI,OI,OI,N5 (1:Nat) (0:Nat),OI,OI,OI,OI,OI,OI] (ze c15) (zo c15) (zc c15) none Mg] λ(rs:ON D) (H':ON Box)=>∃(b:Bool),rs=[OD b]/\∃(n:Int)(s:ON UInt8)(n_1:Int)(l:ON D)(l_1:ON D)(l_2:ON D)(n_2:Int)(pend: OK Np)(st:NQ),H'=[Ns (85:Nat) [OF (OH Nq n),OF (NZ s),OF (OH Nq n_1),OF (OE l),OF (OE l_1),OF (OE l_2)],Ns (3:Nat) [OF (OH Nq n_2)],M7 [OI,OI,OI,N5 (1:Nat) (0:Nat),OI,OI,OI,OI,OI,OI] (ze c15) (zo c15) (zc c15) pend st]/\[Ns (85:Nat) [OF (OH Nq n),OF (NZ s),OF (OH Nq n_1),OF (OE l),OF (OE l_1),OF (OE l_2)],Ns (3:Nat) [OF (OH Nq n_2)],M7 [OI,OI,OI,N5 (1:Nat) (0:Nat),OI,OI,OI,OI,OI,OI] (ze c15) (zo c15) (zc c15) pend st]=[Ns (85:Nat) [OF (OH Nq (NU f0)),OF (NZ (NG f0)),OF (OH Nq (NA f0)),OF (OE (OM Nc (NH f0))),OF (OE (OM N3 (NJ f0))),OF (OE (OM NX (Nt f0)))],Ns (3:Nat) [OF (OH Nq (k+(↑(Jz x):Int)))],M7 [OI,OI,OI,N5 (1:Nat) (0:Nat),OI,OI,OI,OI,OI,OI] (ze c15) (zo c15) (zc c15) none Mg])
 ·kernel_rfl
 have h:=RU (G:=G) f0 x k h0 hk;rw[yK]at h;refine h.mono ?_;rintro rs H' ⟨rfl,rfl⟩;exact⟨true,rfl,_,_,_,_,_,_,_,_,_,rfl,rfl⟩
theorem QG (f:Fm) (hf:f.rank<4611686018427387904):OB Tryz.prog G 191 [f.d] (· = [.int .i64 f.rank]):=by
 rw[f.d_eq];refine zr (LL [(1000002,vI Tryz.prog G [3] Sp c15)]) Tryz.func191 ⟨_,rfl⟩ (zm (yL (by kernel_rfl))) ?_;apply @z7 _ ((PFnA Tryz.prog G (189:Nat) [D.agg [OH Nq (NU f),NZ (NG f),OH Nq (NA f),OE (OM Nc (NH f)),OE (OM N3 (NJ f)),OE (OM NX (Nt f))]] λ(av:AV)=>av=Ml (216:Nat) [] [Ma [OH Nq (NU f),NZ (NG f),OH Nq (NA f),OE (OM Nc (NH f)),OE (OM N3 (NJ f)),OE (OM NX (Nt f))]])/\Nn Tryz.prog G (216:Nat) [NE (2:Nat),Ma [OH Nq (NU f),NZ (NG f),OH Nq (NA f),OE (OM Nc (NH f)),OE (OM N3 (NJ f)),OE (OM NX (Nt f))]] [Ns (85:Nat) [OF (OH Nq (NU f)),OF (NZ (NG f)),OF (OH Nq (NA f)),OF (OE (OM Nc (NH f))),OF (OE (OM N3 (NJ f))),OF (OE (OM NX (Nt f)))],Ns (3:Nat) [OF (OH Nq (0:Int))],M7 [OI,OI,OI,N5 (1:Nat) (0:Nat),OI,OI,OI,OI,OI,OI] (ze c15) (zo c15) (zc c15) none Mg] λ(x:ON D) (H':ON Box)=>∃(n:Int)(s:ON UInt8)(n_1:Int)(l:ON D)(l_1:ON D)(l_2:ON D)(n_2:Int)(pend:OK Np)(st:NQ),H'=[Ns (85:Nat) [OF (OH Nq n),OF (NZ s),OF (OH Nq n_1),OF (OE l),OF (OE l_1),OF (OE l_2)],Ns (3:Nat) [OF (OH Nq n_2)],M7 [OI,OI,OI,N5 (1:Nat) (0:Nat),OI,OI,OI,OI,OI,OI] (ze c15) (zo c15) (zc c15) pend st]/\st≠J3/\(pend=none/\[OH Nq n_2]=[OH Nq (↑(Jz f): Int)]∨pend=some Np.ret/\[OH Nq (0:Int)]=[OH Nq (↑(Jz f):Int)]∨pend=some (Np.exit (aa c15))/\[OH Nq n_2]=[OH Nq (↑(Jz f):Int)]))
 ·kernel_rfl
 refine⟨RX f,?_⟩;refine(RT f f 0 (by omega) (by omega)).mono ?_;rintro rs H' rfl;exact⟨_,_,_,_,_,_,_,_,_,rfl,by decide,.inl ⟨rfl,by simp⟩⟩
end
end Go.Fo
namespace Go.Proofs
open Go.Shelf
def Tryz.lays160_ren:Gn:=⟨λ|160=>251|232=>266|231=>265|227=>267|234=>269|233=>268|236=>271|235=>270|228=>275|271=>278|151=>277|197=>276|120=>281|152=>280|260=>279|137=>282|119=>283|224=>214|225=>213|217=>212|266=>248|n=>n,λ|9=>9|4=>4|3=>3|5=>5|117=>302|116=>301|0=>0|124=>305|21=>21|105=>309|46=>231|119=>315|139=>318|138=>317|n=>n,λ|3=>12|4=>13|n=>n⟩
theorem Tryz.lays160:Am Tryz.prog Tryz.lays160_ren:= {
 mixed:=by kernel_rfl
 f119:=Tryz.func283.trans (Mz some (by kernel_rfl))
 f120:=Tryz.func281.trans (Mz some (by kernel_rfl))
 f137:=Tryz.func282.trans (Mz some (by kernel_rfl))
 f151:=Tryz.func277.trans (Mz some (by kernel_rfl))
 f152:=Tryz.func280.trans (Mz some (by kernel_rfl))
 f160:=Tryz.func251.trans (Mz some (by kernel_rfl))
 f197:=Tryz.func276.trans (Mz some (by kernel_rfl))
 f217:=Tryz.func212.trans (Mz some (by kernel_rfl))
 f224:=Tryz.func214.trans (Mz some (by kernel_rfl))
 f225:=Tryz.func213.trans (Mz some (by kernel_rfl))
 f227:=Tryz.func267.trans (Mz some (by kernel_rfl))
 f228:=Tryz.func275.trans (Mz some (by kernel_rfl))
 f231:=Tryz.func265.trans (Mz some (by kernel_rfl))
 f232:=Tryz.func266.trans (Mz some (by kernel_rfl))
 f233:=Tryz.func268.trans (Mz some (by kernel_rfl))
 f234:=Tryz.func269.trans (Mz some (by kernel_rfl))
 f235:=Tryz.func270.trans (Mz some (by kernel_rfl))
 f236:=Tryz.func271.trans (Mz some (by kernel_rfl))
 f260:=Tryz.func279.trans (Mz some (by kernel_rfl))
 f266:=Tryz.func248.trans (Mz some (by kernel_rfl))
 f271:=Tryz.func278.trans (Mz some (by kernel_rfl))
 t0:=Tryz.underlying0
 a0:=Tryz.isAgg0
 z0:=Tryz.sizeOf0
 v0:=Tryz.zeroValue0
 t3:=Tryz.underlying3
 a3:=Tryz.isAgg3
 z3:=Tryz.sizeOf3
 v3:=Tryz.zeroValue3
 t4:=Tryz.underlying4
 a4:=Tryz.isAgg4
 z4:=Tryz.sizeOf4
 v4:=Tryz.zeroValue4
 t5:=Tryz.underlying5
 a5:=Tryz.isAgg5
 z5:=Tryz.sizeOf5
 v5:=Tryz.zeroValue5
 t9:=Tryz.underlying9
 a9:=Tryz.isAgg9
 z9:=Tryz.sizeOf9
 v9:=Tryz.zeroValue9
 t21:=Tryz.underlying21
 a21:=Tryz.isAgg21
 z21:=Tryz.sizeOf21
 v21:=Tryz.zeroValue21
 t46:=Tryz.underlying231
 a46:=Tryz.isAgg231
 z46:=Tryz.sizeOf231
 v46:=Tryz.zeroValue231
 t105:=Tryz.underlying309
 a105:=Tryz.isAgg309
 z105:=Tryz.sizeOf309
 v105:=Tryz.zeroValue309
 t116:=Tryz.underlying301
 a116:=Tryz.isAgg301
 z116:=Tryz.sizeOf301
 t117:=Tryz.underlying302
 a117:=Tryz.isAgg302
 z117:=Tryz.sizeOf302
 v117:=Tryz.zeroValue302
 t119:=Tryz.underlying315
 a119:=Tryz.isAgg315
 z119:=Tryz.sizeOf315
 t124:=Tryz.underlying305
 a124:=Tryz.isAgg305
 z124:=Tryz.sizeOf305
 v124:=Tryz.zeroValue305
 t138:=Tryz.underlying317
 a138:=Tryz.isAgg317
 z138:=Tryz.sizeOf317
 v138:=Tryz.zeroValue317
 t139:=Tryz.underlying318
 a139:=Tryz.isAgg318
 z139:=Tryz.sizeOf318
 v139:=Tryz.zeroValue318
 g3:=by kernel_rfl
 g4:=by kernel_rfl }
def Tryz.lays171_ren:Gn:=⟨λ|171=>147|243=>185|246=>211|283=>244|284=>245|285=>246|286=>247|129=>239|317=>261|318=>262|319=>263|320=>264|337=>273|338=>274|n=>n,λ|3=>3|9=>9|2=>2|4=>4|171=>280|0=>0|53=>279|37=>282|5=>5|173=>283|212=>297|51=>277|20=>20|213=>298|46=>231|232=>312|233=>313|n=>n,λ|17=>9|18=>10|19=>11|n=>n⟩
theorem Tryz.lays171:Al Tryz.prog Tryz.lays171_ren:= {
 mixed:=by kernel_rfl
 f129:=Tryz.func239.trans (Mz some (by kernel_rfl))
 f171:=Tryz.func147.trans (Mz some (by kernel_rfl))
 f243:=Tryz.func185.trans (Mz some (by kernel_rfl))
 f246:=Tryz.func211.trans (Mz some (by kernel_rfl))
 f283:=Tryz.func244.trans (Mz some (by kernel_rfl))
 f284:=Tryz.func245.trans (Mz some (by kernel_rfl))
 f285:=Tryz.func246.trans (Mz some (by kernel_rfl))
 f286:=Tryz.func247.trans (Mz some (by kernel_rfl))
 f317:=Tryz.func261.trans (Mz some (by kernel_rfl))
 f318:=Tryz.func262.trans (Mz some (by kernel_rfl))
 f319:=Tryz.func263.trans (Mz some (by kernel_rfl))
 f320:=Tryz.func264.trans (Mz some (by kernel_rfl))
 f337:=Tryz.func273.trans (Mz some (by kernel_rfl))
 f338:=Tryz.func274.trans (Mz some (by kernel_rfl))
 t0:=Tryz.underlying0
 a0:=Tryz.isAgg0
 z0:=Tryz.sizeOf0
 v0:=Tryz.zeroValue0
 t2:=Tryz.underlying2
 a2:=Tryz.isAgg2
 z2:=Tryz.sizeOf2
 v2:=Tryz.zeroValue2
 t3:=Tryz.underlying3
 a3:=Tryz.isAgg3
 z3:=Tryz.sizeOf3
 v3:=Tryz.zeroValue3
 t4:=Tryz.underlying4
 a4:=Tryz.isAgg4
 z4:=Tryz.sizeOf4
 v4:=Tryz.zeroValue4
 t5:=Tryz.underlying5
 a5:=Tryz.isAgg5
 z5:=Tryz.sizeOf5
 v5:=Tryz.zeroValue5
 t9:=Tryz.underlying9
 a9:=Tryz.isAgg9
 z9:=Tryz.sizeOf9
 v9:=Tryz.zeroValue9
 t20:=Tryz.underlying20
 a20:=Tryz.isAgg20
 z20:=Tryz.sizeOf20
 v20:=Tryz.zeroValue20
 t37:=Tryz.underlying282
 a37:=Tryz.isAgg282
 z37:=Tryz.sizeOf282
 v37:=Tryz.zeroValue282
 t46:=Tryz.underlying231
 a46:=Tryz.isAgg231
 z46:=Tryz.sizeOf231
 v46:=Tryz.zeroValue231
 t51:=Tryz.underlying277
 a51:=Tryz.isAgg277
 z51:=Tryz.sizeOf277
 v51:=Tryz.zeroValue277
 t53:=Tryz.underlying279
 a53:=Tryz.isAgg279
 z53:=Tryz.sizeOf279
 v53:=Tryz.zeroValue279
 t171:=Tryz.underlying280
 a171:=Tryz.isAgg280
 z171:=Tryz.sizeOf280
 v171:=Tryz.zeroValue280
 t173:=Tryz.underlying283
 a173:=Tryz.isAgg283
 z173:=Tryz.sizeOf283
 v173:=Tryz.zeroValue283
 t212:=Tryz.underlying297
 a212:=Tryz.isAgg297
 z212:=Tryz.sizeOf297
 v212:=Tryz.zeroValue297
 t213:=Tryz.underlying298
 a213:=Tryz.isAgg298
 z213:=Tryz.sizeOf298
 t232:=Tryz.underlying312
 a232:=Tryz.isAgg312
 z232:=Tryz.sizeOf312
 v232:=Tryz.zeroValue312
 t233:=Tryz.underlying313
 a233:=Tryz.isAgg313
 z233:=Tryz.sizeOf313
 v233:=Tryz.zeroValue313
 g17:=by kernel_rfl
 g18:=by kernel_rfl
 g19:=by kernel_rfl }
theorem Tryz.strconv_Itoa_small (i:Nat) (hi:i<100) (w:N4): Ku Tryz.prog 147 #[.int .i64 i] w λe w'=>e = .returned (.string ⟨(Lib.decDigits i).toArray⟩)/\w'=w:=Any.strconv_Itoa_small Tryz.lays171 i hi w
def Tryz.lays144_ren:Gn:=⟨λ|144=>110|143=>149|219=>187|217=>212|225=>213|224=>214|267=>215|266=>248|314=>249|n=>n,λ|9=>9|4=>4|3=>3|5=>5|46=>231|146=>285|51=>277|n=>n,λ|1=>4|n=>n⟩
theorem Tryz.lays144:Ak Tryz.prog Tryz.lays144_ren:= {
 mixed:=by kernel_rfl
 f143:=Tryz.func149.trans (Mz some (by kernel_rfl))
 f144:=Tryz.func110.trans (Mz some (by kernel_rfl))
 f217:=Tryz.func212.trans (Mz some (by kernel_rfl))
 f219:=Tryz.func187.trans (Mz some (by kernel_rfl))
 f224:=Tryz.func214.trans (Mz some (by kernel_rfl))
 f225:=Tryz.func213.trans (Mz some (by kernel_rfl))
 f266:=Tryz.func248.trans (Mz some (by kernel_rfl))
 f267:=Tryz.func215.trans (Mz some (by kernel_rfl))
 f314:=Tryz.func249.trans (Mz some (by kernel_rfl))
 t3:=Tryz.underlying3
 a3:=Tryz.isAgg3
 z3:=Tryz.sizeOf3
 v3:=Tryz.zeroValue3
 t4:=Tryz.underlying4
 a4:=Tryz.isAgg4
 z4:=Tryz.sizeOf4
 v4:=Tryz.zeroValue4
 t5:=Tryz.underlying5
 a5:=Tryz.isAgg5
 z5:=Tryz.sizeOf5
 v5:=Tryz.zeroValue5
 t9:=Tryz.underlying9
 a9:=Tryz.isAgg9
 z9:=Tryz.sizeOf9
 v9:=Tryz.zeroValue9
 t46:=Tryz.underlying231
 a46:=Tryz.isAgg231
 z46:=Tryz.sizeOf231
 v46:=Tryz.zeroValue231
 t51:=Tryz.underlying277
 a51:=Tryz.isAgg277
 z51:=Tryz.sizeOf277
 v51:=Tryz.zeroValue277
 t146:=Tryz.underlying285
 a146:=Tryz.isAgg285
 z146:=Tryz.sizeOf285
 v146:=Tryz.zeroValue285
 g1:=by kernel_rfl }
theorem Tryz.strings_Contains (s sub:NS) (m:Int) (w:N4) (hs:s.size<4294967281) (hm:w.cell? ⟨4,0,none⟩=some (.int .i64 m)): Ku Tryz.prog 110 #[.string s,.string sub] w λe w'=>e = .returned (.bool (Hg s.data.toList sub.data.toList))/\w'=w:=Any.strings_Contains Tryz.lays144 s sub m w hs hm
end Go.Proofs
namespace Go.Proofs
open Go.Shelf
def Tryz.laysGw17_ren:Gn:=⟨λ|17=>109|15=>148|20=>186|n=>n,λ|9=>9|23=>188|4=>4|3=>3|0=>0|21=>21|n=>n,λ|n=>n⟩
theorem Tryz.laysGw17:Ao Tryz.prog Tryz.laysGw17_ren:= {
 mixed:=by kernel_rfl
 f15:=Tryz.func148.trans (Mz some (by kernel_rfl))
 f17:=Tryz.func109.trans (Mz some (by kernel_rfl))
 f20:=Tryz.func186.trans (Mz some (by kernel_rfl))
 t0:=Tryz.underlying0
 a0:=Tryz.isAgg0
 z0:=Tryz.sizeOf0
 v0:=Tryz.zeroValue0
 i0:=by kernel_rfl
 t3:=Tryz.underlying3
 a3:=Tryz.isAgg3
 z3:=Tryz.sizeOf3
 v3:=Tryz.zeroValue3
 i3:=by kernel_rfl
 t4:=Tryz.underlying4
 a4:=Tryz.isAgg4
 z4:=Tryz.sizeOf4
 v4:=Tryz.zeroValue4
 i4:=by kernel_rfl
 t9:=Tryz.underlying9
 a9:=Tryz.isAgg9
 z9:=Tryz.sizeOf9
 v9:=Tryz.zeroValue9
 i9:=by kernel_rfl
 t21:=Tryz.underlying21
 a21:=Tryz.isAgg21
 z21:=Tryz.sizeOf21
 v21:=Tryz.zeroValue21
 i21:=by kernel_rfl
 t23:=Tryz.underlying188
 a23:=Tryz.isAgg188
 z23:=Tryz.sizeOf188
 v23:=Tryz.zeroValue188
 i23:=by kernel_rfl }
open Go.RowKit Go.Lib in
theorem Tryz.strings_ContainsFunc_grows (g:Nat) (lb:OC Value) (eg:∀args w,(callFunc g args).run Tryz.prog w = .ok (.enter g args) w) (p:Nat->Bool) (s:NS) (w:N4) (hp:PredGrows Tryz.prog g lb p w): Ku Tryz.prog 109 #[.string s,.func (.func g) #[] lb] w λe w'=>e = .returned (.bool (decide (0<=EL p true s)))/\Below w.heap.size w w':=Any.strings_ContainsFunc_grows Tryz.laysGw17 g lb eg p s w hp
end Go.Proofs
namespace Go.Fo
open Go
theorem YY {s:NS}{i:Nat}(h:(s.get! i).toNat<128):GZ s i=((s.get! i).toNat,1):=by unfold GZ;simp only[Jm];rw[Nf h]
theorem Vp {s:NS}{i:Nat}(h:¬ (s.get! i).toNat<128):128<=(GZ s i).1:=by
 unfold GZ;simp only[Jm];rw[N2 h];repeat' split
 all_goals first
  |(simp only[Utf8.runeError];omega)
  |(rename_i h1;simp only[NK,NR]at h1;simp only;omega)
  |(simp only;omega)
theorem gX {p:Nat->Bool}(hp:∀r,128<=r->p r=true) (s:NS):∀(f pos:Nat),s.size<=pos+f->(0<=Et p true s f pos↔ ∃i,pos<=i/\i<s.size/\p (s.get! i).toNat=true)
 |0,pos,h=>by
  simp only[Et];constructor
  ·intro h;omega
  ·rintro⟨i,h1,h2,_⟩;omega
 |f+1,pos,h=>by
  simp only[Et];split
  ·rename_i hlt;split
   ·rename_i hq;constructor
    ·intro _;refine⟨pos,MS _,hlt,?_⟩;by_cases hb:(s.get! pos).toNat<128
     ·rw[YY hb]at hq;exact hq
     ·exact hp _ (by omega)
    ·intro _;omega
   ·rename_i hq;have hb:(s.get! pos).toNat<128:=by
     rcases M0 (s.get! pos).toNat 128 with h' |h'
     ·exact h'
     ·exact No (hp _ (Vp (by omega))) hq
    rw[YY hb]at hq ⊢;rw[gX hp s f (pos+1) (by omega)];constructor
    ·rintro⟨i,h1,h2,h3⟩;exact⟨i,by omega,h2,h3⟩
    ·rintro⟨i,h1,h2,h3⟩;refine⟨i,?_,h2,h3⟩;rcases M0 pos i with h' |h'
     ·omega
     ·have:i=pos:=by omega
      subst this;exact No h3 hq
  ·rename_i hge;constructor
   ·intro h;omega
   ·rintro⟨i,h1,h2,_⟩;omega
theorem bq (s:ON UInt8) (i:Nat):(⟨s.toArray⟩:NS).get! i=s.getD i 0:=by show(s.toArray).getD i default=_;rw[Lk,ON.getElem?_toArray,LB];rfl
theorem TO {p:Nat->Bool}(hp:∀r,128<=r->p r=true) (s:ON UInt8):decide (0<=EL p true ⟨s.toArray⟩)=s.any λc=>p c.toNat:=by
 rw[MG,NR,Jb];unfold EL;have hsz:(⟨s.toArray⟩:NS).size=s.length:=by show s.toArray.size=_;simp
 rw[gX hp _ _ _ (by omega),hsz];constructor
 ·rintro⟨i,_,h2,h3⟩;rw[bq]at h3;have:s.getD i 0=s[i]:=by rw[LB,LR h2];rfl
  rw[this]at h3;exact⟨s[i],KQ h2,h3⟩
 ·rintro⟨c,hc,h3⟩;obtain⟨i,hi,he⟩:=KS.1 hc;refine⟨i,Nat.zero_le _,hi,?_⟩;have:s.getD i 0=s[i]:=by rw[LB,LR hi];rfl
  rw[bq,this,he];exact h3
end Go.Fo
