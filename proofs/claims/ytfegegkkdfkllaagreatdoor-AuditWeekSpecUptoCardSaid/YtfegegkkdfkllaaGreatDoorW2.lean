/- Joined texts: the walk by computed conditions, the contracts of the functions, the plain laws. -/
import Derived.Test.YtfegegkkdfkllaaGreatDoorW1
import Derived.Deep.LoopGhost
import Derived.RangeFuncRecord
import Derived.Below
import Derived.Test.YtfegegkkdfkllaaGreatDoorProg
import Derived.Lib.IndexMore
set_option linter.unusedVariables false
set_option linter.unusedSimpArgs false
set_option maxRecDepth 100000
set_option maxHeartbeats 0
noncomputable section
open Array renaming all_eq_true_iff_forall_mem->zzL,getD_eq_getD_getElem?->FN,getElem?_eq_none->Ch,getElem?_setIfInBounds->EW,getElem?_toList->Du,mem_of_getElem?->C2,replicate->GQ,toList->Gx
open Bool renaming and_eq_false_iff->FH,and_eq_true->HC,eq_false_or_eq_true->zzI,eq_iff_iff->Ge,false_and->Dp,false_eq_true->FU,false_or->FD,not_eq_false'->C5,not_eq_true'->Fe,not_true->El,or_eq_false_iff->E3,or_eq_true->F9,true_and->EB
open ByteArray renaming data->Gy,mk->Gu
open Classical renaming em->EA
open Go renaming Act->HA,Calls->Ef,Code->He,Deferred->Co,Exit->GW,Func->Fs,FuncId->Fp,IntKind->IF,LoopState->HJ,Oper->Hp,Operand->G1,Program->HP,ResultVar->zzp,World->H5
open Go.Code renaming region->AH
open Go.Ending renaming returned->zyp
open Go.Exit renaming inBlock->zwg
open Go.Instr renaming extract->C9,storeAt->Dl,sureAddr->DL
open Go.IntKind renaming wrap->Hr
open Go.Lib renaming contains->BK
open Go.Oper renaming semAt_eq->EC,uponIn->AG,uponIn_value->zxI
open Go.Region renaming binds->Ed,ready->Ek,wanted->Fr
open Go.Result renaming andThen_ok->Gm
open Go.Sem renaming run_bind->Gk,run_pure->GF
open Go.Sx renaming Ext->Hs,PCall->HY,PFn->IK,Rep->G9
open Go.Sx.AV renaming opt->Cp,ptr->IA,under->EM
open Go.Sx.Box renaming under->ET
open Go.Sx.Cx renaming grow->zzc,take->zza
open Go.Sx.D renaming bool->IL,cells->Gq,int->IP,str->HW,toInt->Hf
open Go.Sx.Ext renaming drew->FB,refl->Fq,take->DU
open Go.Sx.R1 renaming bool->EZ
open Go.Sx.RA renaming any->Di
open Go.Sx.Sh renaming int->HX,sl->HK,str->HI
open Go.Sx.i7 renaming nil->CK
open Go.Sx.zl renaming grow->Ct,refl->GV
open Go.Sx.zy renaming cons->Gw,nil->Ga,zero->CN
open Go.Value renaming func->BE
open Go.World renaming cell?->Ec,putObj_heap_other->zzF
open Int renaming toNat->IJ,toNat_natCast->HF
open List renaming all->F0,all_append->Fb,all_eq_false->D3,all_eq_true->G3,any_eq_true->Dr,append->D9,contains_iff_mem->Dt,countP_cons->B1,countP_le_length->C3,countP_pos_iff->Bc,drop->GM,drop_eq_nil_of_le->Fx,eq_nil_iff_forall_not_mem->Aw,ext_getElem?->DO,filterMap_cons_none->zxX,filterMap_cons_some->CF,filter_sublist->zzB,getD->DF,getD_eq_getElem?_getD->Es,getElem?_eq_none->Gt,getElem?_map->G5,getElem?_set->E4,getElem?_take->Fa,getElem_mem->ED,getLast?_eq_some_iff->zxa,isEmpty_iff->zyw,length->IR,length_cons->F2,length_map->H4,length_nil->FL,length_pos_iff->Bb,length_take->FS,map->IT,mapM_cons->Db,map_cons->Gb,mem_append->FK,mem_cons->F5,mem_filter->FE,mem_filterMap->zxL,mem_map->Gd,mem_of_getElem?->GS,mem_or_eq_of_mem_set->zxb,mem_range->Fz,nodup_cons->EO,nodup_range->zyx,pairwise_cons->zy0,range'->Dk,range'_succ->zyy,range->Gp,range_eq_range'->Ap,replicate->G8,sum_cons->DZ,tail->zx0,take->HZ,take_add_one->GN,take_length->FR,take_of_length_le->Gs,take_succ_cons->FM
open List.Nodup renaming sublist->Aj
open List.Pairwise renaming nil->zuh
open Nat renaming beq->Dy,eq_of_beq_eq_true->Bf,le_of_lt->zyW,le_refl->GE,le_trans->EN,lt_irrefl->DJ,lt_of_lt_of_le->F4,lt_or_ge->G4,lt_trichotomy->zy5,strongRecOn->zyr,zero_add->E6
open Option renaming getD->IB,getD_some->FT,isSome_iff_exists->DQ,map_some->Fi
open Option.some renaming injEq->Er
open _root_ renaming Array->IG,False->HD,List->IU,Option->IQ,True->IN,absurd->Hu,congrArg->Gv,decide_eq_false_iff_not->HH,decide_eq_true_eq->HS,if_neg->IE,if_pos->Hv,of_decide_eq_true->G0
namespace Go.Sx
open Go
theorem nodupB_spec:∀{l:IU Nat},nodupB l=true->l.Nodup
 |[],_=>IU.nodup_nil
 |x::r,h=>by simp only[nodupB,HC,Fe]at h;refine EO.2 ⟨λhm=>?_,nodupB_spec h.2⟩;have:=h.1;simp only[Dt.2 hm]at this;cases this
structure DOk (ops:IG Hp):Prop where
 nodup:(ops.toList.filterMap (·.dst)).Nodup
 edges:∀j o,ops[j]? = some o->∀e∈o.after.toList,Ed .any e=true->e.on<j
 allocs:∀j o,ops[j]? = some o->j<zi ops->isAllocO o.op=true->o.guard=none/\∃d,o.dst=some d
 ord:vN ops (sI ops) (ny ops) []=true
theorem yu {ops:IG Hp}{i:Nat}{o:Hp}(h:ops[i]? = some o):zm ops i=o:=by simp[zm,FN,h]
theorem zb {ops:IG Hp}{i:Nat}(h:i<ops.size):ops[i]? = some (zm ops i):=by simp[zm,FN,h]
theorem zL {ops:IG Hp}{i:Nat}{o:Hp}(h:ops[i]? = some o):i<ops.size:=by
 rcases G4 i ops.size with h' |h'
 ·exact h'
 ·simp[Ch h']at h
theorem xo (ops:IG Hp):zi ops<=ops.size:=by unfold zi;have:=IU.findIdx_le_length (p:=λ(o:Hp)=>isTail o.op) (xs:=ops.toList);simpa using this
theorem sf {ops:IG Hp}{i:Nat}{o:Hp}(ho:ops[i]? = some o) (hi:i<zi ops):isTail o.op=false:=by
 have h:=IU.not_of_lt_findIdx (p:=λ(o:Hp)=>isTail o.op) (xs:=ops.toList) (i:=i) hi;have e:ops.toList[i]'(by have:=xo ops;simp;omega)=o:=by have:=zL ho;simp[this]at ho;simpa using ho
 rw[e]at h;exact h
theorem Yg {ops:IG Hp}(h:kj ops=true):DOk ops:=by
 simp only[kj,HC]at h;obtain⟨⟨⟨⟨h1,h2⟩,h3⟩,h4⟩,h5⟩:=h;refine⟨nodupB_spec h1,λj o ho e he hb=>?_,λj o ho hj ha=>?_,h5⟩
 ·have:=G3.1 h2 j (by simp;exact zL ho);rw[yu ho]at this;have:=G3.1 this e he;simpa[hb]using this
 ·have:=G3.1 h4 j (by simpa using hj);rw[yu ho]at this;simp only[ha,El,FD,HC]at this;exact⟨by simpa using this.1,DQ.1 this.2⟩
theorem bj {ops:IG Hp}(h:kj ops=true):∀j,j<ops.size->zi ops<=j->∀i,i<j->xU ops j i=true:=by
 simp only[kj,HC]at h;obtain⟨⟨⟨⟨h1,h2⟩,h3⟩,h4⟩,h5⟩:=h;intro j hj hh i hi
 ·have:=G3.1 h3 j (by simpa using hj);simp only[F9,HS]at this;rcases this with h|h
  ·omega
  ·exact G3.1 h i (by simpa using hi)
theorem Q8 {ops:IG Hp}(hd:DOk ops):∀(j i:Nat),xU ops j i=true->i<j:=by
 intro j;induction j using zyr with
 |_ j ih =>
  intro i hb;have hj:j<ops.size:=by
   rcases G4 j ops.size with h|h
   ·exact h
   ·unfold xU mQ at hb;rw[Es,Gt (by rw[(masksFrom_get ops.toList [] j).1];simpa using h)]at hb;simp at hb
  obtain⟨e,he,hbe,h1⟩:=ge (zb hj) hb;have:=hd.edges j _ (zb hj) e he hbe;rcases h1 with rfl|⟨_,h1⟩
  ·exact this
  ·have:=ih e.on this i h1;omega
theorem pF {ops:IG Hp}(hd:DOk ops) {i j d:Nat}{oi oj:Hp}(hi:ops[i]? = some oi) (hj:ops[j]? = some oj) (h1:oi.dst=some d) (h2:oj.dst=some d):i=j:=by
 have key:∀(l:IU Hp) (i j:Nat) (oi oj:Hp),(l.filterMap (·.dst)).Nodup->l[i]? = some oi->l[j]? = some oj->oi.dst=some d->oj.dst=some d->i=j:=by
  intro l;induction l with
  |nil=>intro i j oi oj _ h;simp at h
  |cons o l ih =>
   intro i j oi oj hn hi hj h1 h2;have hmem:∀(k:Nat) (ok:Hp),l[k]? = some ok->ok.dst=some d->d∈l.filterMap (·.dst):=λk ok hk hdk=>zxL.2 ⟨ok,GS hk,hdk⟩;cases i with
   |zero =>
    simp at hi;subst hi;cases j with
    |zero=>rfl
    |succ j =>
     simp at hj;rw[CF h1,EO]at hn;exact Hu (hmem j oj hj h2) hn.1
   |succ i =>
    simp at hi;cases j with
    |zero =>
     simp at hj;subst hj;rw[CF h2,EO]at hn;exact Hu (hmem i oi hi h1) hn.1
    |succ j =>
     simp at hj;have hn':(l.filterMap (·.dst)).Nodup:=by
      cases hod:o.dst with
      |none=>rw[zxX hod]at hn;exact hn
      |some x=>rw[CF hod,EO]at hn;exact hn.2
     rw[ih i j oi oj hn' hi hj h1 h2]
 exact key ops.toList i j oi oj hd.nodup (by simpa using hi) (by simpa using hj) h1 h2
def Mz (ops:IG Hp) (j t:Nat):Prop:= ∃(k:Nat) (o:Hp),ops[k]? = some o/\o.dst=some t/\¬ (xU ops j k=true/\isAllocO o.op=false)
theorem rK (m:Nat):∀(l:IU Hp) (k:Nat) (tm:IU AV) (t:Nat),(uj m l k tm).length=tm.length/\((∃(i:Nat) (o:Hp),l[i]? = some o/\o.dst=some t/\¬ (m.testBit (k+i)=true/\isAllocO o.op=false))->(uj m l k tm)[t]? = (tm[t]?).map λ_=>.any)/\((¬ ∃(i:Nat) (o:Hp),l[i]? = some o/\o.dst=some t/\¬ (m.testBit (k+i)=true/\isAllocO o.op=false))->(uj m l k tm)[t]? = tm[t]?)
 |[],k,tm,t=>by simp[uj]
 |o::l,k,tm,t=>by
  obtain⟨h1,h2,h3⟩:=rK m l (k+1) tm t;have shift:(∃(i:Nat) (o':Hp),(o::l)[i]? = some o'/\o'.dst=some t/\¬ (m.testBit (k+i)=true/\isAllocO o'.op=false)) ↔
    (o.dst=some t/\¬ (m.testBit k=true/\isAllocO o.op=false))∨(∃(i:Nat) (o':Hp),l[i]? = some o'/\o'.dst=some t/\¬ (m.testBit (k+1+i)=true/\isAllocO o'.op=false)):=by
   constructor
   ·rintro⟨i,o',hi,hd,hn⟩;cases i with
    |zero=>simp at hi;subst hi;exact .inl ⟨hd,by simpa using hn⟩
    |succ i=>simp at hi;exact .inr ⟨i,o',hi,hd,by rw[show k+1+i=k+(i+1) by omega];exact hn⟩
   ·rintro (⟨hd,hn⟩|⟨i,o',hi,hd,hn⟩)
    ·exact⟨0,o,rfl,hd,by simpa using hn⟩
    ·exact⟨i+1,o',by simpa using hi,hd,by rw[show k+(i+1)=k+1+i by omega];exact hn⟩
  rw[shift];simp only[uj];cases hod:o.dst with
  |none =>
   simp only;refine⟨h1,λh=>h2 (h.resolve_left (by simp)),λh=>h3 (λh'=>h (.inr h'))⟩
  |some d =>
   simp only;by_cases hb:(m.testBit k&& !isAllocO o.op)=true
   ·rw[Hv hb];have hb':m.testBit k=true/\isAllocO o.op=false:=by simpa using hb
    refine⟨h1,λh=>h2 (h.resolve_left (λh'=>h'.2 hb')),λh=>h3 (λh'=>h (.inr h'))⟩
   ·rw[IE hb];have hb' :¬ (m.testBit k=true/\isAllocO o.op=false):=by simpa using hb
    refine⟨by simp[h1],λh=>?_,λh=>?_⟩
    ·by_cases hdt:d=t
     ·subst hdt;rw[E4];simp only[if_true,h1];by_cases hlt:d<tm.length
      ·simp[hlt]
      ·simp[hlt]
     ·rw[zD hdt];exact h2 (h.resolve_left (λh'=>hdt (by simpa using h'.1)))
    ·have hdt:d≠t:=λe=>h (.inl ⟨by rw[e],hb'⟩);rw[zD hdt];exact h3 (λh'=>h (.inr h'))
theorem uh {ops:IG Hp}{j t:Nat}{tm:IU AV}:(kl ops j tm).length=tm.length/\(Mz ops j t->(kl ops j tm)[t]? = (tm[t]?).map λ_=>.any)/\(¬ Mz ops j t->(kl ops j tm)[t]? = tm[t]?):=by
 obtain⟨h1,h2,h3⟩:=rK ((mQ ops).getD j 0) ops.toList 0 tm t;refine⟨h1,λh=>h2 ?_,λh=>h3 λh'=>h ?_⟩
 ·obtain⟨k,o,hk,hd,hn⟩:=h;exact⟨k,o,by simpa using hk,hd,by simpa[xU]using hn⟩
 ·obtain⟨k,o,hk,hd,hn⟩:=h';exact⟨k,o,by simpa using hk,hd,by simpa[xU]using hn⟩
theorem Q9 {ops:IG Hp}{j d:Nat}{tm:IU AV}{x:AV}(h:Mz ops j d):kl ops j (tm.set d x)=kl ops j tm:=by
 apply DO;intro t;by_cases ht:Mz ops j t
 ·rw[uh.2.1 ht,uh.2.1 ht];by_cases e:d=t
  ·subst e;rw[E4];by_cases hlt:d<tm.length
   ·simp[hlt]
   ·simp[hlt]
  ·rw[zD e]
 ·have e:d≠t:=λe=>ht (e ▸ h);rw[uh.2.2 ht,uh.2.2 ht,zD e]
open Go.Sx renaming DOk->Et
def nx (c:Cx) (w:H5) (b:Nat) (o:Obj):Prop :=b<w.heap.size/\w.heap[b]? = some o/\(∀l k:Nat,c.ρ[l]? ≠ some (some (b,k)))/\(∀o,¬ c.I b o)/\¬ c.J b
def bi (P:HP) (c:Cx) (w:H5) (b:Nat) (T:TypeId):Prop:= ∃z,yZ P T=some z/\nx c w b (.cells z.cells T (0,0))
theorem nx.ext {c w c' w' b} {o:Obj}(e:Hs c w c' w') (h:nx c w b o):nx c' w' b o:=by
 obtain⟨h1,h3,h4,h5,h6⟩:=h;refine⟨F4 h1 e.size,by rw[e.frame b h1 h4];exact h3,λl k hl=>?_,λo ho=>?_,λhj=>?_⟩
 ·rcases e.fresh l b k hl with⟨l',k',h⟩|h
  ·exact h4 l' k' h
  ·omega
 ·rcases e.inew b o ho with h|h|⟨l,k,h⟩
  ·exact h5 o h
  ·omega
  ·exact h4 l k h
 ·rcases e.jnew b hj with h|h
  ·exact h6 h
  ·omega
theorem bi.ext {P c w c' w' b T} (e:Hs c w c' w') (h:bi P c w b T):bi P c' w' b T:=by obtain⟨z,hz,h⟩:=h;exact⟨z,hz,h.ext e⟩
section
variable {P:HP}{G:Nat->IQ (IU D)}{nb:Nat}{rd:IQ Nat}{ops:IG Hp}{H:IU Box}{c0:Cx}{w0:H5}{Kend:IU AV->Prop}
def yy (listed:IG Bool) (i:Nat):Bool:=listed.getD i false
def Ns (P:HP) (G:Nat->IQ (IU D)) (ops:IG Hp) (i:Nat) (tm:IU AV) (H:IU Box):Prop :=wR P G ops i (kl ops i tm) H λ_ a2 H2=>H2=H/\∀d,(zm ops i).dst=some d->d<tm.length->tm[d]? = some a2
structure Din (P:HP) (G:Nat->IQ (IU D)) (nb:Nat) (ops:IG Hp) (H:IU Box) (c0:Cx) (w0:H5) (Kend:IU AV->Prop) (listed:IG Bool) (a:HA) (w:H5) (c:Cx) (tm:IU AV) (done r:IU Nat) (B:Nat->Nat) (Z:Nat->Obj) (X:Nat->Prop):Prop where
 hr:HR c H w
 gr:GR G c w
 ext:Hs c0 w0 c w
 keep:zl c0 H c H
 df:i7 nb c w a.defers
 lsz:listed.size=ops.size
 closed:xV ops listed
 len:tm.length=a.tmps.size
 rng:∀(k:Nat) o d,ops[k]? = some o->o.dst=some d->d<tm.length
 slot:∀(t:Nat) x v,tm[t]? = some x->a.tmps[t]? = some v->(∀(k:Nat) o,ops[k]? = some o->o.dst=some t->zi ops<=k∨(yy listed k=true/\isAllocO o.op=false))->xj c H w a.tmps x v
 opt:∀(t g:Nat) p x,tm[t]? = some (.opt g p x)->∃(i j:Nat) (oi oj:Hp),ops[i]? = some oi/\ops[j]? = some oj/\oi.dst=some t/\oj.dst=some g/\xU ops i j=true/\i<zi ops
 v:gd P G ops r tm H Kend
 ord:vN ops (sI ops) r done=true
 dn:∀k∈done,∀i∈sI ops,xU ops k i=true->i∈done
 dh:∀k∈done,k∈sI ops
 unl:∀i∈r,yy listed i=false
 pend:∀i∈done,yy listed i=false->¬ X i->Ns P G ops i tm H
 fresh:∀(i:Nat) o T,ops[i]? = some o->o.op = .alloc T->i<zi ops->yy listed i=true->∃d,o.dst=some d/\a.tmps[d]? = some (.pointer (some ⟨B i,0,none⟩))/\nx c w (B i) (Z i)/\w0.heap.size<=B i
 binj:∀(i i':Nat) o o' T T',ops[i]? = some o->ops[i']? = some o'->o.op = .alloc T->o'.op = .alloc T'->i<zi ops->i'<zi ops->yy listed i=true->yy listed i'=true->B i=B i'->i=i'
theorem xf {hs:IU Nat}:∀{r done:IU Nat},vN ops hs r done=true->∀i∈r,i∈hs/\i∉done
 |[],_,_,i,hi=>by simp at hi
 |j::r,done,h,i,hi=>by
  simp only[vN,HC,Fe]at h;obtain⟨⟨⟨⟨h1,h2⟩,_⟩,_⟩,h5⟩:=h;rcases F5.1 hi with rfl|hi
  ·exact⟨Dt.1 h1,λhm=>by rw[Dt.2 hm]at h2;cases h2⟩
  ·obtain⟨a,b⟩:=xf h5 i hi;exact⟨a,λhm=>b (by simp[hm])⟩
theorem pE {hs:IU Nat}:∀{r done:IU Nat},vN ops hs r done=true->∀i∈hs,i∈done∨i∈r
 |[],done,h,i,hi=>by simp only[vN]at h;exact .inl (Dt.1 (G3.1 h i hi))
 |j::r,done,h,i,hi=>by
  simp only[vN,HC]at h;rcases pE h.2 i hi with h1|h1
  ·rcases FK.1 h1 with h1|h1
   ·exact .inl h1
   ·right;simp at h1;simp[h1]
  ·right;simp[h1]
theorem yC {i:Nat}:i∈sI ops↔i<zi ops/\isAllocO (zm ops i).op=false:=by simp[sI]
theorem mO {i:Nat}(h:i∈sI ops):ops[i]? = some (zm ops i):=zb (F4 (yC.1 h).1 (xo ops))
theorem ug {tm:IU AV}{d:IQ Nat}{x:AV}{t:Nat}(h:d≠some t):(wh tm d x)[t]? = tm[t]? :=by
 cases d with
 |none=>rfl
 |some d=>exact zD (λe=>h (by rw[e]))
theorem xR {tm:IU AV}{d:IQ Nat}{x:AV}:(wh tm d x).length=tm.length:=by cases d<;>simp[wh]
theorem Qz {i j d:Nat}{o:Hp}(ho:ops[i]? = some o) (hdst:o.dst=some d) (hb:xU ops j i=false):Mz ops j d:=⟨i,o,ho,hdst,λh=>by rw[hb]at h;cases h.1⟩
theorem de {i j:Nat}{o:Hp}{tm:IU AV}{x:AV}(ho:ops[i]? = some o) (hb:xU ops j i=false):kl ops j (wh tm o.dst x)=kl ops j tm:=by
 cases hdst:o.dst with
 |none=>rfl
 |some d=>exact Q9 (Qz ho hdst hb)
theorem Qy (hd:Et ops) (i:Nat):xU ops i i=false:=by
 cases h:xU ops i i with
 |false=>rfl
 |true=>exact Hu (Q8 hd i i h) (DJ _)
theorem dd {i:Nat}{tm:IU AV}{K:AV->AV->IU Box->Prop}(h:wR P G ops i (kl ops i tm) H K):∀(g:Nat) (p:Bool),(∃j,(zm ops i).guard=some (j,p)/\(ops[j]?).bind (·.dst)=some g)->∃(j:Nat) (oj:Hp),ops[j]? = some oj/\oj.dst=some g/\xU ops i j=true:=by
 rintro g p ⟨j,hg,hgd⟩;unfold wR at h;rw[hg]at h;simp only[hgd]at h;split at h
 ·exact h.elim
 ·split at h
  ·rename_i tags C hch;cases hoj:ops[j]? with
   |none=>rw[hoj]at hgd;simp at hgd
   |some oj =>
    rw[hoj]at hgd;simp only[IQ.bind_some]at hgd;refine⟨j,oj,hoj,hgd,?_⟩;by_cases hh:Mz ops i g
    ·exfalso;have hget:=(uh (tm:=tm)).2.1 hh;have:(kl ops i tm).getD g .any = .any:=by rw[Es,hget];cases tm[g]? <;> rfl
     simp only[chain,this]at hch;cases hch
    ·rcases EA (xU ops i j=true)with hb|hb
     ·exact hb
     ·exact Hu ⟨j,oj,hoj,hgd,λh=>hb h.1⟩ hh
  ·exact h.elim
theorem vH {i:Nat}{tv:IU AV}{K:AV->AV->IU Box->Prop}(h:wR P G ops i tv H K):wR P G ops i tv H λav a' H'=>K av a' H'/\∀g p x,a' = .opt g p x->∃j,(zm ops i).guard=some (j,p)/\(ops[j]?).bind (·.dst)=some g:=by
 have mono:∀(o:Hp) (tags:IU (Nat×Bool)) (C:Prop) (K1 K2:AV->IU Box->Prop),(∀av H',K1 av H'->K2 av H')->nT P G o tags C tv H K1->nT P G o tags C tv H K2:=by
  intro o tags C K1 K2 hk h;unfold nT at h ⊢;split at h
  ·rename_i hop;split at h
   ·exact hk _ _ h
   ·exact h
  ·split at h
   ·rename_i hcal;split at h
    ·rename_i hok;rw[Hv hok];split at h
     ·exact h.mono λrs hrs=>exTys_mono _ _ _ (λds hd=>⟨hd.1,hk _ _ hd.2⟩) hrs
     ·unfold Yl at h ⊢;split at h
      ·rename_i hsee;rw[Hv hsee];exact h.mono λrs H' hrs=>⟨hrs.1,exTys_mono _ _ _ (λds hd=>⟨hd.1,hk _ _ hd.2⟩) hrs.2⟩
      ·exact h.elim
    ·exact h.elim
   ·unfold Q3 at h ⊢;split at h
    ·split at h
     ·obtain⟨k,h3,h4,h5⟩:=h;exact⟨k,h3,h4,h5.mono λrs hrs=>exTys_mono _ _ _ (λds hd=>⟨hd.1,hk _ _ hd.2⟩) hrs⟩
     ·exact h.elim
    ·exact h.elim
  ·unfold qN at h ⊢;cases hf:Wp P (ev G (yc tags tv)) H o.op with
   |none =>
    rw[hf]at h;simp only at h ⊢;cases tags with
    |nil =>
     simp only at h ⊢;cases hh:um P (ev G (yc [] tv)) H o.op with
     |none=>rw[hh]at h;exact h
     |some q =>
      obtain⟨av,H',F⟩:=q;rw[hh]at h;simp only at h ⊢;split at h
      ·rename_i ht;rw[Hv ht];exact hk _ _ h
      ·rename_i ht;rw[IE ht];exact⟨h.1,hk _ _ h.2⟩
    |cons t ts=>exact h
   |some q =>
    obtain⟨av,F⟩:=q;rw[hf]at h;simp only at h ⊢;split at h
    ·rename_i ht;rw[Hv ht];exact hk _ _ h
    ·rename_i ht;rw[IE ht];cases tags<;>exact⟨h.1,hk _ _ h.2⟩
 unfold wR at h ⊢;split at h
 ·exact mono _ _ _ _ _ (λav H' hk=>⟨hk,λg p x hx=>by cases av<;>simp[dull]at hx⟩) h
 ·rename_i j p hg;split at h
  ·rename_i g hgd;split at h
   ·exact h.elim
   ·rename_i hne;simp only[IE hne];split at h
    ·rename_i tags C hch;exact mono _ _ _ _ _ (λav H' hk=>⟨hk,λg' p' x hx=>by cases hx;exact⟨j,hg,hgd⟩⟩) h
    ·exact h.elim
  ·exact h.elim
end
open Go.Sx renaming Din->EX
section
variable {P:HP}{G:Nat->IQ (IU D)}{nb:Nat}{rd:IQ Nat}{ops:IG Hp}{H:IU Box}{c0:Cx}{w0:H5}{Kend:IU AV->Prop}{listed:IG Bool}{a:HA}{w:H5}{c:Cx}{tm:IU AV}{done r:IU Nat}{B:Nat->Nat}{Z:Nat->Obj}{X:Nat->Prop}
theorem Din.note {i:Nat}{r':IU Nat}{a2:AV}(hd:Et ops) (h:EX P G nb ops H c0 w0 Kend listed a w c tm done (i::r') B Z X) (hv:gd P G ops r' (wh tm (zm ops i).dst a2) H Kend) (hopt:∀g p x,a2 = .opt g p x->∃(j:Nat) (oj:Hp),ops[j]? = some oj/\oj.dst=some g/\xU ops i j=true) (hp:yy listed i=false->¬ X i->Ns P G ops i (wh tm (zm ops i).dst a2) H):EX P G nb ops H c0 w0 Kend listed a w c (wh tm (zm ops i).dst a2) (done++[i]) r' B Z X:=by
 obtain⟨hih,hid⟩:=xf h.ord i (by simp);have hoi:=mO hih;have hul:=h.unl i (by simp);have hord:=h.ord;simp only[vN,HC,Fe]at hord;obtain⟨⟨⟨⟨_,_⟩,hpre⟩,_⟩,hrest⟩:=hord;refine { hr:=h.hr,gr:=h.gr,ext:=h.ext,keep:=h.keep,df:=h.df,lsz:=h.lsz,closed:=h.closed,len:=by rw[xR];exact h.len,rng:=by rw[xR];exact h.rng,slot:= ?_,opt:= ?_,v:=hv,ord:=hrest,dn:= ?_,dh:= ?_,unl:=λk hk=>h.unl k (by simp[hk]),pend:= ?_,fresh:=h.fresh,binj:=h.binj }
 ·intro t x v hx hv hall;have hne:(zm ops i).dst≠some t:=λe=>by
   rcases hall i _ hoi e with h1|⟨h1,_⟩
   ·have:=(yC.1 hih).1;omega
   ·rw[hul]at h1;cases h1
  rw[ug hne]at hx;exact h.slot t x v hx hv hall
 ·intro t g p x hx;by_cases e:(zm ops i).dst=some t
  ·have hx2:a2 = .opt g p x:=by
    rw[e]at hx;simp only[wh]at hx;rw[E4]at hx;simp only[if_true]at hx;split at hx
    ·simpa using hx
    ·simp at hx
   obtain⟨j,oj,h1,h2,h3⟩:=hopt g p x hx2;exact⟨i,j,_,oj,hoi,h1,e,h2,h3,(yC.1 hih).1⟩
  ·rw[ug e]at hx;exact h.opt t g p x hx
 ·intro k hk m hm hb;rcases FK.1 hk with hk|hk
  ·exact FK.2 (.inl (h.dn k hk m hm hb))
  ·simp at hk;subst hk;have:=G3.1 hpre m hm;simp only[hb,El,FD]at this;exact FK.2 (.inl (Dt.1 this))
 ·intro k hk;rcases FK.1 hk with hk|hk
  ·exact h.dh k hk
  ·simp at hk;subst hk;exact hih
 ·intro k hk hkl hkx;rcases FK.1 hk with hk|hk
  ·have hki:k≠i:=λe=>hid (e ▸ hk);have hb:xU ops k i=false:=by
    cases hbb:xU ops k i with
    |false=>rfl
    |true=>exact Hu (h.dn k hk i hih hbb) hid
   have hp:=h.pend k hk hkl hkx;unfold Ns at hp ⊢;rw[de hoi hb];have hok:=mO (h.dh k hk);have hform:=vH hp;revert hp;have:(λ(_:AV) (a3:AV) (H2:IU Box)=>H2=H/\∀d,(zm ops k).dst=some d->d<tm.length->tm[d]? = some a3)=λ_ a3 H2=>H2=H/\∀d,(zm ops k).dst=some d->d<(wh tm (zm ops i).dst a2).length->(wh tm (zm ops i).dst a2)[d]? = some a3:=by funext _ a3 H2;rw[xR];refine propext (and_congr_right λ_=>forall_congr' λd=>forall_congr' λhd'=>?_);rw[ug (λe=>hki (pF hd hok hoi hd' e))]
   rw[←this];exact λh=>h
  ·simp at hk;subst hk;exact hp hkl hkx
theorem Din.advance (hd:Et ops):∀{r:IU Nat}{tm:IU AV}{done:IU Nat},EX P G nb ops H c0 w0 Kend listed a w c tm done r B Z X->∃tm' done' r',EX P G nb ops H c0 w0 Kend listed a w c tm' done' r' B Z X/\(r'=[]∨ ∃i r'',r'=i::r''/\isCallV (zm ops i).op=true)
 |[],tm,done,h=>⟨tm,done,[],h,.inl rfl⟩
 |i::r,tm,done,h=>by
  cases hc:isCallV (zm ops i).op with
  |true=>exact⟨tm,done,i::r,h,.inr ⟨i,r,rfl,hc⟩⟩
  |false =>
   obtain⟨hih,hid⟩:=xf h.ord i (by simp);have hoi:=mO hih;have hv:=h.v;simp only[gd]at hv;have ht:isTail (zm ops i).op=false:=sf hoi (yC.1 hih).1;have ha:isAllocO (zm ops i).op=false:=(yC.1 hih).2;obtain⟨av,a2,⟨hk,hform⟩,hpend⟩:=ki hc ht ha (vH hv);refine Din.advance hd (h.note hd hk (λg p x hx=>?_) λ_ _=>?_)
   ·obtain⟨j,hj1,hj2⟩:=hform g p x hx;exact dd hv g p ⟨j,hj1,hj2⟩
   ·unfold Ns;rw[de hoi (Qy hd i)];have hkk:∀(a3:AV) (H2:IU Box),(H2=H/\a3=a2)->(H2=H/\∀d,(zm ops i).dst=some d->d<(wh tm (zm ops i).dst a2).length->(wh tm (zm ops i).dst a2)[d]? = some a3):=by rintro a3 H2 ⟨rfl,rfl⟩;refine⟨rfl,λd hdd hlt=>?_⟩;rw[xR]at hlt;rw[hdd];simp[wh,hlt]
    have hs:=ki hc ht ha hpend;obtain⟨av',a',⟨h1,h2⟩,h3⟩:=hs;subst h2;have mono:=vH h3;unfold wR at h3 ⊢;split at h3
    ·rcases tc ht ha h3 with⟨av2,h4,h5⟩|⟨h4,_⟩
     ·exact h5 _ (hkk _ _ h4)
     ·rw[hc]at h4;cases h4
    ·split at h3
     ·split at h3
      ·exact h3.elim
      ·rename_i hne;rw[IE hne];split at h3
       ·rcases tc ht ha h3 with⟨av2,h4,h5⟩|⟨h4,_⟩
        ·exact h5 _ (hkk _ _ h4)
        ·rw[hc]at h4;cases h4
       ·exact h3.elim
     ·exact h3.elim
theorem zc (hs:listed.size=ops.size) {i k:Nat}(hi:i<ops.size):yy (listed.setIfInBounds i true) k=if k=i then true else yy listed k:=by
 unfold yy;rw[FN,EW,FN];by_cases e:k=i
 ·subst e;simp[hs,hi]
 ·simp[e,Ne.symm e]
theorem Din.rep (h:EX P G nb ops H c0 w0 Kend listed a w c tm done r B Z X) {i:Nat}(hb:∀k,xU ops i k=true->yy listed k=true):G9 G nb c H w (kl ops i tm) a:=by
 refine⟨h.hr,h.gr,⟨by rw[uh (t:=0).1,h.len];simp,λt v x hv hx=>?_⟩,h.df⟩;simp only[Du]at hv;by_cases hh:Mz ops i t
 ·rw[uh.2.1 hh]at hx;cases hy:tm[t]? with
  |none=>rw[hy]at hx;simp at hx
  |some y=>rw[hy]at hx;simp at hx;subst hx;exact Di v
 ·rw[uh.2.2 hh]at hx;refine h.slot t x v hx hv λk o hk hdst=>?_;have:xU ops i k=true/\isAllocO o.op=false:=by
   rcases EA (xU ops i k=true/\isAllocO o.op=false)with h1|h1
   ·exact h1
   ·exact Hu ⟨k,o,hk,hdst,h1⟩ hh
  exact .inr ⟨hb k this.1,this.2⟩
theorem xV.add' {i:Nat}(hs:listed.size=ops.size) (hi:i<ops.size) (hc:xV ops listed) (hb:∀k,xU ops i k=true->yy listed k=true):xV ops (listed.setIfInBounds i true):=by
 intro j k hj hbjk;have hj':yy (listed.setIfInBounds i true) j=true:=hj;show yy (listed.setIfInBounds i true) k=true;rw[zc hs hi]at hj' ⊢;split
 ·rfl
 ·by_cases e:j=i
  ·subst e;exact hb k hbjk
  ·rw[IE e]at hj';exact hc j k hj' hbjk
theorem Din.ran {i:Nat}{v:Value}{c':Cx}{w':H5}{a2:AV}(hd:Et ops) (h:EX P G nb ops H c0 w0 Kend listed a w c tm done r B Z X) (hX:∀m,X m->m=i) (hdone:i∈done) (hul:yy listed i=false) (hb:∀k,xU ops i k=true->yy listed k=true) (ha2:∀d,(zm ops i).dst=some d->d<tm.length->tm[d]? = some a2) (e:Hs c w c' w') (k:zl c H c' H) (hr:HR c' H w') (hs:xj c' H w' (a.put (zm ops i).dst v).tmps a2 v): EX P G nb ops H c0 w0 Kend (listed.setIfInBounds i true) (a.put (zm ops i).dst v) w' c' tm done r B Z (λ_=>HD):=by
 have hih:=h.dh i hdone;have hoi:=mO hih;have hi:i<ops.size:=zL hoi;have hoth:∀t,(zm ops i).dst≠some t->(a.put (zm ops i).dst v).tmps[t]? = a.tmps[t]? :=by
  intro t hne;cases hdst:(zm ops i).dst with
  |none=>rfl
  |some d =>
   rw[yE,EW];have:d≠t:=λe=>hne (by rw[hdst,e]);simp[this]
 refine { hr:=hr,gr:=h.gr.ext e,ext:=h.ext.trans e,keep:=h.keep.trans k,df:= ?_,lsz:=by simp[h.lsz],closed:=xV.add' h.lsz hi h.closed hb,len:= ?_,rng:=h.rng,slot:= ?_,opt:=h.opt,v:=h.v,ord:=h.ord,dn:=h.dn,dh:=h.dh,unl:= ?_,pend:= ?_,fresh:= ?_,binj:= ?_ }
 ·cases hdst:(zm ops i).dst<;>exact h.df.ext e
 ·rw[h.len];cases hdst:(zm ops i).dst with
  |none=>rfl
  |some d=>rw[yE];simp
 ·intro t x u hx hu hall;by_cases et:(zm ops i).dst=some t
  ·have hlt:t<tm.length:=by rcases G4 t tm.length with h' |h';exact h';simp[Gt h']at hx
   rw[ha2 t et hlt]at hx;simp at hx;subst hx;have:u=v:=by
    rw[et,yE,EW]at hu;simp only[if_true]at hu;split at hu
    ·simpa using hu.symm
    ·rename_i hge;rw[h.len]at hlt;exact Hu hlt hge
   subst this;exact hs
  ·rw[hoth t et]at hu;have h1:=h.slot t x u hx hu λm o hm hdm=>by
    rcases hall m o hm hdm with h4|⟨h2,h3⟩
    ·exact .inl h4
    ·rw[zc h.lsz hi]at h2;have:m≠i:=λe'=>et (by rw[e']at hm;rw[hm]at hoi;simp at hoi;rw[←hoi];exact hdm);rw[IE this]at h2;exact .inr ⟨h2,h3⟩
   have h2:=h1.ext e k;cases x<;>first
    |exact h2
    |skip
   rename_i g p y;simp only[xj]at h2 ⊢;have hg:(a.put (zm ops i).dst v).tmps[g]? = a.tmps[g]? :=by refine hoth g λeg=>?_;obtain⟨i1,j1,oi1,oj1,a1,a2',a3,a4,a5,a6⟩:=h.opt t g p y hx;have hl:=((hall i1 oi1 a1 a3).resolve_left (by omega)).1;have hi1:i1≠i:=λe'=>et (by rw[e']at a1;rw[a1]at hoi;simp at hoi;rw[←hoi];exact a3);rw[zc h.lsz hi,IE hi1]at hl;have hj:=h.closed i1 j1 hl a5;have:j1=i:=pF hd a2' hoi a4 eg;rw[this]at hj;have hj':yy listed i=true:=hj;rw[hul]at hj';cases hj'
   rw[hg];exact h2
 ·intro m hm;rw[zc h.lsz hi];have hne:m≠i:=λe'=>by have:=(xf h.ord m hm).2;exact this (e' ▸ hdone)
  rw[IE hne];exact h.unl m hm
 ·intro m hm hml _;rw[zc h.lsz hi]at hml;split at hml
  ·cases hml
  ·rename_i hmi;exact h.pend m hm hml (λhx=>hmi (hX m hx))
 ·intro m o T hm hop hmh hml;have hne:m≠i:=λe'=>by have h1:=(yC.1 hih).2;rw[e']at hm;rw[yu hm,hop]at h1;simp[isAllocO]at h1
  rw[zc h.lsz hi,IE hne]at hml;obtain⟨d,h1,h2,h3⟩:=h.fresh m o T hm hop hmh hml;refine⟨d,h1,?_,h3.1.ext e,h3.2⟩;rw[hoth d λe'=>hne (pF hd hm hoi h1 e')];exact h2
 ·intro m m' o o' T T' hm hm' h1 h2 h3 h4 h5 h6 h7;have key:∀(q:Nat) oq Tq,ops[q]? = some oq->oq.op = .alloc Tq->q≠i:=λq oq Tq hq hoq e'=>by have h1:=(yC.1 hih).2;rw[e']at hq;rw[yu hq,hoq]at h1;simp[isAllocO]at h1
  rw[zc h.lsz hi,IE (key m o T hm h1)]at h5;rw[zc h.lsz hi,IE (key m' o' T' hm' h2)]at h6;exact h.binj m m' o o' T T' hm hm' h1 h2 h3 h4 h5 h6 h7
end
open Go.Sx.xV renaming add'->CM
section
variable {P:HP}{G:Nat->IQ (IU D)}{nb:Nat}{rd:IQ Nat}{ops:IG Hp}{H:IU Box}{c0:Cx}{w0:H5}{Kend:IU AV->Prop}{listed:IG Bool}{a:HA}{w:H5}{c:Cx}{tm:IU AV}{done r:IU Nat}{B:Nat->Nat}{Z:Nat->Obj}
def N4 (P:HP) (G:Nat->IQ (IU D)) (nb:Nat) (ops:IG Hp) (H:IU Box) (c0:Cx) (w0:H5) (Kend:IU AV->Prop) (listed:IG Bool) (a:HA) (w:H5):Prop :=∃c tm done r B Z,EX P G nb ops H c0 w0 Kend listed a w c tm done r B Z (λ_=>HD)/\(∀(k:Nat) o T,ops[k]? = some o->o.op = .alloc T->k<zi ops->yy listed k=true->∃z,yZ P T=some z/\Z k = .cells z.cells T (0,0))/\(∀j,zi ops<=j->yy listed j=false)/\(r=[]∨ ∃i r',r=i::r'/\isCallV (zm ops i).op=true)
theorem rJ {o:Hp}{T:TypeId}{z:Value}(ho:o.op = .alloc T) (hz:yZ P T=some z) (ev:G1->Value):(execOp ev o).run P w = .ok (.value (.pointer (some ⟨w.heap.size,0,none⟩))) { w with heap:=w.heap.push (.cells z.cells T) }:=by simp[execOp,ho,Instr.alloc,vK hz,newVar,newRow]
theorem Ext.push_free (c:Cx) (w:H5) (o:Obj) (hi:∀b o,c.I b o->b<w.heap.size) (hj:∀r,c.J r->r<w.heap.size):Hs c w c { w with heap:=w.heap.push o } where
 os:=rfl
 tape:=rfl
 output:=rfl
 isub _ _ h:=h
 jsub _ h:=h
 icell b o h:=xc (y8 (hi b o h)) _ _
 jobj r h:=y8 (hj r h)
 size:=by simp
 frame b hb _:=y8 hb
 inew _ _ h:= .inl h
 jnew _ h:= .inl h
 fresh l b k h:= .inl ⟨l,k,h⟩
theorem HR.push_free {c:Cx}(h:HR c H w) (o:Obj):HR c H { w with heap:=w.heap.push o } where
 len:=h.len
 inj:=h.inj
 box l b k x h1 h2:=(h.box l b k x h1 h2).ext (Ext.push_free c w o h.ilt h.jlt) (GV _ _) (y8 (h.lt l b k h1))
 non:=h.non
 lt l b k h1:=by have:=h.lt l b k h1;simp;omega
 ilt b o hi:=by have:=h.ilt b o hi;simp;omega
 jlt r hr:=by have:=h.jlt r hr;simp;omega
 iap:=h.iap
 jap:=h.jap
theorem Din.alloc {i:Nat}{T:TypeId}{z:Value}(hd:Et ops) (h:EX P G nb ops H c0 w0 Kend listed a w c tm done r B Z (λ_=>HD)) (hi:i<zi ops) (hop:(zm ops i).op = .alloc T) (hz:yZ P T=some z) (hul:yy listed i=false) (hb:∀k,xU ops i k=true->yy listed k=true): EX P G nb ops H c0 w0 Kend (listed.setIfInBounds i true) (a.put (zm ops i).dst (.pointer (some ⟨w.heap.size,0,none⟩))) { w with heap:=w.heap.push (.cells z.cells T) } c tm done r (λk=>if k=i then w.heap.size else B k) (λk=>if k=i then .cells z.cells T (0,0)else Z k) (λ_=>HD):=by
 have hisz:i<ops.size:=F4 hi (xo ops);have hoi:=zb hisz;obtain⟨_,d,hdst⟩:=hd.allocs i _ hoi hi (by rw[hop];rfl);have e:=Ext.push_free c w (.cells z.cells T) h.hr.ilt h.hr.jlt;have hoth:∀t,d≠t->(a.put (zm ops i).dst (.pointer (some ⟨w.heap.size,0,none⟩))).tmps[t]? = a.tmps[t]? :=by intro t hne;rw[hdst,yE,EW];simp[hne]
 have hnd:∀k∈done,k≠i:=λk hk e'=>by have:=(yC.1 (h.dh k hk)).2;rw[e',hop]at this;simp[isAllocO]at this
 have hnr:∀k∈r,k≠i:=λk hk e'=>by have:=(yC.1 (xf h.ord k hk).1).2;rw[e',hop]at this;simp[isAllocO]at this
 refine { hr:=h.hr.push_free _,gr:=h.gr.ext e,ext:=h.ext.trans e,keep:=h.keep,df:= ?_,lsz:=by simp[h.lsz],closed:=CM h.lsz hisz h.closed hb,len:= ?_,rng:=h.rng,slot:= ?_,opt:=h.opt,v:=h.v,ord:=h.ord,dn:=h.dn,dh:=h.dh,unl:= ?_,pend:= ?_,fresh:= ?_,binj:= ?_ }
 ·rw[hdst];exact h.df.ext e
 ·rw[h.len,hdst,yE];simp
 ·intro t x u hx hu hall;have hne:d≠t:=λe'=>by have:=((hall i _ hoi (by rw[hdst,e'])).resolve_left (by omega)).2;rw[hop]at this;simp[isAllocO]at this
  rw[hoth t hne]at hu;have h1:=h.slot t x u hx hu λm o hm hdm=>by
   rcases hall m o hm hdm with h4|⟨h2,h3⟩
   ·exact .inl h4
   ·rw[zc h.lsz hisz]at h2;have:m≠i:=λe'=>by rw[e',hoi]at hm;simp at hm;rw[←hm,hdst]at hdm;simp at hdm;exact hne hdm
    rw[IE this]at h2;exact .inr ⟨h2,h3⟩
  have h2:=h1.ext e (GV c H);cases x<;>first
   |exact h2
   |skip
  rename_i g p y;simp only[xj]at h2 ⊢;have hg:(a.put (zm ops i).dst (.pointer (some ⟨w.heap.size,0,none⟩))).tmps[g]? = a.tmps[g]? :=by
   refine hoth g λeg=>?_;obtain⟨i1,j1,oi1,oj1,a1,a2',a3,a4,a5,a6⟩:=h.opt t g p y hx;have hl:=((hall i1 oi1 a1 a3).resolve_left (by omega)).1;have hi1:i1≠i:=λe'=>by rw[e',hoi]at a1;simp at a1;rw[←a1,hdst]at a3;simp at a3;exact hne a3
   rw[zc h.lsz hisz,IE hi1]at hl;have hj:=h.closed i1 j1 hl a5;have:j1=i:=pF hd a2' hoi a4 (by rw[hdst,eg]);rw[this]at hj;have hj':yy listed i=true:=hj;rw[hul]at hj';cases hj'
  rw[hg];exact h2
 ·intro m hm;rw[zc h.lsz hisz,IE (hnr m hm)];exact h.unl m hm
 ·intro m hm hml hx;rw[zc h.lsz hisz,IE (hnd m hm)]at hml;exact h.pend m hm hml hx
 ·intro m o T' hm hop' hmh hml;by_cases e':m=i
  ·subst e';rw[hoi]at hm;simp at hm;subst hm;rw[hop]at hop';cases hop';refine⟨d,hdst,?_,?_⟩
   ·rw[hdst,yE,EW];have hlt:d<a.tmps.size:=by have:=h.rng m _ d hoi hdst;rw[h.len]at this;exact this
    simp[hlt]
   ·simp only[if_true];refine⟨⟨by simp,by simp,λl k hl=>?_,λo ho=>?_,λhj=>?_⟩,h.ext.size⟩
    ·have:=h.hr.lt l _ k hl;omega
    ·have:=h.hr.ilt _ o ho;omega
    ·have:=h.hr.jlt _ hj;omega
  ·rw[zc h.lsz hisz,IE e']at hml;obtain⟨d',h1,h2,h3⟩:=h.fresh m o T' hm hop' hmh hml;simp only[IE e'];refine⟨d',h1,?_,h3.1.ext e,h3.2⟩;rw[hoth d' λe2=>e' (pF hd hm hoi h1 (by rw[hdst,e2]))];exact h2
 ·intro m m' o o' T1 T2 hm hm' h1 h2 h3 h4 h5 h6 h7;rw[zc h.lsz hisz]at h5 h6;by_cases e1:m=i<;>by_cases e2:m'=i
  ·omega
  ·rw[Hv e1,IE e2]at h7;rw[IE e2]at h6;obtain⟨_,_,_,h8⟩:=h.fresh m' o' T2 hm' h2 h4 h6;have:=h8.1.1;omega
  ·rw[IE e1,Hv e2]at h7;rw[IE e1]at h5;obtain⟨_,_,_,h8⟩:=h.fresh m o T1 hm h1 h3 h5;have:=h8.1.1;omega
  ·rw[IE e1,IE e2]at h7;rw[IE e1]at h5;rw[IE e2]at h6;exact h.binj m m' o o' T1 T2 hm hm' h1 h2 h3 h4 h5 h6 h7
theorem rI {i:Nat}{o:Hp}{K:HA->H5->Prop}{Q:GW->HA->H5->Prop}(ho:ops[i]? = some o) (hg:o.guard=none) (h:o.wpIn (vI rd) 0 P a w K Q):wpOpIn (vI rd) 0 P ops Q i K a w:=by
 unfold wpOpIn;rw[ho];simp only;have hw:Fr o (yielded ops a.tmps)=true:=by simp[Fr,hg]
 rw[Hv hw];exact h
theorem N4.step {Q:GW->HA->H5->Prop}{i:Nat}(hd:Et ops) (hal:∀(k:Nat) o T,ops[k]? = some o->o.op = .alloc T->k<zi ops->∃z,yZ P T=some z) (h:N4 P G nb ops H c0 w0 Kend listed a w) (hi:i<zi ops) (hul:yy listed i=false) (hb:∀k,xU ops i k=true->yy listed k=true): wpOpIn (vI rd) 0 P ops Q i (λa' w'=>N4 P G nb ops H c0 w0 Kend (listed.setIfInBounds i true) a' w') a w:=by
 obtain⟨c,tm,done,r,B,Z,hD,hZ,htl,hrc⟩:=h;have hsz0:=hD.lsz;have hisz:i<ops.size:=F4 hi (xo ops);have hoi:=zb hisz;have htl' :∀j,zi ops<=j->yy (listed.setIfInBounds i true) j=false:=λj hj=>by
  rw[zc hsz0 hisz];have:j≠i:=λe'=>by omega
  rw[IE this];exact htl j hj
 cases ha:isAllocO (zm ops i).op with
 |true =>
  cases hop:(zm ops i).op<;>rw[hop]at ha<;>simp[isAllocO]at ha
  rename_i T;obtain⟨z,hz⟩:=hal i _ T hoi hop hi;refine rI hoi (hd.allocs i _ hoi hi (by rw[hop];rfl)).1 ?_;refine⟨λ_ _=>trivial,?_⟩;rw[EC _ _ _ (by rw[hop];intro d hd;cases hd),rJ hop hz];refine⟨c,tm,done,r,_,_,hD.alloc hd hi hop hz hul hb,λk o T' hk hop' hkh hkl=>?_,htl',hrc⟩;by_cases e':k=i
  ·subst e';rw[hoi]at hk;simp at hk;rw[←hk,hop]at hop';cases hop';exact⟨z,hz,by simp⟩
  ·rw[zc hsz0 hisz,IE e']at hkl;obtain⟨z',h1,h2⟩:=hZ k o T' hk hop' hkh hkl;exact⟨z',h1,by simp[e',h2]⟩
 |false =>
  have hZ' :∀(k:Nat) o T,ops[k]? = some o->o.op = .alloc T->k<zi ops->yy (listed.setIfInBounds i true) k=true->∃z,yZ P T=some z/\Z k = .cells z.cells T (0,0):=by
   intro k o T hk hop hkh hkl;have hne:k≠i:=λe'=>by subst e';rw[yu hk,hop]at ha;simp[isAllocO]at ha
   rw[zc hsz0 hisz,IE hne]at hkl;exact hZ k o T hk hop hkh hkl
  have hih:i∈sI ops:=yC.2 ⟨hi,ha⟩;have ht:isTail (zm ops i).op=false:=sf hoi hi;have hrep:=hD.rep hb;rcases pE hD.ord i hih with hdone|hr
  ·have hp:=hD.pend i hdone hul (λh=>h);refine ui hoi hrep ht ha hp λv w' c' av a2 hk e k hr hs=>?_;exact⟨c',tm,done,r,B,Z,hD.ran hd (λm hm=>hm.elim) hdone hul hb hk.2 e k hr hs,hZ',htl',hrc⟩
  ·rcases hrc with rfl|⟨i0,r',rfl,hcall⟩
   ·simp at hr
   ·have hi0:i=i0:=by
     rcases F5.1 hr with e|hr'
     ·exact e
     ·have hord:=hD.ord;simp only[vN,HC]at hord;have h1:=hord.1.2;simp only[hcall,El,FD]at h1;have h2:=G3.1 h1 i hr';have h3:=hb i0 h2;have h4:=hD.unl i0 (by simp);rw[h3]at h4;cases h4
    subst hi0;have hv:=hD.v;simp only[gd]at hv;refine ui hoi hrep ht ha (vH hv) λv w' c' av a2 hk e k hr2 hs=>?_;obtain⟨hk,hform⟩:=hk;have hDX:EX P G nb ops H c0 w0 Kend listed a w c tm done (i::r') B Z (λm=>m=i):= { hD with pend:=λm hm hml hx=>hD.pend m hm hml (λh=>h) };have hN:=hDX.note hd hk (λg p x hx=>by obtain⟨j,hj1,hj2⟩:=hform g p x hx;exact dd hv g p ⟨j,hj1,hj2⟩) (λ_ hx=>Hu rfl hx);have hRan:=hN.ran hd (λm hm=>hm) (by simp) hul hb (λd hdd hlt=>by rw[xR]at hlt;rw[hdd];simp[wh,hlt]) e k hr2 hs;obtain⟨tm3,done3,r3,hD3,hrc3⟩:=hRan.advance hd;exact⟨c',tm3,done3,r3,B,Z,hD3,hZ',htl',hrc3⟩
end
open Go.Sx.Ext renaming push_free->BO
section
variable {P:HP}{G:Nat->IQ (IU D)}{nb:Nat}{rd:IQ Nat}{ops:IG Hp}{H:IU Box}{c0:Cx}{w0:H5}{Kend:IU AV->Prop}{listed:IG Bool}{a:HA}{w:H5}{c:Cx}{tm:IU AV}{done r:IU Nat}{B:Nat->Nat}
theorem RA.grow {b k:Nat}{x:Box}(hl:c.ρ.length=H.length) {av:AV}{v:Value}(h:RA c H w av v):RA (c.grow b k) (H++[x]) w av v:=by
 have kp:=Ct c H b k x hl;induction h with
 |d h=>exact .d h
 |@ptr l o b q T cs hH h =>
  obtain⟨⟨cs',h1⟩,h2⟩:=kp l _ hH;exact .ptr h1 (by rw[h2];exact h)
 |iptr h=>exact .iptr h
 |clo hf hc _ _ ih1 ih2=>exact .clo hf hc ih1 ih2
 |full h=>exact .full h
 |nils=>exact .nils
 |nilf=>exact .nilf
 |fsym o=>exact .fsym o
 |@vec l n sz ds a m q h hH hn he =>
  obtain⟨n',a',b',e'⟩:=kp l _ hH;refine .vec h a' (by omega) λhl=>?_;have e1:n=n':=by omega
  rcases he (by omega)with h1|⟨b,h1,h2⟩
  ·exact .inl h1
  ·exact .inr ⟨b,h1,by rw[e' e1];exact h2⟩
 |@map l b q es hH h =>
  obtain⟨⟨cs',h1⟩,h2⟩:=kp l _ hH;exact .map h1 (by rw[h2];exact h)
 |tup hl _ ih=>exact .tup hl ih
 |agg hl _ ih=>exact .agg hl ih
 |any v=>exact .any v
 |opt g p x v=>exact .opt g p x v
 |yld h1 h2=>exact .yld (xr h1) (xr h2)
 |@msl l b q sz ds hH h =>
  obtain⟨⟨ds',h1,hn⟩,h2⟩:=kp l _ hH;rw[←hn];exact .msl h1 (by rw[h2];exact h)
 |@eptr l i o b q sz ds hH h =>
  obtain⟨⟨ds',h1,hn⟩,h2⟩:=kp l _ hH;exact .eptr h1 (by rw[h2];exact h)
theorem i7.grow {T:TypeId}{b k:Nat}{ds:IU Co}(h:i7 nb c w ds) {cs:IG Value}(hb:w.heap[b]? = some (.cells cs T (0,0))):i7 nb (c.grow b k) w ds:=by
 obtain⟨h0,ms,h1,h2,h3⟩:=h;refine⟨h0,ms,h1,h2,λm hm=>?_⟩;obtain⟨a1,a2,a3,a4,a5⟩:=h3 m hm;refine⟨a1,a2,λl k' hl=>?_,a4,a5⟩;rcases zo hl with hl|⟨_,hl⟩
 ·exact a3 l k' hl
 ·simp at hl;obtain⟨rfl,_⟩:=hl;rw[a2]at hb;cases hb
theorem HR.adopt {b:Nat}{T:TypeId}{cs:IG Value}{aas:IU AV}(hR:HR c H w) (ho:nx c w b (.cells cs T (0,0))) (hz:zy (λv a=>RA c H w a v) cs.toList aas):HR (c.grow b 0) (H++[.cells T aas]) w:=by
 obtain⟨h1,h3,h4,h5,h6⟩:=ho;refine⟨by simp[zzc,hR.len],?_,?_,?_,?_,hR.ilt,hR.jlt,?_,?_⟩
 ·intro l l' b' k k' e1 e2;rcases zo e1 with f1|⟨l1,f1⟩<;>rcases zo e2 with f2|⟨l2,f2⟩
  ·exact hR.inj l l' b' k k' f1 f2
  ·simp at f2;obtain⟨rfl,_⟩:=f2;exact Hu f1 (h4 l k)
  ·simp at f1;obtain⟨rfl,_⟩:=f1;exact Hu f2 (h4 l' k')
  ·omega
 ·intro l b' k y e1 e2;rcases zo e1 with e1|⟨l1,e1⟩
  ·rcases zo e2 with e2|⟨l2,e2⟩
   ·have h7:=hR.box l b' k y e1 e2;cases y with
    |cells T' cs=>obtain⟨vs,h8,h9⟩:=h7;exact⟨vs,h8,h9.mono λ_ _ h=>h.grow hR.len⟩
    |map es=>exact h7
    |vec n sz=>exact h7
    |dead=>trivial
    |arr sz ds=>exact h7
    |loop tm ps asn bd pend st=>obtain⟨r,h8,h9,h10,h11,h12,h13,h14⟩:=h7;exact⟨r,h8,h9,h10,h11,h12,h13,h14.mono λ_ _ h=>h.grow hR.len⟩
   ·have:=hR.len;rw[Gt (by omega)]at e1;simp at e1
  ·rcases zo e2 with e2|⟨l2,e2⟩
   ·have:=hR.len;rw[Gt (by omega)]at e2;simp at e2
   ·simp at e1;obtain⟨rfl,rfl⟩:=e1;subst e2;exact⟨cs.toList,by simpa using h3,hz.mono λ_ _ h=>h.grow hR.len⟩
 ·intro l y e1 e2;rcases zo e1 with e1|⟨l1,e1⟩
  ·rcases zo e2 with e2|⟨l2,e2⟩
   ·exact hR.non l y e1 e2
   ·have:=hR.len;rw[Gt (by omega)]at e1;simp at e1
  ·simp at e1
 ·intro l b' k e1;rcases zo e1 with e1|⟨l1,e1⟩
  ·exact hR.lt l b' k e1
  ·simp at e1;omega
 ·intro b' o l k hi e1;rcases zo e1 with e1|⟨l1,e1⟩
  ·obtain⟨n,sz,h8,h9⟩:=hR.iap b' o l k hi e1;exact⟨n,sz,xr h8,h9⟩
  ·simp at e1;obtain⟨rfl,_⟩:=e1;exact Hu hi (h5 o)
 ·intro r' l k hr e1;rcases zo e1 with e1|⟨l1,e1⟩
  ·exact hR.jap r' l k hr e1
  ·simp at e1;obtain⟨rfl,_⟩:=e1;exact h6 hr
structure Left (P:HP) (G:Nat->IQ (IU D)) (nb:Nat) (ops:IG Hp) (H:IU Box) (c0:Cx) (w0:H5) (a:HA) (w:H5) (C:Nat->TypeId->IQ (IU AV)) (B:Nat->Nat) (l:IU Nat) (tm:IU AV) (H':IU Box) (c:Cx):Prop where
 hr:HR c H' w
 gr:GR G c w
 ext:Hs c0 w0 c w
 keep:zl c0 H c H'
 df:i7 nb c w a.defers
 len:tm.length=a.tmps.size
 no:∀g p x,Cp g p x∉tm
 slot:∀(t:Nat) x v,tm[t]? = some x->a.tmps[t]? = some v->(∀i∈l,(zm ops i).dst≠some t)->RA c H' w x v
 own:∀i∈l,∃T d,(zm ops i).op = .alloc T/\(zm ops i).dst=some d/\a.tmps[d]? = some (.pointer (some ⟨B i,0,none⟩))/\(∃cs aas,nx c w (B i) (.cells cs T (0,0))/\C i T=some aas/\zy (λv a=>RA c H' w a v) cs.toList aas)/\w0.heap.size<=B i
 nd:l.Nodup
 inj:∀i∈l,∀j∈l,B i=B j->i=j
theorem s0 {C:Nat->TypeId->IQ (IU AV)}{K:IU AV->IU Box->Prop}{S:IU Nat}(hsz:∀(k:Nat),k∈S->k<ops.size):∀(l:IU Nat) (tm:IU AV) (H':IU Box) (c:Cx),(∀i∈l,i∈S)->Left P G nb ops H c0 w0 a w C B l tm H' c->sj ops C l tm H' K->∃tm2 H2 c2,K tm2 H2/\G9 G nb c2 H2 w tm2 a/\Hs c0 w0 c2 w/\zl c0 H c2 H2
 |[],tm,H',c,_,h,hk=>by
  refine⟨tm,H',c,hk,⟨h.hr,h.gr,⟨by rw[h.len];simp,λt v x hv hx=>?_⟩,h.df⟩,h.ext,h.keep⟩;simp only[Du]at hv;have:=h.slot t x v hx hv (by simp);cases x<;>first
   |exact this
   |exact Hu (GS hx) (h.no _ _ _)
 |i::l,tm,H',c,hal,h,hk=>by
  obtain⟨T,d,hop,hdst,htmp,⟨cs,aas,hown,hC,hcs⟩,hge⟩:=h.own i (by simp);simp only[sj,hop,hC]at hk
  ·have hR2:=h.hr.adopt hown hcs;have hnd:=EO.1 h.nd;refine s0 hsz l _ _ (c.grow (B i) 0) (λk hk=>hal k (by simp[hk])) ?_ hk;have hoi:=zb (hsz i (hal i (by simp)));refine { hr:=hR2,gr:= ?_,ext:= ?_,keep:= ?_,df:=h.df.grow hown.2.1,len:=by rw[xR];exact h.len,no:= ?_,slot:= ?_,own:= ?_,nd:=hnd.2,inj:=λp hp q hq=>h.inj p (by simp[hp]) q (by simp[hq]) }
   ·exact h.gr
   ·refine⟨h.ext.os,h.ext.tape,h.ext.output,h.ext.isub,h.ext.jsub,h.ext.icell,h.ext.jobj,h.ext.size,h.ext.frame,h.ext.inew,h.ext.jnew,λl' b k hl=>?_⟩;rcases zo hl with hl|⟨_,hl⟩
    ·exact h.ext.fresh l' b k hl
    ·simp at hl;right;omega
   ·intro l' x hx;have h1:=h.keep l' x hx;have kp:=Ct c H' (B i) 0 (.cells T aas) h.hr.len;cases x with
    |vec m sz =>
     obtain⟨m',a1,b1,e1⟩:=h1;obtain⟨m'',a2,b2,e2⟩:=kp l' _ a1;exact⟨m'',a2,EN b1 b2,λhe=>by
      have x1:m=m':=by omega
      have x2:m'=m'':=by omega
      rw[e2 x2,e1 x1]⟩
    |dead=>trivial
    |arr sz ds =>
     obtain⟨⟨ds',a1,n1⟩,e1⟩:=h1;obtain⟨⟨ds'',a2,n2⟩,e2⟩:=kp l' _ a1;exact⟨⟨ds'',a2,n2.trans n1⟩,by rw[e2,e1]⟩
    |cells T' cs =>
     obtain⟨⟨cs',a1⟩,e1⟩:=h1;obtain⟨⟨cs'',a2⟩,e2⟩:=kp l' _ a1;exact⟨⟨cs'',a2⟩,by rw[e2,e1]⟩
    |map es =>
     obtain⟨⟨cs',a1⟩,e1⟩:=h1;obtain⟨⟨cs'',a2⟩,e2⟩:=kp l' _ a1;exact⟨⟨cs'',a2⟩,by rw[e2,e1]⟩
    |loop tm ps asn bd pend st =>
     obtain⟨⟨p1,s1,a1⟩,e1⟩:=h1;obtain⟨⟨p2,s2,a2⟩,e2⟩:=kp l' _ a1;exact⟨⟨p2,s2,a2⟩,by rw[e2,e1]⟩
   ·intro g p x hm;rw[hdst]at hm;simp only[wh]at hm;rcases zxb hm with hm|hm
    ·exact h.no g p x hm
    ·cases hm
   ·intro t x v hx hv hall;by_cases e:d=t
    ·subst e;rw[hdst]at hx;simp only[wh]at hx;rw[E4]at hx;simp only[if_true]at hx;split at hx
     ·simp at hx;subst hx;rw[htmp]at hv;simp at hv;subst hv;refine .ptr (T:=T) (cs:=aas) (k:=0) (by simp) ?_;have:(c.grow (B i) 0).ρ=c.ρ++[some (B i,0)]:=rfl;rw[this,←h.hr.len];simp
     ·simp at hx
    ·rw[ug (by rw[hdst];simpa using e)]at hx;refine(h.slot t x v hx hv λk hk=>?_).grow h.hr.len;rcases F5.1 hk with rfl|hk
     ·rw[hdst];simpa using e
     ·exact hall k hk
   ·intro k hk;obtain⟨T',d',p1,p2,p3,p4,p5⟩:=h.own k (by simp[hk]);obtain⟨cs',aas',p4,p6,p7⟩:=p4;refine⟨T',d',p1,p2,p3,⟨cs',aas',⟨p4.1,p4.2.1,λl' q hl=>?_,p4.2.2.2.1,p4.2.2.2.2⟩,p6,p7.mono λ_ _ h'=>h'.grow h.hr.len⟩,p5⟩;rcases zo hl with hl|⟨_,hl⟩
    ·exact p4.2.2.1 l' q hl
    ·simp at hl;have:=h.inj k (by simp[hk]) i (by simp) hl.1;exact hnd.1 (this ▸ hk)
end
theorem vG {p q:Nat->Bool}{i:Nat}:∀(l:IU Nat),(∀k,q k=true->p k=true)->p i=true->q i=false->i∈l->l.countP q+1<=l.countP p
 |[],_,_,_,h=>by simp at h
 |x::l,h1,h2,h3,hm=>by
  have mono:l.countP q<=l.countP p:=IU.countP_mono_left λk _ hk=>h1 k hk;rcases F5.1 hm with rfl|hm
  ·rw[IU.countP_cons_of_neg (by rw[h3];simp),IU.countP_cons_of_pos h2];omega
  ·have ih:=vG l h1 h2 h3 hm;rw[B1,B1];by_cases hq:q x=true
   ·simp[hq,h1 x hq];omega
   ·simp only[hq];by_cases hp:p x=true
    ·simp[hp];omega
    ·simp[hp];omega
theorem qK {p:Nat->Bool}(j:Nat):∀n,(∀k,j<=k->k<n->p k=true)->n - j<=(Gp n).countP p
 |0,_=>by simp
 |n+1,h=>by
  have ih:=qK j n λk h1 h2=>h k h1 (by omega);rw[IU.range_succ,IU.countP_append];by_cases hj:j<=n
  ·have:=h n hj (by omega);simp[this];omega
  ·omega
section
variable {P:HP}{G:Nat->IQ (IU D)}{nb:Nat}{rd:IQ Nat}{ops:IG Hp}{Q:GW->HA->H5->Prop}
def vF (ops:IG Hp) (listed:IG Bool):Nat:=(Gp ops.size).countP λi=>!yy listed i
theorem y6 {listed:IG Bool}{i:Nat}(hs:listed.size=ops.size):i∈Ek .any ops listed↔ ∃o,ops[i]? = some o/\yy listed i=false/\∀e∈o.after.toList,Ed .any e=true->yy listed e.on=true:=by
 simp only[Ek,FE,Fz,HC,Fe];constructor
 ·rintro⟨hi,h1,h2⟩;have ho:=zb hi;rw[ho]at h2;simp only[Fi,FT]at h2;refine⟨_,ho,?_,λe he hb=>?_⟩
  ·unfold yy;rw[FN]at h1 ⊢;have:i<listed.size:=by omega
   simp[this]at h1 ⊢;exact h1
  ·have:=(zzL.1 h2) e (by simpa using he);simp only[hb,El,FD]at this;exact this
 ·rintro⟨o,ho,h1,h2⟩;have hi:=zL ho;refine⟨hi,?_,?_⟩
  ·unfold yy at h1;rw[FN]at h1 ⊢;have:i<listed.size:=by omega
   simp[this]at h1 ⊢;exact h1
  ·rw[ho];simp only[Fi,FT];refine zzL.2 λe he=>?_;by_cases hb:Ed .any e=true
   ·have:=h2 e (by simpa using he) hb;simp only[hb,El,FD];exact this
   ·simp[hb]
theorem gc {K:IU AV->IU Box->Prop}(hed:∀j o,ops[j]? = some o->∀e∈o.after.toList,Ed .any e=true->e.on<j) {hn:Nat}(htl:∀j,j<ops.size->hn<=j->∀i,hn<=i->i<j->xU ops j i=true):∀(fuel j:Nat) (listed:IG Bool) (c:Cx) (H:IU Box) (w:H5) (tm:IU AV) (a:HA),hn<=j->j<=ops.size->listed.size=ops.size->(∀k,k<ops.size->(yy listed k=true↔k<j))->xV ops listed->ops.size - j<=fuel->G9 G nb c H w tm a->sk P G ops (ops.toList.drop j) tm H K->(∀a' w' c' tm' H',K tm' H'->G9 G nb c' H' w' tm' a'->Hs c w c' w'->zl c H c' H'->Q .normal a' w')->wpAnyIn (vI rd) 0 P .any ops Q fuel listed a w:=by
 intro fuel;induction fuel with
 |zero =>
  intro j listed c H w tm a hj hjs hs hl hcl hf hR h hq;have e:j=ops.size:=by omega
  subst e;have hd0:ops.toList.drop ops.size=[]:=Fx (by simp);rw[hd0]at h;refine⟨Aw.2 λi hi=>?_,hq a w c tm H h hR (Fq _ _) (GV _ _)⟩;obtain⟨o,ho,h1,_⟩:=(y6 hs).1 hi;have:=(hl i (zL ho)).2 (zL ho);rw[h1]at this;cases this
 |succ fuel ih =>
  intro j listed c H w tm a hj hjs hs hl hcl hf hR h hq;rcases G4 j ops.size with hlt|hge
  ·have hoj:=zb hlt;have hjr:j∈Ek .any ops listed:=(y6 hs).2 ⟨_,hoj,by
    cases hx:yy listed j with
    |false=>rfl
    |true=>exact Hu ((hl j hlt).1 hx) (DJ _),λe he hb=>by
    have:=hed j _ hoj e he hb;exact(hl e.on (by omega)).2 this⟩
   refine⟨λh0=>by rw[h0]at hjr;simp at hjr,λi hi=>?_⟩;obtain⟨o,ho,h1,h2⟩:=(y6 hs).1 hi;have hij:i=j:=by
    rcases zy5 i j with h3|h3|h3
    ·have:=(hl i (zL ho)).2 h3;rw[h1]at this;cases this
    ·exact h3
    ·have hb:=htl i (zL ho) (by omega) j hj h3;have:=wJ hcl ho hi j hb;exact Hu ((hl j hlt).1 this) (DJ _)
   subst hij;have hdrop:ops.toList.drop i=zm ops i::ops.toList.drop (i+1):=by
    have hlt':i<ops.toList.length:=by simpa using hlt
    rw[IU.drop_eq_getElem_cons hlt'];congr 1;simp[zm,FN,hlt]
   rw[hdrop]at h;have hb:∀k,xU ops i k=true->yy listed k=true:=wJ hcl ho hi;refine gg hoj hR h ?_;intro a' w' c' tm' H' hk hR' e k;refine ih (i+1) (listed.setIfInBounds i true) c' H' w' tm' a' (by omega) (by omega) (by simp[hs]) (λm hm=>?_) (CM hs hlt hcl hb) (by omega) hR' hk λa2 w2 c2 tm2 H2 hk2 hR2 e2 k2=>hq a2 w2 c2 tm2 H2 hk2 hR2 (e.trans e2) (k.trans k2);rw[zc hs hlt];by_cases e':m=i
   ·simp[e']
   ·simp only[IE e'];rw[hl m hm];omega
  ·have e:j=ops.size:=by omega
   subst e;have hd0:ops.toList.drop ops.size=[]:=Fx (by simp);rw[hd0]at h;refine⟨λ_=>hq a w c tm H h hR (Fq _ _) (GV _ _),λi hi=>?_⟩;obtain⟨o,ho,h1,_⟩:=(y6 hs).1 hi;have:=(hl i (zL ho)).2 (zL ho);rw[h1]at this;cases this
theorem qJ {H:IU Box}{c0:Cx}{w0:H5}{K:IU AV->IU Box->Prop}{fuel:Nat}{listed:IG Bool}{a:HA}{w:H5}(hd:Et ops) (hdt:∀j,j<ops.size->zi ops<=j->∀i,zi ops<=i->i<j->xU ops j i=true) (hq:∀a' w' c' tm' H',K tm' H'->G9 G nb c' H' w' tm' a'->Hs c0 w0 c' w'->zl c0 H c' H'->Q .normal a' w') (hf:vF ops listed<=fuel) (hall:∀i,i<zi ops->yy listed i=true) (hM:N4 P G nb ops H c0 w0 (λtm1=>xg P ops (zQ ops) (zW tm1) H λtm2 H2=>sk P G ops (ops.toList.drop (zi ops)) tm2 H2 K) listed a w):wpAnyIn (vI rd) 0 P .any ops Q fuel listed a w:=by
 obtain⟨c,tm,done,r,B,Z,hD,hZ,htl,hrc⟩:=hM;have hr:r=[]:=by
  rcases hrc with h|⟨i,r',rfl,_⟩
  ·exact h
  ·have h1:=hD.unl i (by simp);have h2:=hall i (yC.1 (xf hD.ord i (by simp)).1).1;rw[h2]at h1;cases h1
 subst hr;have hk:=hD.v;simp only[gd]at hk;have hsz:∀k,k∈zQ ops->k<ops.size:=λk hk=>by simp only[zQ,FE,Fz]at hk;exact F4 hk.1 (xo ops)
 have hown:∀i∈zQ ops,∃T d,(zm ops i).op = .alloc T/\(zm ops i).dst=some d/\a.tmps[d]? = some (.pointer (some ⟨B i,0,none⟩))/\(∃cs aas,nx c w (B i) (.cells cs T (0,0))/\mP P T=some aas/\zy (λv a=>RA c H w a v) cs.toList aas)/\w0.heap.size<=B i:=by
  intro i hi;simp only[zQ,FE,Fz]at hi;cases hop:(zm ops i).op<;>rw[hop]at hi<;>simp[isAllocO]at hi
  rename_i T;obtain⟨d,h1,h2,h3,h4⟩:=hD.fresh i _ T (zb (F4 hi (xo ops))) hop hi (hall i hi);obtain⟨z,hz,hzi⟩:=hZ i _ T (zb (F4 hi (xo ops))) hop hi (hall i hi);rw[hzi]at h3;exact⟨T,d,rfl,h1,h2,⟨_,_,h3,by simp[mP,hz],CN _⟩,h4⟩
 have hLeft:Left P G nb ops H c0 w0 a w (λ_ T=>mP P T) B (zQ ops) (zW tm) H c:=by
  refine { hr:=hD.hr,gr:=hD.gr,ext:=hD.ext,keep:=hD.keep,df:=hD.df,len:=by simp[zW,hD.len],no:= ?_,slot:= ?_,own:=hown,nd:= ?_,inj:= ?_ }
  ·intro g p x hm;simp only[zW,Gd]at hm;obtain⟨y,_,hy⟩:=hm;cases y<;>simp[dull]at hy
  ·intro t x v hx hv hno;simp only[zW,G5]at hx;cases hy:tm[t]? with
   |none=>rw[hy]at hx;simp at hx
   |some y =>
    rw[hy]at hx;simp at hx;subst hx;have hs:=hD.slot t y v hy hv λk o hk hdk=>by
     rcases G4 k (zi ops)with h1|h1
     ·right;refine⟨hall k h1,?_⟩;cases ha:isAllocO o.op with
      |false=>rfl
      |true =>
       have hka:k∈zQ ops:=by simp only[zQ,FE,Fz];exact⟨h1,by rw[yu hk];exact ha⟩
       exact Hu (by rw[yu hk];exact hdk) (hno k hka)
     ·exact .inl h1
    cases y<;>first
     |exact hs
     |exact Di v
  ·exact Aj (zzB) (zyx)
  ·intro i hi j hj hB;have hi':=hi;have hj':=hj;simp only[zQ,FE,Fz]at hi' hj';obtain⟨T,d,o1,_⟩:=hown i hi;obtain⟨T',d',o2,_⟩:=hown j hj;exact hD.binj i j _ _ T T' (zb (hsz i hi)) (zb (hsz j hj)) o1 o2 hi'.1 hj'.1 (hall i hi'.1) (hall j hj'.1) hB
 obtain⟨tm2,H2,c2,hk2,hR2,he2,hkp2⟩:=s0 hsz (zQ ops) (zW tm) H c (λ_ h=>h) hLeft hk;refine gc hd.edges hdt fuel (zi ops) listed c2 H2 w tm2 a (GE _) (xo ops) hD.lsz (λk hk=>⟨λh=>?_,λh=>hall k h⟩) hD.closed ?_ hR2 hk2 λa' w' c' tm' H' hk' hR' e k=>hq a' w' c' tm' H' hk' hR' (he2.trans e) (hkp2.trans k)
 ·rcases G4 k (zi ops)with h1|h1
  ·exact h1
  ·have:=htl k h1;rw[h]at this;cases this
 ·refine EN (qK (zi ops) ops.size λk h1 _=>?_) hf;rw[htl k h1];rfl
theorem xQ {listed:IG Bool}:∀n,(∃i,i<n/\yy listed i=false)->∃i,i<n/\yy listed i=false/\∀k,k<i->yy listed k=true
 |0,⟨i,hi,_⟩=>by omega
 |n+1,⟨i,hi,h⟩=>by
  by_cases hex:∃i,i<n/\yy listed i=false
  ·obtain⟨j,h1,h2,h3⟩:=xQ n hex;exact⟨j,by omega,h2,h3⟩
  ·have hin:i=n:=by
    rcases G4 i n with h1|h1
    ·exact Hu ⟨i,h1,h⟩ hex
    ·omega
   subst hin;refine⟨i,hi,h,λk hk=>?_⟩;cases hx:yy listed k with
   |true=>rfl
   |false=>exact Hu ⟨k,hk,hx⟩ hex
theorem Nr {H:IU Box}{c0:Cx}{w0:H5}{K:IU AV->IU Box->Prop}(hd:Et ops) (hdt:∀j,j<ops.size->zi ops<=j->∀i,i<j->xU ops j i=true) (hal:∀(k:Nat) o T,ops[k]? = some o->o.op = .alloc T->k<zi ops->∃z,yZ P T=some z) (hq:∀a' w' c' tm' H',K tm' H'->G9 G nb c' H' w' tm' a'->Hs c0 w0 c' w'->zl c0 H c' H'->Q .normal a' w'):∀(fuel:Nat) (listed:IG Bool) (a:HA) (w:H5),vF ops listed<=fuel->N4 P G nb ops H c0 w0 (λtm1=>xg P ops (zQ ops) (zW tm1) H λtm2 H2=>sk P G ops (ops.toList.drop (zi ops)) tm2 H2 K) listed a w->wpAnyIn (vI rd) 0 P .any ops Q fuel listed a w:=by
 intro fuel;induction fuel with
 |zero =>
  intro listed a w hf hM;refine qJ hd (λj hj hh i _ hi=>hdt j hj hh i hi) hq hf (λi hi=>?_) hM;cases hx:yy listed i with
  |true=>rfl
  |false =>
   have:0<vF ops listed:=Bc.2 ⟨i,by simp;exact F4 hi (xo ops),by simp[hx]⟩;omega
 |succ fuel ih =>
  intro listed a w hf hM;by_cases hall:∀i,i<zi ops->yy listed i=true
  ·exact qJ hd (λj hj hh i _ hi=>hdt j hj hh i hi) hq hf hall hM
  ·have hex:∃i,i<zi ops/\yy listed i=false:=by
    rcases EA (∃i,i<zi ops/\yy listed i=false)with h|h
    ·exact h
    ·exact Hu (λi hi=>by
      cases hx:yy listed i with
      |true=>rfl
      |false=>exact Hu ⟨i,hi,hx⟩ h) hall
   obtain⟨i0,h1,h2,h3⟩:=xQ (zi ops) hex;have hlsz:listed.size=ops.size:=by obtain⟨_,_,_,_,_,_,hD,_⟩:=hM;exact hD.lsz
   have hcl:xV ops listed:=by obtain⟨_,_,_,_,_,_,hD,_⟩:=hM;exact hD.closed
   have hi0:i0<ops.size:=F4 h1 (xo ops);have hready:i0∈Ek .any ops listed:=(y6 hlsz).2 ⟨_,zb hi0,h2,λe he hb=>h3 _ (hd.edges i0 _ (zb hi0) e he hb)⟩;refine⟨λh0=>by rw[h0]at hready;simp at hready,λi hi=>?_⟩;obtain⟨o,ho,hul,_⟩:=(y6 hlsz).1 hi;have hb:∀k,xU ops i k=true->yy listed k=true:=wJ hcl ho hi;have hisz:=zL ho;have hih:i<zi ops:=by
    rcases G4 i (zi ops)with h|h
    ·exact h
    ·exact Hu (λk hk=>hb k (hdt i hisz h k (by omega))) hall
   refine wpOpIn_mono (λa' w' hM'=>ih _ a' w' ?_ hM') (N4.step hd hal hM hih hul hb);have hdec:vF ops (listed.setIfInBounds i true)+1<=vF ops listed:=vG (p:=λk=>!yy listed k) (q:=λk=>!yy (listed.setIfInBounds i true) k) (i:=i) (Gp ops.size) (λk hk=>by
    rw[zc hlsz hisz]at hk;split at hk
    ·simp at hk
    ·exact hk) (by simp[hul]) (by rw[zc hlsz hisz];simp) (by simpa using hisz)
   omega
theorem db {c:Cx}{H:IU Box}{w:H5}{tm:IU AV}{a:HA}{K:IU AV->IU Box->Prop}(hR:G9 G nb c H w tm a) (h:UQ P G ops tm H K) (hq:∀a' w' c' tm' H',K tm' H'->G9 G nb c' H' w' tm' a'->Hs c w c' w'->zl c H c' H'->Q .normal a' w'):wpAnyIn (vI rd) 0 P .any ops Q ops.size (GQ ops.size false) a { w with drawn:=w.drawn+1 }:=by
 unfold UQ at h;split at h
 ·rename_i hok;simp only[HC]at hok;obtain⟨⟨⟨hok,hno⟩,hrng⟩,halz⟩:=hok;have hd:=Yg hok;have hdt:=bj hok;have hal:∀(k:Nat) o T,ops[k]? = some o->o.op = .alloc T->k<zi ops->∃z,yZ P T=some z:=by intro k o T hk hop _;have:=G3.1 halz o (by simpa using C2 hk);rw[hop]at this;exact DQ.1 this
  have hlst:∀k,yy (GQ ops.size false) k=false:=by
   intro k;unfold yy;rw[FN];by_cases hk:k<ops.size
   ·simp[hk]
   ·simp[Ch (show(GQ ops.size false).size<=k by simpa using hk)]
  have hnoopt:∀g p x,Cp g p x∉tm:=λg p x hx=>by have:=G3.1 hno _ hx;simp[noOptB]at this
  have hD:EX P G nb ops H c w (λtm1=>xg P ops (zQ ops) (zW tm1) H λtm2 H2=>sk P G ops (ops.toList.drop (zi ops)) tm2 H2 K) (GQ ops.size false) a { w with drawn:=w.drawn+1 } c tm [] (ny ops) (λ_=>0) (λ_=>.cells #[] 0 (0,0)) (λ_=>HD):=by
   refine { hr:=hR.hr.drew _,gr:=hR.gr.ext (FB c w _),ext:=FB c w _,keep:=GV _ _,df:=hR.df.ext (FB c w _),lsz:=by simp,closed:= ?_,len:= ?_,rng:= ?_,slot:= ?_,opt:= ?_,v:=h,ord:=hd.ord,dn:= ?_,dh:= ?_,unl:=λi _=>hlst i,pend:= ?_,fresh:= ?_,binj:= ?_ }
   ·intro j i hj _;have:yy (GQ ops.size false) j=true:=hj;rw[hlst]at this;cases this
   ·have:=hR.tm.1;simpa using this.symm
   ·intro k o d hk hdk;have:=G3.1 hrng o (by simpa using C2 hk);rw[hdk]at this;simpa using this
   ·intro t x v hx hv _;have:=hR.tm.2 t v x (by simpa using hv) hx;exact this.ext (FB c w _) (GV _ _)
   ·intro t g p x hx;exact Hu (GS hx) (hnoopt g p x)
   ·intro k hk;simp at hk
   ·intro k hk;simp at hk
   ·intro k hk;simp at hk
   ·intro i o T _ _ _ hl;rw[hlst]at hl;cases hl
   ·intro i i' o o' T T' _ _ _ _ _ _ hl;rw[hlst]at hl;cases hl
  obtain⟨tm',done',r',hD',hrc⟩:=hD.advance hd;refine Nr hd hdt hal hq ops.size _ a _ ?_ ⟨c,tm',done',r',_,_,hD',(λk o T _ _ _ hl=>by rw[hlst]at hl;cases hl),(λj _=>hlst j),hrc⟩;have:=C3 (p:=λi=>!yy (GQ ops.size false) i) (l:=Gp ops.size);simpa[vF]using this
 ·exact h.elim
theorem Yf {id:Nat}{c:Cx}{H:IU Box}{w:H5}{tm:IU AV}{a:HA}{K:IU AV->IU Box->Prop}(hm:P.follows .mixedOrders=true) (hR:G9 G nb c H w tm a) (h:UQ P G ops tm H K) (hq:∀a' w' c' tm' H',K tm' H'->G9 G nb c' H' w' tm' a'->Hs c w c' w'->zl c H c' H'->Q .normal a' w'):(AH id ops true).wpIn (vI rd) 0 P Q a w:=wpIn_region_any hm (db hR h hq)
end
section
variable {P:HP}{G:Nat->IQ (IU D)}{nb:Nat}{c:Cx}{H:IU Box}{w:H5}{tm:IU AV}{a:HA}
theorem RA.world {w1:H5}(e:∀v x,R1 c.I c.J w v x->R1 c.I c.J w1 v x) (ei:∀b o,c.I b o->w1.cell? ⟨b,o,none⟩=w.cell? ⟨b,o,none⟩) {av:AV}{v:Value}(h:RA c H w av v):RA c H w1 av v:=by
 induction h with
 |@d x v h =>
  refine .d ?_;cases x<;>simp only[RV]at h ⊢ <;> first
   |exact e _ _ h
   |(obtain⟨vs,rfl,hv⟩:=h;exact⟨vs,rfl,hv.mono λ_ _=>e _ _⟩)
 |ptr hH h=>exact .ptr hH h
 |iptr h=>exact .iptr λj x hx=>⟨(h j x hx).1,by obtain⟨hi,v,hv,hr⟩:=h j x hx;exact⟨v,by rw[ei _ _ hi];exact hv,e _ _ hr⟩⟩
 |clo hf hc _ _ ih1 ih2=>exact .clo hf hc ih1 ih2
 |full h=>exact .full (e _ _ h)
 |nils=>exact .nils
 |nilf=>exact .nilf
 |fsym o=>exact .fsym o
 |vec h hH hn he=>exact .vec (e _ _ h) hH hn he
 |map hH h=>exact .map hH h
 |tup hl _ ih=>exact .tup hl ih
 |agg hl _ ih=>exact .agg hl ih
 |any v=>exact .any v
 |opt g p x v=>exact .opt g p x v
 |yld hH h=>exact .yld hH h
 |msl hH h=>exact .msl hH h
 |eptr hH h=>exact .eptr hH h
theorem R1.world {w1:H5}(hi:∀b o,c.I b o->w1.cell? ⟨b,o,none⟩=w.cell? ⟨b,o,none⟩) (hj:∀r,c.J r->w1.heap[r]? = w.heap[r]?) {v:Value}{x:D}(h:R1 c.I c.J w v x):R1 c.I c.J w1 v x:=by
 induction h with
 |int k n=>exact .int k n
 |bool b=>exact .bool b
 |str s=>exact .str s
 |fn f=>exact .fn f
 |nil=>exact .nil
 |emp a cap=>exact .emp a cap
 |sl b off cap sz ds vals hsz hc hr hcap ih =>
  exact .sl b off cap sz ds vals hsz (λi j d hd=>⟨(hc i j d hd).1,by rw[hi _ _ (hc i j d hd).1];exact(hc i j d hd).2⟩) ih hcap
 |gmap r ents clk es hJ hw hlen hk hv ihk ihv=>exact .gmap r ents clk es hJ (by rw[hj _ hJ];exact hw) hlen ihk ihv
theorem RV.world {w1:H5}(e:∀v x,R1 c.I c.J w v x->R1 c.I c.J w1 v x) {v:Value}{x:D}(h:RV c.I c.J w v x):RV c.I c.J w1 v x:=by
 cases x<;>simp only[RV]at h ⊢ <;> first
  |exact e _ _ h
  |(obtain⟨vs,rfl,hv⟩:=h;exact⟨vs,rfl,hv.mono λ_ _=>e _ _⟩)
structure Aside' (c:Cx) (w w1:H5) (m:Nat):Prop where
 os:w1.os=w.os
 tape:w1.tape=w.tape
 output:w1.output=w.output
 size:w1.heap.size=w.heap.size
 other:∀b,b≠m->w1.heap[b]? = w.heap[b]?
 nρ:∀l k:Nat,c.ρ[l]? ≠ some (some (m,k))
 nI:∀o,¬ c.I m o
 nJ:¬ c.J m
theorem Aside'.icell {m:Nat}{w1:H5}(h:Aside' c w w1 m):∀b o,c.I b o->w1.cell? ⟨b,o,none⟩=w.cell? ⟨b,o,none⟩:=λb o hi=>by have:b≠m:=λe=>h.nI o (e ▸ hi);simp[Ec,h.other b this]
theorem Aside'.jobj {m:Nat}{w1:H5}(h:Aside' c w w1 m):∀r,c.J r->w1.heap[r]? = w.heap[r]? :=λr hr=>h.other r λe=>h.nJ (e ▸ hr)
theorem Aside'.r1 {m:Nat}{w1:H5}(h:Aside' c w w1 m):∀v x,R1 c.I c.J w v x->R1 c.I c.J w1 v x:=λ_ _ hr=>hr.world h.icell h.jobj
theorem Aside'.ra {m:Nat}{w1:H5}(h:Aside' c w w1 m) {av:AV}{v:Value}(hr:RA c H w av v):RA c H w1 av v:=hr.world h.r1 h.icell
theorem Aside'.hr {m:Nat}{w1:H5}(h:Aside' c w w1 m) (hR:HR c H w):HR c H w1 where
 len:=hR.len
 inj:=hR.inj
 box l b k x h1 h2:=by
  have hb:w1.heap[b]? = w.heap[b]? :=h.other b λe=>h.nρ l k (e ▸ h1);have h3:=hR.box l b k x h1 h2;cases x with
  |cells T cs=>obtain⟨vs,h4,h5⟩:=h3;exact⟨vs,by rw[hb];exact h4,h5.mono λ_ _ hx=>h.ra hx⟩
  |map es=>obtain⟨en,clk,h4,h5⟩:=h3;exact⟨en,clk,by rw[hb];exact h4,h5.mono λ_ _ hx=>⟨hx.1.world h.r1,hx.2.world h.r1⟩⟩
  |vec n sz=>obtain⟨vs,T,h4,h5⟩:=h3;exact⟨vs,T,by rw[hb];exact h4,h5⟩
  |dead=>trivial
  |arr sz ds=>obtain⟨vs,T,h4,h5,h6⟩:=h3;exact⟨vs,T,by rw[hb];exact h4,h5,h6.mono λ_ _ hx=>h.r1 _ _ hx⟩
  |loop tm ps asn bd pend st=>obtain⟨r,h4,h5,h6,h7,h8,h9,h10⟩:=h3;exact⟨r,by rw[hb];exact h4,h5,h6,h7,h8,h9,h10.mono λ_ _ hx=>h.ra hx⟩
 non:=hR.non
 lt l b k h1:=by rw[h.size];exact hR.lt l b k h1
 ilt b o hi:=by rw[h.size];exact hR.ilt b o hi
 jlt r hr:=by rw[h.size];exact hR.jlt r hr
 iap:=hR.iap
 jap:=hR.jap
theorem Aside'.gr {m:Nat}{w1:H5}(h:Aside' c w w1 m) (hG:GR G c w):GR G c w1:=by intro g cs hg j y hy;obtain⟨h1,v,h2,h3⟩:=hG g cs hg j y hy;exact⟨h1,v,by rw[h.icell _ _ h1];exact h2,h.r1 _ _ h3⟩
theorem Aside'.slots {m:Nat}{w1:H5}(h:Aside' c w w1 m) (hT:Nw c H w a.tmps tm):Nw c H w1 a.tmps tm:=hT.mono λv x hx=>by
 cases x<;>simp only[xj]at hx ⊢ <;> first
  |exact h.ra hx
  |exact⟨λhg=>h.ra (hx.1 hg),hx.2⟩
theorem Aside'.ext {c0:Cx}{w0:H5}{m:Nat}{w1:H5}(h:Aside' c w w1 m) (e:Hs c0 w0 c w) (hm:w0.heap.size<=m):Hs c0 w0 c w1 where
 os:=h.os.trans e.os
 tape:=h.tape.trans e.tape
 output:=h.output.trans e.output
 isub:=e.isub
 jsub:=e.jsub
 icell b o hi:=by rw[h.icell b o (e.isub b o hi),e.icell b o hi]
 jobj r hr:=by rw[h.jobj r (e.jsub r hr),e.jobj r hr]
 size:=by rw[h.size];exact e.size
 frame b hb hn:=by rw[h.other b (by omega),e.frame b hb hn]
 inew:=e.inew
 jnew:=e.jnew
 fresh:=e.fresh
end
def isGrow:Op->Bool
 |.call { callee:= .builtin .append,.. }=>true
 |_=>false
def isAssign:Op->Bool
 |.assign _=>true
 |_=>false
def ym (ops:IG Hp):Nat:=ops.toList.findIdx λo=>isAssign o.op||(isTail o.op&& !isGrow o.op)
def gb (ops:IG Hp):Bool:=ops.toList.any λo=>match o.op,o.dst with
 |.assign _,some d=>ops.toList.any λo'=>match o'.op with
  |.move (.tmp t)=>Dy t d
  |_=>false
 |_,_=>false
def se (ops:IG Hp):IU Nat:=(Gp (ym ops)).filter λi=>!isAllocO (zm ops i).op
def Nq (ops:IG Hp):IU Nat:=UR ops (ym ops) (se ops) []
def wg (ops:IG Hp):IU Nat:=(Gp (ym ops)).filter λi=>isAllocO (zm ops i).op
def bh (ops:IG Hp):Bool :=nodupB (ops.toList.filterMap (·.dst)) && ((Gp ops.size).all λj=>(zm ops j).after.toList.all λe=>!Ed .any e||decide (e.on<j)) && (decide (ym ops<=ops.size)&&(Gp ops.size).all λj=>decide (j<ym ops)||(Gp j).all λi=>xU ops j i) && ((Gp (ym ops)).all λj=>!isAllocO (zm ops j).op||((zm ops j).guard.isNone&&(zm ops j).dst.isSome)) && vN ops (se ops) (Nq ops) [] && ((Gp (ym ops)).all λi=>match (zm ops i).guard with|some (j,_)=>xU ops i j|none=>true) && ((Gp (ym ops)).all λj=>!isTail (zm ops j).op||(isGrow (zm ops j).op&&(zm ops j).guard.isNone&&(Gp j).all λi=>!isTail (zm ops i).op||xU ops j i))
def s3 (ops:IG Hp) (j:Nat) (tm:IU AV):IU AV:=uj ((mQ ops).getD j 0) (ops.toList.take (ym ops)) 0 tm
def Qx (ops:IG Hp) (j t:Nat):Prop:= ∃(k:Nat) (o:Hp),k<ym ops/\ops[k]? = some o/\o.dst=some t/\¬ (xU ops j k=true/\isAllocO o.op=false)
theorem vD {ops:IG Hp}{j t:Nat}{tm:IU AV}:(s3 ops j tm).length=tm.length/\(Qx ops j t->(s3 ops j tm)[t]? = (tm[t]?).map λ_=>.any)/\(¬ Qx ops j t->(s3 ops j tm)[t]? = tm[t]?):=by
 obtain⟨h1,h2,h3⟩:=rK ((mQ ops).getD j 0) (ops.toList.take (ym ops)) 0 tm t;refine⟨h1,λh=>h2 ?_,λh=>h3 λh'=>h ?_⟩
 ·obtain⟨k,o,hk0,hk,hd,hn⟩:=h;exact⟨k,o,by rw[Fa,Hv hk0];simpa using hk,hd,by simpa[xU]using hn⟩
 ·obtain⟨k,o,hk,hd,hn⟩:=h';rw[Fa]at hk;split at hk
  ·rename_i hk0;exact⟨k,o,hk0,by simpa using hk,hd,by simpa[xU]using hn⟩
  ·cases hk
theorem SA {ops:IG Hp}{j d:Nat}{tm:IU AV}{x:AV}(h:Qx ops j d):s3 ops j (tm.set d x)=s3 ops j tm:=by
 apply DO;intro t;by_cases ht:Qx ops j t
 ·rw[vD.2.1 ht,vD.2.1 ht];by_cases e:d=t
  ·subst e;rw[E4];by_cases hlt:d<tm.length
   ·simp[hlt]
   ·simp[hlt]
  ·rw[zD e]
 ·have e:d≠t:=λe=>ht (e ▸ h);rw[vD.2.2 ht,vD.2.2 ht,zD e]
theorem tZ {ops:IG Hp}{i j:Nat}{o:Hp}{tm:IU AV}{x:AV}(hi:i<ym ops) (ho:ops[i]? = some o) (hb:xU ops j i=false):s3 ops j (wh tm o.dst x)=s3 ops j tm:=by
 cases hdst:o.dst with
 |none=>rfl
 |some d=>exact SA ⟨i,o,hi,ho,hdst,λh=>by rw[hb]at h;cases h.1⟩
def Np (P:HP) (G:Nat->IQ (IU D)) (o:Hp) (tags:IU (Nat×Bool)) (tm:IU AV):Bool :=match o.op with
 |.call { callee:= .value f,args,argTypes:=_ } =>
  match calleeAV (ev G (yc tags tm) f)with
  |some (_,fi,ca)=>((fi++args.toList.map (ev G (yc tags tm))++ca).mapM avD).isSome
  |none=>false
 |_=>true
def iv (P:HP) (G:Nat->IQ (IU D)) (ops:IG Hp) (i:Nat) (tv:IU AV):Bool :=match (zm ops i).guard with
 |none=>Np P G (zm ops i) [] tv
 |some (j,p) =>
  match (ops[j]?).bind (·.dst)with
  |some g =>
   match chain 9 tv g p with
   |some (tags,_)=>Np P G (zm ops i) tags tv
   |none=>false
  |none=>false
def jh (P:HP) (G:Nat->IQ (IU D)) (ops:IG Hp) (Hb:IU Box):IU Nat->IU AV->IU Box->(IU AV->IU Box->Prop)->Prop
 |[],tm,H,K=>K tm H
 |i::r,tm,H,K =>
  if isTail (zm ops i).op then nT P G (zm ops i) [] IN (s3 ops i tm) H λav H'=>jh P G ops Hb r (wh tm (zm ops i).dst (dull av)) H' K
  else if iv P G ops i (s3 ops i tm)then wR P G ops i (s3 ops i tm) Hb λ_ a _=>jh P G ops Hb r (wh tm (zm ops i).dst a) H K
  else HD
def UP (P:HP) (G:Nat->IQ (IU D)) (ops:IG Hp) (tm:IU AV) (H:IU Box) (K:IU AV->IU Box->Prop):Prop :=if bh ops&&tm.all noOptB&&(ops.toList.all λo=>match o.dst with|some d=>decide (d<tm.length)|none=>true)&&(ops.toList.all λo=>match o.op with|.alloc T=>(yZ P T).isSome|_=>true)then jh P G ops H (Nq ops) tm H λtm1 H1=>xg P ops (wg ops) (zW tm1) H1 λtm2 H2=>sk P G ops (ops.toList.drop (ym ops)) tm2 H2 K else HD
def eA (H H':IU Box):Prop:= ∀(l:Nat) x,H[l]? = some x->(∃n sz,x = .vec n sz)∨H'[l]? = some x
theorem eA.refl (H:IU Box):eA H H:=λ_ _ h=>.inr h
theorem eA.trans {A B C:IU Box}(h1:eA A B) (h2:eA B C):eA A C:=by
 intro l x h;rcases h1 l x h with hv|hx
 ·exact .inl hv
 ·exact h2 l x hx
section
variable {P:HP}{G:Nat->IQ (IU D)}{nb:Nat}{rd:IQ Nat}{c:Cx}{H H':IU Box}{w:H5}{tm:IU AV}{a:HA}{ops:IG Hp}
theorem No {e:G1->AV}{o:Op}{r:AV×Prop}(hl:eA H H') (h:xA P e H o=some r):xA P e H' o=some r:=by
 cases o with
 |load T x =>
  simp only[xA]at h ⊢;cases hx:e x with
  |ptr l q =>
   rw[hx]at h;simp only at h ⊢;cases hb:H[l]? with
   |none=>rw[hb]at h;cases h
   |some b =>
    rw[hb]at h;cases b with
    |cells T' cs =>
     rcases hl l _ hb with⟨n,sz,hv⟩|hv
     ·cases hv
     ·rw[hv];exact h
    |_=>cases h
  |_=>rw[hx]at h;exact h
 |lookup T x k ok =>
  simp only[xA]at h ⊢;cases hx:e x with
  |map l =>
   rw[hx]at h;cases hk:MI (e k)with
   |none=>rw[hk]at h;cases h
   |some kd =>
    rw[hk]at h;simp only at h ⊢;cases hb:H[l]? with
    |none=>rw[hb]at h;cases h
    |some b =>
     rw[hb]at h;cases b with
     |map es =>
      rcases hl l _ hb with⟨n,sz,hv⟩|hv
      ·cases hv
      ·rw[hv];exact h
     |_=>cases h
  |d y =>
   rw[hx]at h;cases y<;>first
    |exact h
    |(cases hk:MI (e k)<;>rw[hk]at h<;>exact h)
  |_=>rw[hx]at h;exact h
 |call cc =>
  obtain⟨callee,args,types⟩:=cc;cases callee with
  |builtin b=>cases b<;>exact h
  |_=>exact h
 |unOp q T x=>cases q<;>exact h
 |slice T x lo hi mx=>cases mx<;>first|exact h|(cases lo<;>cases hi<;>exact h)
 |makeFunc f x y=>cases f<;>exact h
 |_=>exact h
theorem Nn {e:G1->AV}{o:Op}(hl:eA H H'):(∀r,rR P e H o=some r->rR P e H' o=some r):=by
 have keyM:∀(l:Nat) es,H[l]? = some (.map es)->H'[l]? = some (.map es):=λl es h=>by
  rcases hl l _ h with⟨n,s,hv⟩|hv
  ·cases hv
  ·exact hv
 have key:∀(l:Nat) sz ds,H[l]? = some (.arr sz ds)->H'[l]? = some (.arr sz ds):=λl sz ds h=>by
  rcases hl l _ h with⟨n,s,hv⟩|hv
  ·cases hv
  ·exact hv
 intro r h;unfold rR at h ⊢;split at h
 ·split at h
  ·split at h
   ·rename_i hb hs;rw[key _ _ _ hb,hs];exact h
   ·cases h
  ·cases h
 ·exact h
 ·split at h
  ·split at h
   ·rename_i hu hi hb;rw[hu,hi,key _ _ _ hb];exact h
   ·cases h
  ·cases h
 ·split at h
  ·rename_i x T ha ht;split at h
   ·rename_i l hx;try rw[hx]
    split at h
    ·rename_i hu hb;rw[hu,key _ _ _ hb];exact h
    ·cases h
   ·rename_i l hx;try rw[hx]
    split at h
    ·rename_i hu hb;rw[hu,keyM _ _ hb];exact h
    ·cases h
   ·cases h
  ·cases h
 ·exact h
 ·exact h
 ·exact h
 ·exact h
 ·cases h
theorem Qw {e:G1->AV}{o:Op}{q:AV×Prop}(h:rR P e H' o=some q) (h0:rR P e H o=none):xA P e H o=none:=by
 unfold rR at h;split at h
 ·split at h
  ·rename_i hx;simp only[xA,hx]
  ·cases h
 ·split at h
  ·rename_i hx;split at h
   ·rename_i hu;split at h
    ·rename_i hf;split at h
     ·rename_i hs;simp only[xA,hu,hf,hs,hx]
     ·cases h
    ·cases h
   ·cases h
  ·cases h
 ·split at h
  ·rename_i hx;split at h
   ·rename_i hu hi hb;simp only[xA,hu,hi,hx,avSl]
   ·cases h
  ·cases h
 ·split at h
  ·rename_i ha ht;split at h
   ·rename_i hx;split at h
    ·rename_i hu hb;simp only[xA,ha,ht,hu,hx,avSl,IQ.map_none]
    ·cases h
   ·rename_i hx;split at h
    ·rename_i hu hb;simp only[xA,ha,ht,hu,hx]
    ·cases h
   ·cases h
  ·cases h
 ·rfl
 ·rfl
 ·rfl
 ·split at h
  ·rename_i hx;split at h
   ·rename_i hu h1 h2;simp only[xA,hu,hx,avSl]
   ·cases h
  ·cases h
 ·cases h
theorem My {e:G1->AV}{o:Op}{r:AV×Prop}(hl:eA H H') (h:Wp P e H o=some r):Wp P e H' o=some r:=by
 unfold Wp at h ⊢;cases hm:rR P e H o with
 |some q=>rw[hm]at h;rw[Nn hl _ hm];exact h
 |none =>
  rw[hm]at h;cases hm':rR P e H' o with
  |none=>exact No hl h
  |some q =>
   have:=Qw hm' hm;simp only[this]at h;cases h
theorem UO {e:G1->AV}{o:Op}{av:AV}{F:Prop}(hg:isGrow o=true) (h:um P e H o=some (av,H',F)):eA H H':=by
 cases o with
 |call cc =>
  obtain⟨callee,args,types⟩:=cc;cases callee with
  |builtin b =>
   cases b<;>simp[isGrow]at hg
   simp only[um]at h;split at h
   ·split at h
    ·unfold jB at h;split at h
     ·split at h
      ·split at h
       ·split at h
        ·split at h
         ·split at h
          ·cases h;intro l x hx;exact .inr (xr hx)
          ·split at h
           ·rename_i l _ _ _ _ _ hb;cases h;intro l' x hx;by_cases e':l=l'
            ·subst e';rw[hb]at hx;cases hx;exact .inl ⟨_,_,rfl⟩
            ·right;rw[E4];rw[IE e'];exact hx
           ·cases h
          ·cases h
         ·cases h
        ·cases h
       ·cases h
      ·cases h
     ·cases h
    ·cases h
   ·cases h
  |_=>simp[isGrow]at hg
 |_=>simp[isGrow]at hg
theorem Qv {o:Hp}{tags:IU (Nat×Bool)}{C:Prop}{K:AV->IU Box->Prop}(h1:isTail o.op=false) (h2:isAllocO o.op=false) (hl:eA H H') (hd:Np P G o tags tm=true) (h:nT P G o tags C tm H K): nT P G o tags C tm H' λav H2=>H2=H'/\K av H:=by
 unfold nT at h ⊢;split at h
 ·split at h
  ·exact⟨by first|rfl|trivial,h⟩
  ·exact h.elim
 ·rename_i f args types hop;unfold Np at hd;rw[hop]at hd;simp only at hd;split at h
  ·rename_i k fi ca hcal;simp only[hcal]at hd ⊢;split at h
   ·rename_i hok;rw[Hv hok];split at h
    ·exact h.mono λrs hrs=>exTys_mono _ _ _ (λds hd=>⟨hd.1,by first|rfl|trivial,hd.2⟩) hrs
    ·rename_i hn;rw[hn]at hd;cases hd
   ·exact h.elim
  ·rename_i hcal;rw[hcal]at hd;cases hd
 ·unfold qN at h ⊢;cases hf:Wp P (ev G (yc tags tm)) H o.op with
  |none =>
   rw[hf]at h;simp only[dg h1 h2]at h;cases tags<;>exact h.elim
  |some q =>
   obtain⟨av,F⟩:=q;rw[My hl hf];rw[hf]at h;simp only at h ⊢;split at h
   ·rename_i ht;rw[Hv ht];exact⟨by first|rfl|trivial,h⟩
   ·rename_i ht;rw[IE ht];cases tags<;>exact⟨h.1,by first|rfl|trivial,h.2⟩
theorem Ye {i:Nat}{tv:IU AV}{K:AV->AV->IU Box->Prop}(h1:isTail (zm ops i).op=false) (h2:isAllocO (zm ops i).op=false) (hl:eA H H') (hd:iv P G ops i tv=true) (h:wR P G ops i tv H K): wR P G ops i tv H' λav a2 H2=>H2=H'/\K av a2 H:=by
 unfold wR at h ⊢;unfold iv at hd;split at h
 ·rename_i hg;rw[hg]at hd;exact Qv h1 h2 hl hd h
 ·rename_i j p hg;rw[hg]at hd;split at h
  ·rename_i g hgd;simp only[hgd]at hd;split at h
   ·exact h.elim
   ·rename_i hne;simp only[IE hne];split at h
    ·rename_i tags C hch;rw[hch]at hd;exact Qv h1 h2 hl hd h
    ·exact h.elim
  ·exact h.elim
theorem R0 {o:Hp}{K:AV->IU Box->Prop}(hg:isGrow o.op=true) (h:nT P G o [] IN tm H K):∃av H',eA H H'/\K av H'/\∀K2:AV->IU Box->Prop,K2 av H'->nT P G o [] IN tm H K2:=by
 unfold nT at h;split at h
 ·rename_i hop;rw[hop]at hg;simp[isGrow]at hg
 ·rename_i hop;rw[hop]at hg;simp[isGrow]at hg
 ·rename_i hp hc;have e:∀K2:AV->IU Box->Prop,nT P G o [] IN tm H K2=qN P (ev G (yc [] tm)) H o.op [] IN K2:=by
   intro K2;unfold nT;split
   ·rename_i h3;exact Hu h3 (hp _ _ _)
   ·rename_i h3;exact Hu h3 (hc _ _ _)
   ·rfl
  simp only[e];unfold qN at h ⊢;cases hf:Wp P (ev G (yc [] tm)) H o.op with
  |some q =>
   rw[hf]at h;obtain⟨av,F⟩:=q;simp only at h ⊢;split at h
   ·rename_i ht;exact⟨av,H,eA.refl H,h,λK2 hk=>by rw[Hv ht];exact hk⟩
   ·rename_i ht;exact⟨av,H,eA.refl H,h.2,λK2 hk=>by rw[IE ht];exact⟨h.1,hk⟩⟩
  |none =>
   rw[hf]at h;simp only at h ⊢;cases hh:um P (ev G (yc [] tm)) H o.op with
   |none=>rw[hh]at h;exact h.elim
   |some q =>
    rw[hh]at h;obtain⟨av,H',F⟩:=q;simp only at h ⊢;split at h
    ·rename_i ht;exact⟨av,H',UO hg hh,h,λK2 hk=>by rw[Hv ht];exact hk⟩
    ·rename_i ht;exact⟨av,H',UO hg hh,h.2,λK2 hk=>by rw[IE ht];exact⟨h.1,hk⟩⟩
end
open Go.Sx.eA renaming refl->A4
structure DOkT (ops:IG Hp):Prop where
 nodup:(ops.toList.filterMap (·.dst)).Nodup
 edges:∀j o,ops[j]? = some o->∀e∈o.after.toList,Ed .any e=true->e.on<j
 le:ym ops<=ops.size
 tails:∀j,j<ops.size->ym ops<=j->∀i,i<j->xU ops j i=true
 allocs:∀j o,ops[j]? = some o->j<ym ops->isAllocO o.op=true->o.guard=none/\∃d,o.dst=some d
 ord:vN ops (se ops) (Nq ops) []=true
 gbit:∀i j p,i<ym ops->(zm ops i).guard=some (j,p)->xU ops i j=true
 grow:∀j,j<ym ops->isTail (zm ops j).op=true->isGrow (zm ops j).op=true/\(zm ops j).guard=none/\∀i,i<j->isTail (zm ops i).op=true->xU ops j i=true
theorem DOkT.opt {ops:IG Hp}(hd:DOkT ops) {i j g:Nat}{p:Bool}(hi:i<ym ops) (hj1:(zm ops i).guard=some (j,p)) (hj2:(ops[j]?).bind (·.dst)=some g):∃(j:Nat) (oj:Hp),ops[j]? = some oj/\oj.dst=some g/\xU ops i j=true:=by
 have hb:=hd.gbit i j p hi hj1;cases hoj:ops[j]? with
 |none=>rw[hoj]at hj2;cases hj2
 |some oj=>rw[hoj]at hj2;exact⟨j,oj,hoj,hj2,hb⟩
theorem bg {ops:IG Hp}(h:bh ops=true):DOkT ops:=by
 simp only[bh,HC]at h;obtain⟨⟨⟨⟨⟨⟨h1,h2⟩,h0,h3⟩,h4⟩,h5⟩,h7⟩,h6⟩:=h;have hle:ym ops<=ops.size:=G0 h0;refine⟨nodupB_spec h1,λj o ho e he hb=>?_,hle,λj hj hh i hi=>?_,λj o ho hj ha=>?_,h5,λi j p hi hg=>?_,λj hj ht=>?_⟩
 ·have:=G3.1 h2 j (by simp;exact zL ho);rw[yu ho]at this;have:=G3.1 this e he;simpa[hb]using this
 ·have:=G3.1 h3 j (by simpa using hj);simp only[F9,HS]at this;rcases this with h|h
  ·omega
  ·exact G3.1 h i (by simpa using hi)
 ·have:=G3.1 h4 j (by simpa using hj);rw[yu ho]at this;simp only[ha,El,FD,HC]at this;exact⟨by simpa using this.1,DQ.1 this.2⟩
 ·have:=G3.1 h7 i (by simpa using hi);rw[hg]at this;exact this
 ·have:=G3.1 h6 j (by simpa using hj);simp only[ht,El,FD,HC]at this;refine⟨this.1.1,by simpa using this.1.2,λi hi hti=>?_⟩;have:=G3.1 this.2 i (by simpa using hi);simpa[hti]using this
theorem Nl {ops:IG Hp}(hd:DOkT ops):∀(j i:Nat),xU ops j i=true->i<j:=by
 intro j;induction j using zyr with
 |_ j ih =>
  intro i hb;have hj:j<ops.size:=by
   rcases G4 j ops.size with h|h
   ·exact h
   ·unfold xU mQ at hb;rw[Es,Gt (by rw[(masksFrom_get ops.toList [] j).1];simpa using h)]at hb;simp at hb
  obtain⟨e,he,hbe,h1⟩:=ge (zb hj) hb;have:=hd.edges j _ (zb hj) e he hbe;rcases h1 with rfl|⟨_,h1⟩
  ·exact this
  ·have:=ih e.on this i h1;omega
theorem kh {ops:IG Hp}(hd:DOkT ops) (i:Nat):xU ops i i=false:=by
 cases h:xU ops i i with
 |false=>rfl
 |true=>exact Hu (Nl hd i i h) (DJ _)
theorem sH {ops:IG Hp}(hd:DOkT ops) {i j d:Nat}{oi oj:Hp}(hi:ops[i]? = some oi) (hj:ops[j]? = some oj) (h1:oi.dst=some d) (h2:oj.dst=some d):i=j:=by
 have key:∀(l:IU Hp) (i j:Nat) (oi oj:Hp),(l.filterMap (·.dst)).Nodup->l[i]? = some oi->l[j]? = some oj->oi.dst=some d->oj.dst=some d->i=j:=by
  intro l;induction l with
  |nil=>intro i j oi oj _ h;simp at h
  |cons o l ih =>
   intro i j oi oj hn hi hj h1 h2;have hmem:∀(k:Nat) (ok:Hp),l[k]? = some ok->ok.dst=some d->d∈l.filterMap (·.dst):=λk ok hk hdk=>zxL.2 ⟨ok,GS hk,hdk⟩;cases i with
   |zero =>
    simp at hi;subst hi;cases j with
    |zero=>rfl
    |succ j =>
     simp at hj;rw[CF h1,EO]at hn;exact Hu (hmem j oj hj h2) hn.1
   |succ i =>
    simp at hi;cases j with
    |zero =>
     simp at hj;subst hj;rw[CF h2,EO]at hn;exact Hu (hmem i oi hi h1) hn.1
    |succ j =>
     simp at hj;have hn':(l.filterMap (·.dst)).Nodup:=by
      cases hod:o.dst with
      |none=>rw[zxX hod]at hn;exact hn
      |some x=>rw[CF hod,EO]at hn;exact hn.2
     rw[ih i j oi oj hn' hi hj h1 h2]
 exact key ops.toList i j oi oj hd.nodup (by simpa using hi) (by simpa using hj) h1 h2
section
variable {P:HP}{G:Nat->IQ (IU D)}{nb:Nat}{rd:IQ Nat}{ops:IG Hp}{Hb:IU Box}{c0:Cx}{w0:H5}{Kend:IU AV->IU Box->Prop}
def Qu (P:HP) (G:Nat->IQ (IU D)) (ops:IG Hp) (i:Nat) (tm:IU AV) (Hb:IU Box):Prop :=iv P G ops i (s3 ops i tm)=true/\wR P G ops i (s3 ops i tm) Hb λ_ a2 _=>∀d,(zm ops i).dst=some d->d<tm.length->tm[d]? = some a2
def wI (P:HP) (G:Nat->IQ (IU D)) (ops:IG Hp) (tm:IU AV):IU Box->IU Nat->IU Box->Prop
 |H,[],Ha=>Ha=H
 |H,i::q,Ha=>∃av H',eA H H'/\(∀K2:AV->IU Box->Prop,K2 av H'->nT P G (zm ops i) [] IN (s3 ops i tm) H K2)/\(∀d,(zm ops i).dst=some d->d<tm.length->tm[d]? = some (dull av))/\wI P G ops tm H' q Ha
theorem wI.snoc {tm:IU AV}{i:Nat}{Ha Ha':IU Box}(h2:wI P G ops tm Ha [i] Ha'):∀(q:IU Nat) (H:IU Box),wI P G ops tm H q Ha->wI P G ops tm H (q++[i]) Ha'
 |[],H,h=>by have h:Ha=H:=h;subst h;exact h2
 |j::q,H,h=>by obtain⟨av,H',a1,a2,a3,a4⟩:=h;exact⟨av,H',a1,a2,a3,wI.snoc h2 q H' a4⟩
theorem wI.set {tm:IU AV}{i:Nat}{x:AV}(hd:DOkT ops) (hih:i<ym ops) (hi:i<ops.size):∀(q:IU Nat) (H Ha:IU Box),(∀k∈q,k≠i/\k<ops.size/\xU ops k i=false)->wI P G ops tm H q Ha->wI P G ops (wh tm (zm ops i).dst x) H q Ha
 |[],H,Ha,_,h=>h
 |j::q,H,Ha,hq,h=>by
  obtain⟨av,H',a1,a2,a3,a4⟩:=h;obtain⟨b1,b2,b3⟩:=hq j (by simp);refine⟨av,H',a1,?_,λd hdd hlt=>?_,wI.set hd hih hi q H' Ha (λk hk=>hq k (by simp[hk])) a4⟩
  ·rw[tZ hih (zb hi) b3];exact a2
  ·rw[xR]at hlt;rw[ug (λe=>b1 (sH hd (zb b2) (zb hi) hdd e))];exact a3 d hdd hlt
structure DinT (P:HP) (G:Nat->IQ (IU D)) (nb:Nat) (ops:IG Hp) (Hb:IU Box) (c0:Cx) (w0:H5) (Kend:IU AV->IU Box->Prop) (listed:IG Bool) (a:HA) (w:H5) (c:Cx) (Hc Ha:IU Box) (tm:IU AV) (done r pq:IU Nat) (B:Nat->Nat) (X:Nat->Prop):Prop where
 hr:HR c Hc w
 gr:GR G c w
 ext:Hs c0 w0 c w
 keep:zl c0 Hb c Hc
 hle:eA Hb Hc
 df:i7 nb c w a.defers
 lsz:listed.size=ops.size
 closed:xV ops listed
 len:tm.length=a.tmps.size
 rng:∀(k:Nat) o d,ops[k]? = some o->o.dst=some d->d<tm.length
 slot:∀(t:Nat) x v,tm[t]? = some x->a.tmps[t]? = some v->(∀(k:Nat) o,ops[k]? = some o->o.dst=some t->ym ops<=k∨(yy listed k=true/\isAllocO o.op=false))->xj c Hc w a.tmps x v
 opt:∀(t g:Nat) p x,tm[t]? = some (.opt g p x)->∃(i j:Nat) (oi oj:Hp),ops[i]? = some oi/\ops[j]? = some oj/\oi.dst=some t/\oj.dst=some g/\xU ops i j=true/\i<ym ops
 v:jh P G ops Hb r tm Ha Kend
 ord:vN ops (se ops) r done=true
 dn:∀k∈done,∀i∈se ops,xU ops k i=true->i∈done
 dh:∀k∈done,k∈se ops
 unl:∀i∈r,yy listed i=false
 pend:∀i∈done,yy listed i=false->isTail (zm ops i).op=false->¬ X i->Qu P G ops i tm Hb
 pqa:∀i∈done,yy listed i=false->isTail (zm ops i).op=true->i∈pq
 pqb:∀i∈pq,i∈done/\yy listed i=false/\isTail (zm ops i).op=true
 pqs:pq.Pairwise (· < ·)
 chain:wI P G ops tm Hc pq Ha
 fresh:∀(i:Nat) o T,ops[i]? = some o->o.op = .alloc T->i<ym ops->yy listed i=true->∃d,o.dst=some d/\a.tmps[d]? = some (.pointer (some ⟨B i,0,none⟩))/\bi P c w (B i) T/\w0.heap.size<=B i
 binj:∀(i i':Nat) o o' T T',ops[i]? = some o->ops[i']? = some o'->o.op = .alloc T->o'.op = .alloc T'->i<ym ops->i'<ym ops->yy listed i=true->yy listed i'=true->B i=B i'->i=i'
 tail:∀j,ym ops<=j->yy listed j=false
theorem y9 {i:Nat}:i∈se ops↔i<ym ops/\isAllocO (zm ops i).op=false:=by simp[se]
theorem sG (hd:DOkT ops) {i:Nat}(h:i∈se ops):ops[i]? = some (zm ops i):=zb (F4 (y9.1 h).1 hd.le)
section
variable {listed:IG Bool}{a:HA}{w:H5}{c:Cx}{Hc Ha:IU Box}{tm:IU AV}{done r pq:IU Nat}{B:Nat->Nat}{X:Nat->Prop}
theorem DinT.note {i:Nat}{r':IU Nat}{a2:AV}{Ha':IU Box}(hd:DOkT ops) (h:DinT P G nb ops Hb c0 w0 Kend listed a w c Hc Ha tm done (i::r') pq B X) (hv:jh P G ops Hb r' (wh tm (zm ops i).dst a2) Ha' Kend) (hopt:∀g p x,a2 = .opt g p x->∃(j:Nat) (oj:Hp),ops[j]? = some oj/\oj.dst=some g/\xU ops i j=true) (hp:isTail (zm ops i).op=false->¬ X i->Qu P G ops i (wh tm (zm ops i).dst a2) Hb) (hs:isTail (zm ops i).op=false->Ha'=Ha) (hg:isTail (zm ops i).op=true->wI P G ops (wh tm (zm ops i).dst a2) Ha [i] Ha'): DinT P G nb ops Hb c0 w0 Kend listed a w c Hc Ha' (wh tm (zm ops i).dst a2) (done++[i]) r' (if isTail (zm ops i).op then pq++[i]else pq) B X:=by
 obtain⟨hih,hid⟩:=xf h.ord i (by simp);have hoi:=sG hd hih;have hisz:i<ops.size:=zL hoi;have hul:=h.unl i (by simp);have hord:=h.ord;simp only[vN,HC,Fe]at hord;obtain⟨⟨⟨⟨_,_⟩,hpre⟩,_⟩,hrest⟩:=hord;have hnb:∀k∈done,xU ops k i=false:=λk hk=>by
  cases hbb:xU ops k i with
  |false=>rfl
  |true=>exact Hu (h.dn k hk i hih hbb) hid
 have hne' :∀k∈done,k≠i:=λk hk e=>hid (e ▸ hk);have hch:=wI.set (x:=a2) hd (y9.1 hih).1 hisz pq Hc Ha (λk hk=>⟨hne' k (h.pqb k hk).1,zL (sG hd (h.dh k (h.pqb k hk).1)),hnb k (h.pqb k hk).1⟩) h.chain;refine { hr:=h.hr,gr:=h.gr,ext:=h.ext,keep:=h.keep,hle:=h.hle,df:=h.df,lsz:=h.lsz,closed:=h.closed,len:=by rw[xR];exact h.len,rng:=by rw[xR];exact h.rng,slot:= ?_,opt:= ?_,v:=hv,ord:=hrest,dn:= ?_,dh:= ?_,unl:=λk hk=>h.unl k (by simp[hk]),pend:= ?_,pqa:= ?_,pqb:= ?_,pqs:= ?_,chain:= ?_,fresh:=h.fresh,binj:=h.binj,tail:=h.tail }
 ·intro t x v hx hv hall;have hne:(zm ops i).dst≠some t:=λe=>by
   rcases hall i _ hoi e with h1|⟨h1,_⟩
   ·have:=(y9.1 hih).1;omega
   ·rw[hul]at h1;cases h1
  rw[ug hne]at hx;exact h.slot t x v hx hv hall
 ·intro t g p x hx;by_cases e:(zm ops i).dst=some t
  ·have hx2:a2 = .opt g p x:=by
    rw[e]at hx;simp only[wh]at hx;rw[E4]at hx;simp only[if_true]at hx;split at hx
    ·simpa using hx
    ·simp at hx
   obtain⟨j,oj,h1,h2,h3⟩:=hopt g p x hx2;exact⟨i,j,_,oj,hoi,h1,e,h2,h3,(y9.1 hih).1⟩
  ·rw[ug e]at hx;exact h.opt t g p x hx
 ·intro k hk m hm hb;rcases FK.1 hk with hk|hk
  ·exact FK.2 (.inl (h.dn k hk m hm hb))
  ·simp at hk;subst hk;have:=G3.1 hpre m hm;simp only[hb,El,FD]at this;exact FK.2 (.inl (Dt.1 this))
 ·intro k hk;rcases FK.1 hk with hk|hk
  ·exact h.dh k hk
  ·simp at hk;subst hk;exact hih
 ·intro k hk hkl hkt hkx;rcases FK.1 hk with hk|hk
  ·have hki:=hne' k hk;have hp:=h.pend k hk hkl hkt hkx;unfold Qu at hp ⊢;rw[tZ (y9.1 hih).1 hoi (hnb k hk)];refine⟨hp.1,?_⟩;have hok:=sG hd (h.dh k hk);have hp2:=hp.2;revert hp2;have:(λ(_:AV) (a3:AV) (_:IU Box)=>∀d,(zm ops k).dst=some d->d<tm.length->tm[d]? = some a3)=λ_ a3 _=>∀d,(zm ops k).dst=some d->d<(wh tm (zm ops i).dst a2).length->(wh tm (zm ops i).dst a2)[d]? = some a3:=by funext _ a3 _;rw[xR];refine propext (forall_congr' λd=>forall_congr' λhd'=>?_);rw[ug (λe=>hki (sH hd hok hoi hd' e))]
   rw[←this];exact λh=>h
  ·simp at hk;subst hk;exact hp hkt hkx
 ·intro k hk hkl hkt;rcases FK.1 hk with hk|hk
  ·have:=h.pqa k hk hkl hkt;split
   ·simp[this]
   ·exact this
  ·simp at hk;subst hk;rw[Hv hkt];simp
 ·intro k hk;split at hk
  ·rename_i ht;rcases FK.1 hk with hk|hk
   ·obtain⟨b1,b2,b3⟩:=h.pqb k hk;exact⟨by simp[b1],b2,b3⟩
   ·simp at hk;subst hk;exact⟨by simp,hul,ht⟩
  ·obtain⟨b1,b2,b3⟩:=h.pqb k hk;exact⟨by simp[b1],b2,b3⟩
 ·split
  ·rename_i ht;refine IU.pairwise_append.2 ⟨h.pqs,IU.pairwise_singleton _ _,λk hk m hm=>?_⟩;simp at hm;subst hm;obtain⟨b1,_,b3⟩:=h.pqb k hk;rcases zy5 k m with h1|h1|h1
   ·exact h1
   ·exact Hu h1 (hne' k b1)
   ·have:=(hd.grow k (y9.1 (h.dh k b1)).1 b3).2.2 m h1 ht;rw[hnb k b1]at this;cases this
  ·exact h.pqs
 ·split
  ·rename_i ht;exact wI.snoc (hg ht) pq Hc hch
  ·rename_i ht;rw[hs (by simpa using ht)];exact hch
theorem DinT.advance (hd:DOkT ops):∀{r:IU Nat}{tm:IU AV}{Ha:IU Box}{done pq:IU Nat},DinT P G nb ops Hb c0 w0 Kend listed a w c Hc Ha tm done r pq B X->∃tm' Ha' done' r' pq',DinT P G nb ops Hb c0 w0 Kend listed a w c Hc Ha' tm' done' r' pq' B X/\(r'=[]∨ ∃i r'',r'=i::r''/\isCallV (zm ops i).op=true)
 |[],tm,Ha,done,pq,h=>⟨tm,Ha,done,[],pq,h,.inl rfl⟩
 |i::r,tm,Ha,done,pq,h=>by
  cases hc:isCallV (zm ops i).op with
  |true=>exact⟨tm,Ha,done,i::r,pq,h,.inr ⟨i,r,rfl,hc⟩⟩
  |false =>
   obtain⟨hih,hid⟩:=xf h.ord i (by simp);have hoi:=sG hd hih;have hv:=h.v;simp only[jh]at hv;have ha:isAllocO (zm ops i).op=false:=(y9.1 hih).2;cases ht:isTail (zm ops i).op with
   |true =>
    rw[Hv ht]at hv;obtain⟨hg1,hg2,_⟩:=hd.grow i (y9.1 hih).1 ht;obtain⟨av,H',hl,hk,hall⟩:=R0 hg1 hv;refine DinT.advance hd (h.note (Ha':=H') hd hk (λg p x hx=>by cases av<;>simp[dull]at hx) (λh0=>by rw[ht]at h0;cases h0) (λh0=>by rw[ht]at h0;cases h0) λ_=>⟨av,H',hl,?_,λd hdd hlt=>?_,rfl⟩)
    ·rw[tZ (y9.1 hih).1 hoi (kh hd i)];exact hall
    ·rw[xR]at hlt;rw[hdd];simp[wh,hlt]
   |false =>
    rw[IE (by rw[ht];decide)]at hv;split at hv
    ·rename_i hdat;obtain⟨av,a2,⟨hk,hform⟩,hpend⟩:=ki hc ht ha (vH hv);refine DinT.advance hd (h.note (Ha':=Ha) hd hk (λg p x hx=>?_) (λ_ _=>⟨?_,?_⟩) (λ_=>rfl) (λh0=>by rw[ht]at h0;cases h0))
     ·obtain⟨j,hj1,hj2⟩:=hform g p x hx;exact hd.opt (y9.1 hih).1 hj1 hj2
     ·rw[tZ (y9.1 hih).1 hoi (kh hd i)];exact hdat
     ·rw[tZ (y9.1 hih).1 hoi (kh hd i)];have hkk:∀(a3:AV) (H2:IU Box),(H2=Hb/\a3=a2)->(∀d,(zm ops i).dst=some d->d<(wh tm (zm ops i).dst a2).length->(wh tm (zm ops i).dst a2)[d]? = some a3):=by rintro a3 H2 ⟨rfl,rfl⟩ d hdd hlt;rw[xR]at hlt;rw[hdd];simp[wh,hlt]
      unfold wR at hpend ⊢;split at hpend
      ·rcases tc ht ha hpend with⟨av2,h4,h5⟩|⟨h4,_⟩
       ·exact h5 _ (hkk _ _ h4)
       ·rw[hc]at h4;cases h4
      ·split at hpend
       ·split at hpend
        ·exact hpend.elim
        ·rename_i hne;rw[IE hne];split at hpend
         ·rcases tc ht ha hpend with⟨av2,h4,h5⟩|⟨h4,_⟩
          ·exact h5 _ (hkk _ _ h4)
          ·rw[hc]at h4;cases h4
         ·exact hpend.elim
       ·exact hpend.elim
    ·exact hv.elim
theorem DinT.rep (h:DinT P G nb ops Hb c0 w0 Kend listed a w c Hc Ha tm done r pq B X) {i:Nat}(hb:∀k,xU ops i k=true->yy listed k=true):G9 G nb c Hc w (s3 ops i tm) a:=by
 refine⟨h.hr,h.gr,⟨by rw[vD (t:=0).1,h.len];simp,λt v x hv hx=>?_⟩,h.df⟩;simp only[Du]at hv;by_cases hh:Qx ops i t
 ·rw[vD.2.1 hh]at hx;cases hy:tm[t]? with
  |none=>rw[hy]at hx;simp at hx
  |some y=>rw[hy]at hx;simp at hx;subst hx;exact Di v
 ·rw[vD.2.2 hh]at hx;refine h.slot t x v hx hv λk o hk hdst=>?_;rcases G4 k (ym ops)with hkh|hkh
  ·have:xU ops i k=true/\isAllocO o.op=false:=by
    rcases EA (xU ops i k=true/\isAllocO o.op=false)with h1|h1
    ·exact h1
    ·exact Hu ⟨k,o,hkh,hk,hdst,h1⟩ hh
   exact .inr ⟨hb k this.1,this.2⟩
  ·exact .inl hkh
theorem DinT.ran {i:Nat}{v:Value}{c':Cx}{w':H5}{a2:AV}{Hc':IU Box}{pq':IU Nat}(hd:DOkT ops) (h:DinT P G nb ops Hb c0 w0 Kend listed a w c Hc Ha tm done r pq B X) (hX:∀m,X m->m=i) (hdone:i∈done) (hul:yy listed i=false) (hb:∀k,xU ops i k=true->yy listed k=true) (ha2:∀d,(zm ops i).dst=some d->d<tm.length->tm[d]? = some a2) (e:Hs c w c' w') (k:zl c Hc c' Hc') (hl:eA Hc Hc') (hr:HR c' Hc' w') (hs:xj c' Hc' w' (a.put (zm ops i).dst v).tmps a2 v) (hq:(isTail (zm ops i).op=false/\Hc'=Hc/\pq'=pq)∨(isTail (zm ops i).op=true/\pq=i::pq'/\wI P G ops tm Hc' pq' Ha)): DinT P G nb ops Hb c0 w0 Kend (listed.setIfInBounds i true) (a.put (zm ops i).dst v) w' c' Hc' Ha tm done r pq' B (λ_=>HD):=by
 have hih:=h.dh i hdone;have hoi:=sG hd hih;have hi:i<ops.size:=zL hoi;have hoth:∀t,(zm ops i).dst≠some t->(a.put (zm ops i).dst v).tmps[t]? = a.tmps[t]? :=by
  intro t hne;cases hdst:(zm ops i).dst with
  |none=>rfl
  |some d =>
   rw[yE,EW];have:d≠t:=λe=>hne (by rw[hdst,e]);simp[this]
 refine { hr:=hr,gr:=h.gr.ext e,ext:=h.ext.trans e,keep:=h.keep.trans k,hle:=h.hle.trans hl,df:= ?_,lsz:=by simp[h.lsz],closed:=CM h.lsz hi h.closed hb,len:= ?_,rng:=h.rng,slot:= ?_,opt:=h.opt,v:=h.v,ord:=h.ord,dn:=h.dn,dh:=h.dh,unl:= ?_,pend:= ?_,pqa:= ?_,pqb:= ?_,pqs:= ?_,chain:= ?_,fresh:= ?_,binj:= ?_,tail:= ?_ }
 ·cases hdst:(zm ops i).dst<;>exact h.df.ext e
 ·rw[h.len];cases hdst:(zm ops i).dst with
  |none=>rfl
  |some d=>rw[yE];simp
 ·intro t x u hx hu hall;by_cases et:(zm ops i).dst=some t
  ·have hlt:t<tm.length:=by rcases G4 t tm.length with h' |h';exact h';simp[Gt h']at hx
   rw[ha2 t et hlt]at hx;simp at hx;subst hx;have:u=v:=by
    rw[et,yE,EW]at hu;simp only[if_true]at hu;split at hu
    ·simpa using hu.symm
    ·rename_i hge;rw[h.len]at hlt;exact Hu hlt hge
   subst this;exact hs
  ·rw[hoth t et]at hu;have h1:=h.slot t x u hx hu λm o hm hdm=>by
    rcases hall m o hm hdm with h4|⟨h2,h3⟩
    ·exact .inl h4
    ·rw[zc h.lsz hi]at h2;have:m≠i:=λe'=>et (by rw[e']at hm;rw[hm]at hoi;simp at hoi;rw[←hoi];exact hdm);rw[IE this]at h2;exact .inr ⟨h2,h3⟩
   have h2:=h1.ext e k;cases x<;>first
    |exact h2
    |skip
   rename_i g p y;simp only[xj]at h2 ⊢;have hg:(a.put (zm ops i).dst v).tmps[g]? = a.tmps[g]? :=by refine hoth g λeg=>?_;obtain⟨i1,j1,oi1,oj1,a1,a2',a3,a4,a5,a6⟩:=h.opt t g p y hx;have hl:=((hall i1 oi1 a1 a3).resolve_left (by omega)).1;have hi1:i1≠i:=λe'=>et (by rw[e']at a1;rw[a1]at hoi;simp at hoi;rw[←hoi];exact a3);rw[zc h.lsz hi,IE hi1]at hl;have hj:=h.closed i1 j1 hl a5;have:j1=i:=sH hd a2' hoi a4 eg;rw[this]at hj;have hj':yy listed i=true:=hj;rw[hul]at hj';cases hj'
   rw[hg];exact h2
 ·intro m hm;rw[zc h.lsz hi];have hne:m≠i:=λe'=>by have:=(xf h.ord m hm).2;exact this (e' ▸ hdone)
  rw[IE hne];exact h.unl m hm
 ·intro m hm hml hmt _;rw[zc h.lsz hi]at hml;split at hml
  ·cases hml
  ·rename_i hmi;exact h.pend m hm hml hmt (λhx=>hmi (hX m hx))
 ·intro m hm hml hmt;rw[zc h.lsz hi]at hml;split at hml
  ·cases hml
  ·rename_i hmi;have:=h.pqa m hm hml hmt;rcases hq with⟨_,_,rfl⟩|⟨_,h2,_⟩
   ·exact this
   ·rw[h2]at this;rcases F5.1 this with e' |e'
    ·exact Hu e' hmi
    ·exact e'
 ·intro m hm;have hmp:m∈pq/\m≠i:=by
   rcases hq with⟨h1,_,rfl⟩|⟨_,h2,_⟩
   ·refine⟨hm,λe'=>?_⟩;have:=(h.pqb m hm).2.2;rw[e',h1]at this;cases this
   ·refine⟨by rw[h2];simp[hm],λe'=>?_⟩;have:=h.pqs;rw[h2]at this;have:=(zy0.1 this).1 m hm;omega
  obtain⟨b1,b2,b3⟩:=h.pqb m hmp.1;exact⟨b1,by rw[zc h.lsz hi,IE hmp.2];exact b2,b3⟩
 ·rcases hq with⟨_,_,rfl⟩|⟨_,h2,_⟩
  ·exact h.pqs
  ·have:=h.pqs;rw[h2]at this;exact(zy0.1 this).2
 ·rcases hq with⟨_,rfl,rfl⟩|⟨_,_,h3⟩
  ·exact h.chain
  ·exact h3
 ·intro m o T hm hop hmh hml;have hne:m≠i:=λe'=>by have h1:=(y9.1 hih).2;rw[e']at hm;rw[yu hm,hop]at h1;simp[isAllocO]at h1
  rw[zc h.lsz hi,IE hne]at hml;obtain⟨d,h1,h2,h3⟩:=h.fresh m o T hm hop hmh hml;refine⟨d,h1,?_,h3.1.ext e,h3.2⟩;rw[hoth d λe'=>hne (sH hd hm hoi h1 e')];exact h2
 ·intro m m' o o' T T' hm hm' h1 h2 h3 h4 h5 h6 h7;have key:∀(q:Nat) oq Tq,ops[q]? = some oq->oq.op = .alloc Tq->q≠i:=λq oq Tq hq hoq e'=>by have h1:=(y9.1 hih).2;rw[e']at hq;rw[yu hq,hoq]at h1;simp[isAllocO]at h1
  rw[zc h.lsz hi,IE (key m o T hm h1)]at h5;rw[zc h.lsz hi,IE (key m' o' T' hm' h2)]at h6;exact h.binj m m' o o' T T' hm hm' h1 h2 h3 h4 h5 h6 h7
 ·intro j hj;rw[zc h.lsz hi];have:j≠i:=λe'=>by have:=(y9.1 hih).1;omega
  rw[IE this];exact h.tail j hj
end
end
def mN (o:Hp):IQ (TypeId×Nat×G1) :=match o.op with
 |.store T (.tmp d) x=>some (T,d,x)
 |_=>none
def UN (ops:IG Hp) (k:Nat):IQ (TypeId×Nat) :=match (zm ops k).op,(zm ops k).dst with
 |.alloc T,some d=>some (T,d)
 |_,_=>none
def kg (ops:IG Hp) (j k:Nat):Bool :=match mN (zm ops j),UN ops k with
 |some (T,d,_),some (T',d')=>Dy T T'&&Dy d d'&&xU ops j k&&(zm ops j).guard.isNone&&(zm ops j).dst.isNone&&decide (k<zi ops)
 |_,_=>false
def uU (ops:IG Hp) (k:Nat):IQ Nat:=(Gp ops.size).find? λj=>decide (zi ops<=j)&&kg ops j k
def pD (ops:IG Hp):Bool :=nodupB (ops.toList.filterMap (·.dst)) && ((Gp ops.size).all λj=>(zm ops j).after.toList.all λe=>!Ed .any e||decide (e.on<j)) && ((Gp (zi ops)).all λj=>!isAllocO (zm ops j).op||((zm ops j).guard.isNone&&(zm ops j).dst.isSome)) && vN ops (sI ops) (ny ops) [] && ((Gp (zi ops)).all λi=>!isCallV (zm ops i).op) && ((Gp ops.size).all λj=>decide (j<zi ops)||(zQ ops).any λk=>kg ops j k) && ((zQ ops).all λk=>(Gp ops.size).all λj=>decide (j<zi ops)|| !kg ops j k||(uU ops k==some j))
def nw (P:HP) (G:Nat->IQ (IU D)) (ops:IG Hp) (tm:IU AV) (k:Nat) (T:TypeId):IQ (IU AV) :=match uU ops k with
 |some j=>match mN (zm ops j)with
  |some (_,_,x)=>match avCells (ev G (yc [] (kl ops j tm)) x),xT P T,yZ P T with
   |some cs,some n,some z=>if Dy cs.length n&&Dy z.cells.size n then some cs else none
   |_,_,_=>none
  |none=>none
 |none=>mP P T
def Qt (P:HP) (G:Nat->IQ (IU D)) (ops:IG Hp) (tm:IU AV) (H:IU Box) (K:IU AV->IU Box->Prop):Prop :=if pD ops&&tm.all noOptB&&(ops.toList.all λo=>match o.dst with|some d=>decide (d<tm.length)|none=>true)&&(ops.toList.all λo=>match o.op with|.alloc T=>(yZ P T).isSome|_=>true)then gd P G ops (ny ops) tm H λtm1=>sj ops (nw P G ops tm1) (zQ ops) (zW tm1) H K else HD
theorem bf {ops:IG Hp}(h:pD ops=true):Et ops:=by
 simp only[pD,HC]at h;obtain⟨⟨⟨⟨⟨⟨h1,h2⟩,h4⟩,h5⟩,_⟩,_⟩,_⟩:=h;refine⟨nodupB_spec h1,λj o ho e he hb=>?_,λj o ho hj ha=>?_,h5⟩
 ·have:=G3.1 h2 j (by simp;exact zL ho);rw[yu ho]at this;have:=G3.1 this e he;simpa[hb]using this
 ·have:=G3.1 h4 j (by simpa using hj);rw[yu ho]at this;simp only[ha,El,FD,HC]at this;exact⟨by simpa using this.1,DQ.1 this.2⟩
structure SOk (ops:IG Hp):Prop where
 nocall:∀i,i<zi ops->isCallV (zm ops i).op=false
 fill:∀j,j<ops.size->zi ops<=j->∃k T d x,k∈zQ ops/\uU ops k=some j/\mN (zm ops j)=some (T,d,x)/\(zm ops k).op = .alloc T/\(zm ops k).dst=some d/\xU ops j k=true/\(zm ops j).guard=none/\(zm ops j).dst=none
theorem qI {ops:IG Hp}{j k:Nat}(h:kg ops j k=true):∃T d x,mN (zm ops j)=some (T,d,x)/\(zm ops k).op = .alloc T/\(zm ops k).dst=some d/\xU ops j k=true/\(zm ops j).guard=none/\(zm ops j).dst=none/\k<zi ops:=by
 unfold kg at h;split at h
 ·rename_i T d x T' d' h1 h2;simp only[HC,HS]at h;obtain⟨⟨⟨⟨⟨a1,a2⟩,a3⟩,a4⟩,a5⟩,a6⟩:=h;have e1:=Bf a1;have e2:=Bf a2;subst e1;subst e2;unfold UN at h2;split at h2
  ·rename_i T2 d2 g1 g2;cases h2;exact⟨_,_,_,h1,g1,g2,a3,by simpa using a4,by simpa using a5,a6⟩
  ·cases h2
 ·cases h
theorem SOk.of {ops:IG Hp}(h:pD ops=true):SOk ops:=by
 simp only[pD,HC]at h;obtain⟨⟨⟨_,h1⟩,h2⟩,h3⟩:=h;refine⟨λi hi=>?_,λj hj hh=>?_⟩
 ·have:=G3.1 h1 i (by simpa using hi);simpa using this
 ·have:=G3.1 h2 j (by simpa using hj);simp only[F9,HS]at this;rcases this with h|h
  ·omega
  ·obtain⟨k,hk,hf⟩:=Dr.1 h;obtain⟨T,d,x,g1,g2,g3,g4,g5,g6,_⟩:=qI hf;refine⟨k,T,d,x,hk,?_,g1,g2,g3,g4,g5,g6⟩;have:=G3.1 (G3.1 h3 k hk) j (by simpa using hj);simp only[F9,HS,Fe,beq_iff_eq]at this;rcases this with (h|h)|h
   ·omega
   ·rw[hf]at h;cases h
   ·exact h
theorem s5 {ops:IG Hp}{k j:Nat}(h:uU ops k=some j):j<ops.size/\zi ops<=j/\kg ops j k=true:=by unfold uU at h;have h1:=IU.find?_some h;have h2:=IU.mem_of_find?_eq_some h;simp only[HC,HS]at h1;exact⟨by simpa using h2,h1.1,h1.2⟩
theorem jg {ops:IG Hp}{C:Nat->TypeId->IQ (IU AV)}{K:IU AV->IU Box->Prop}:∀{l:IU Nat}{tm:IU AV}{H:IU Box},sj ops C l tm H K->∀i∈l,∀T,(zm ops i).op = .alloc T->∃cs,C i T=some cs
 |[],_,_,_,i,hi,_,_=>by simp at hi
 |k::l,tm,H,h,i,hi,T,hT=>by
  unfold sj at h;rcases F5.1 hi with rfl|hi
  ·rw[hT]at h;simp only at h;split at h
   ·rename_i cs hc;exact⟨cs,hc⟩
   ·exact h.elim
  ·split at h
   ·split at h
    ·exact jg h i hi T hT
    ·exact h.elim
   ·exact h.elim
section
variable {P:HP}{G:Nat->IQ (IU D)}{nb:Nat}{rd:IQ Nat}{ops:IG Hp}{H:IU Box}{c0:Cx}{w0:H5}{Kend:IU AV->Prop}{listed:IG Bool}{a:HA}{w:H5}{c:Cx}{tm:IU AV}{done r:IU Nat}{B:Nat->Nat}{Z:Nat->Obj}
def NC (P:HP) (G:Nat->IQ (IU D)) (ops:IG Hp) (H:IU Box) (listed:IG Bool) (w:H5) (c:Cx) (tm:IU AV) (k:Nat) (T:TypeId) (cs:IG Value):Prop :=match uU ops k with
 |some j=>if yy listed j=true then ∃aas,nw P G ops tm k T=some aas/\zy (λv a=>RA c H w a v) cs.toList aas else ∃z,yZ P T=some z/\cs=z.cells
 |none=>∃z,yZ P T=some z/\cs=z.cells
def ga (P:HP) (G:Nat->IQ (IU D)) (nb:Nat) (ops:IG Hp) (H:IU Box) (c0:Cx) (w0:H5) (Kend:IU AV->Prop) (listed:IG Bool) (a:HA) (w:H5):Prop :=∃c tm done B Z,EX P G nb ops H c0 w0 Kend listed a w c tm done [] B Z (λ_=>HD)/\(∀(k:Nat) o T,ops[k]? = some o->o.op = .alloc T->k<zi ops->yy listed k=true->∃cs,Z k = .cells cs T (0,0)/\NC P G ops H listed w c tm k T cs)
theorem i7.aside {m:Nat}{w1:H5}{ds:IU Co}{cs:IG Value}{T:TypeId}(hA:Aside' c w w1 m) (hw:w.heap[m]? = some (.cells cs T (0,0))) (h:i7 nb c w ds):i7 nb c w1 ds:=by obtain⟨h0,ms,h1,h2,h3⟩:=h;refine⟨by rw[hA.size];exact h0,ms,h1,h2,λk hk=>?_⟩;obtain⟨a1,a2,a3,a4,a5⟩:=h3 k hk;refine⟨a1,?_,a3,a4,a5⟩;rw[hA.other k (λe=>by rw[e,hw]at a2;cases a2)];exact a2
theorem ga.store {Q:GW->HA->H5->Prop}{i:Nat}(hd:Et ops) (hS:SOk ops) (hke:∀tm,Kend tm->∀k∈zQ ops,∀T,(zm ops k).op = .alloc T->∃cs,nw P G ops tm k T=some cs) (h:ga P G nb ops H c0 w0 Kend listed a w) (hisz:i<ops.size) (hi:zi ops<=i) (hul:yy listed i=false) (hb:∀k,xU ops i k=true->yy listed k=true): wpOpIn (vI rd) 0 P ops Q i (λa' w'=>ga P G nb ops H c0 w0 Kend (listed.setIfInBounds i true) a' w') a w:=by
 obtain⟨c,tm,done,B,Z,hD,hZ⟩:=h;obtain⟨k,T,d,x,hk,hfo,hst,hop,hdst,hbit,hgu,hds⟩:=hS.fill i hisz hi;have hoi:=zb hisz;have hkh:k<zi ops:=by simp only[zQ,FE,Fz]at hk;exact hk.1
 have hksz:k<ops.size:=F4 hkh (xo ops);have hkl:=hb k hbit;have hki:k≠i:=by omega
 obtain⟨d',e1,htmp,hown,hge⟩:=hD.fresh k _ T (zb hksz) hop hkh hkl;rw[hdst]at e1;cases e1;obtain⟨cs,hzk,hin⟩:=hZ k _ T (zb hksz) hop hkh hkl;rw[hzk]at hown;obtain⟨z,hz,rfl⟩:∃z,yZ P T=some z/\cs=z.cells:=by unfold NC at hin;rw[hfo]at hin;simp only[hul]at hin;simpa using hin
 have hkend:Kend tm:=by have:=hD.v;simpa only[gd]using this
 obtain⟨aas,haas⟩:=hke tm hkend k hk T hop;have haas':=haas;unfold nw at haas';rw[hfo]at haas';simp only[hst]at haas';split at haas'
 ·rename_i ys n z' hys hsz hz';rw[hz]at hz';cases hz';split at haas'
  ·rename_i hlen;cases haas';simp only[HC]at hlen;have hl1:=Bf hlen.1;have hl2:=Bf hlen.2;have hx:=yF (G:=G) (hD.rep hb) (show te a.tmps []from λ_ _ h=>by cases h) x;obtain⟨hv,hone⟩:=wT hx hys;have hopi:(zm ops i).op = .store T (.tmp d) x:=by
    unfold mN at hst;split at hst
    ·rename_i T1 d1 x1 h1;cases hst;exact h1
    ·cases hst
   refine rI hoi hgu ?_;have hptr:a.eval (.tmp d) = .pointer (some ⟨B k,0,none⟩):=by have:a.eval (.tmp d)=a.tmps.getD d undef:=rfl;rw[this,FN,htmp];rfl
   have hvl:(a.eval x).cells.toList.length=n:=by rw[hv.1,hl1]
   have hrun:=run_storeCells_at P (B k) 0 T (a.eval x).cells.toList 0 z.cells w hown.2.1 (by omega) hone;have erow:(HZ 0 z.cells.toList++(a.eval x).cells.toList++GM (0+(a.eval x).cells.toList.length) z.cells.toList).toArray=(a.eval x).cells:=by rw[IU.take_zero,IU.nil_append,Fx (by rw[E6,hvl];simp[hl2]),IU.append_nil,IG.toArray_toList]
   simp only[Nat.add_zero]at hrun;rw[erow]at hrun;have hA:Aside' c w (w.setRow (B k) (a.eval x).cells) (B k):=⟨rfl,rfl,rfl,by simp,λb' hb'=>setRow_other w (B k) b' _ hb',hown.2.2.1,hown.2.2.2.1,hown.2.2.2.2⟩;have hwB:(w.setRow (B k) (a.eval x).cells).heap[B k]? = some (.cells (a.eval x).cells T (0,0)):=setRow_heap w (B k) _ _ T (0,0) hown.2.1;have hsv:(Dl T (.pointer (some ⟨B k,0,none⟩)) (a.eval x)).run P w = .ok () (w.setRow (B k) (a.eval x).cells):=by
    have hszv:¬ (a.eval x).cells.size≠n:=by have:=hvl;simp only[IG.length_toList]at this;omega
    simp only[Dl,Gk,DL,GF,Gm,storeVar,yd hsz,IE hszv];exact hrun
   have hex:(execOp a.eval (zm ops i)).run P w = .ok .skip (w.setRow (B k) (a.eval x).cells):=by
    have:(execOp a.eval (zm ops i))=(do Dl T (a.eval (.tmp d)) (a.eval x);pure Next.skip:Sem Next):=by simp only[execOp,hopi]
    rw[this,hptr];simp[hsv]
   refine⟨λ_ _=>trivial,?_⟩;rw[EC _ _ _ (by rw[hopi];intro d hd;cases hd),hex];have hlst:∀m,m<zi ops->(yy (listed.setIfInBounds i true) m=yy listed m):=λm hm=>by rw[zc hD.lsz hisz,IE (by omega)]
   have hput:a.put (zm ops i).dst undef=a:=by rw[hds];rfl
   show ga P G nb ops H c0 w0 Kend (listed.setIfInBounds i true) (a.put (zm ops i).dst undef) _;rw[hput];refine⟨c,tm,done,B,λm=>if m=k then .cells (a.eval x).cells T (0,0)else Z m,{ hr:=hA.hr hD.hr,gr:=hA.gr hD.gr,ext:=hA.ext hD.ext hge,keep:=hD.keep,df:=i7.aside hA hown.2.1 hD.df,lsz:=by simp[hD.lsz],closed:=CM hD.lsz hisz hD.closed hb,len:=hD.len,rng:=hD.rng,slot:= ?_,opt:=hD.opt,v:=hD.v,ord:=hD.ord,dn:=hD.dn,dh:=hD.dh,unl:=λ_ h=>by simp at h,pend:= ?_,fresh:= ?_,binj:= ?_ },?_⟩
   ·intro t y u hy hu hall;have h1:=hD.slot t y u hy hu λm o hm hdm=>by
     rcases hall m o hm hdm with h4|⟨h2,h3⟩
     ·exact .inl h4
     ·rcases G4 m (zi ops)with h5|h5
      ·rw[hlst m h5]at h2;exact .inr ⟨h2,h3⟩
      ·exact .inl h5
    cases y<;>simp only[xj]at h1 ⊢ <;> first
     |exact hA.ra h1
     |exact⟨λhg=>hA.ra (h1.1 hg),h1.2⟩
   ·intro m hm hml hx;rw[hlst m (yC.1 (hD.dh m hm)).1]at hml;exact hD.pend m hm hml hx
   ·intro m o T' hm hop' hmh hml;rw[hlst m hmh]at hml;obtain⟨d',h1,h2,h3,h4⟩:=hD.fresh m o T' hm hop' hmh hml;refine⟨d',h1,h2,?_,h4⟩;by_cases e:m=k
    ·subst e;simp only[if_true];exact⟨by rw[hA.size];exact hown.1,hwB,hown.2.2⟩
    ·simp only[IE e];have hne:B m≠B k:=λe'=>e (hD.binj m k _ _ _ _ hm (zb hksz) hop' hop hmh hkh hml hkl e');exact⟨by rw[hA.size];exact h3.1,by rw[hA.other _ hne];exact h3.2.1,h3.2.2⟩
   ·intro m m' o o' T1 T2 hm hm' g1 g2 g3 g4 g5 g6 g7;rw[hlst m g3]at g5;rw[hlst m' g4]at g6;exact hD.binj m m' o o' T1 T2 hm hm' g1 g2 g3 g4 g5 g6 g7
   ·intro m o T' hm hop' hmh hml;rw[hlst m hmh]at hml;by_cases e:m=k
    ·subst e;have hT:T'=T:=by rw[yu hm,hop']at hop;cases hop;rfl
     subst hT;refine⟨(a.eval x).cells,by simp,?_⟩;unfold NC;rw[hfo];have:yy (listed.setIfInBounds i true) i=true:=by rw[zc hD.lsz hisz];simp
     simp only[this,if_true];exact⟨_,haas,hv.mono λ_ _ h=>hA.ra h⟩
    ·obtain⟨cs',h1,h2⟩:=hZ m o T' hm hop' hmh hml;refine⟨cs',by simp[e,h1],?_⟩;unfold NC at h2 ⊢;cases hf:uU ops m with
     |none=>rw[hf]at h2;exact h2
     |some j =>
      rw[hf]at h2;simp only at h2 ⊢;have hji:j≠i:=λe'=>by subst e';obtain⟨_,_,h5⟩:=s5 hf;obtain⟨T5,d5,x5,q1,q2,q3,_⟩:=qI h5;rw[hst]at q1;cases q1;have:=pF hd hm (zb hksz) (by rw[←yu hm];exact q3) hdst;exact e this
      have hlj:yy (listed.setIfInBounds i true) j=yy listed j:=by rw[zc hD.lsz hisz,IE hji]
      rw[hlj];split
      ·rename_i hl;rw[Hv hl]at h2;obtain⟨aas',q1,q2⟩:=h2;exact⟨aas',q1,q2.mono λ_ _ h=>hA.ra h⟩
      ·rename_i hl;rw[IE hl]at h2;exact h2
  ·cases haas'
 ·cases haas'
theorem ga.step {Q:GW->HA->H5->Prop}{i:Nat}(hd:Et ops) (hal:∀(k:Nat) o T,ops[k]? = some o->o.op = .alloc T->k<zi ops->∃z,yZ P T=some z) (h:ga P G nb ops H c0 w0 Kend listed a w) (hi:i<zi ops) (hul:yy listed i=false) (hb:∀k,xU ops i k=true->yy listed k=true): wpOpIn (vI rd) 0 P ops Q i (λa' w'=>ga P G nb ops H c0 w0 Kend (listed.setIfInBounds i true) a' w') a w:=by
 obtain⟨c,tm,done,B,Z,hD,hZ⟩:=h;have hsz0:=hD.lsz;have hisz:i<ops.size:=F4 hi (xo ops);have hoi:=zb hisz;have hlf:∀k j,uU ops k=some j->yy (listed.setIfInBounds i true) j=yy listed j:=λk j hf=>by obtain⟨_,h1,_⟩:=s5 hf;rw[zc hsz0 hisz,IE (by omega)]
 cases ha:isAllocO (zm ops i).op with
 |true =>
  cases hop:(zm ops i).op<;>rw[hop]at ha<;>simp[isAllocO]at ha
  rename_i T;obtain⟨z,hz⟩:=hal i _ T hoi hop hi;have e:=BO c w (.cells z.cells T) hD.hr.ilt hD.hr.jlt;refine rI hoi (hd.allocs i _ hoi hi (by rw[hop];rfl)).1 ?_;refine⟨λ_ _=>trivial,?_⟩;rw[EC _ _ _ (by rw[hop];intro d hd;cases hd),rJ hop hz];refine⟨c,tm,done,_,_,hD.alloc hd hi hop hz hul hb,λk o T' hk hop' hkh hkl=>?_⟩;by_cases e':k=i
  ·subst e';rw[hoi]at hk;simp at hk;rw[←hk,hop]at hop';cases hop';refine⟨z.cells,by simp,?_⟩;unfold NC;cases hf:uU ops k with
   |none=>exact⟨z,hz,rfl⟩
   |some j =>
    have hjl:yy (listed.setIfInBounds k true) j=false:=by
     rw[hlf k j hf];cases hl:yy listed j with
     |false=>rfl
     |true =>
      obtain⟨_,_,h5⟩:=s5 hf;obtain⟨_,_,_,_,_,_,q4,_⟩:=qI h5;have:=hD.closed j k hl q4;have:yy listed k=true:=this;rw[hul]at this;cases this
    simp only[hjl];exact⟨z,hz,rfl⟩
  ·rw[zc hsz0 hisz,IE e']at hkl;obtain⟨cs,h1,h2⟩:=hZ k o T' hk hop' hkh hkl;refine⟨cs,by simp[e',h1],?_⟩;unfold NC at h2 ⊢;cases hf:uU ops k with
   |none=>rw[hf]at h2;exact h2
   |some j =>
    rw[hf]at h2;simp only[hlf k j hf]at h2 ⊢;split
    ·rename_i hl;rw[Hv hl]at h2;obtain⟨aas,q1,q2⟩:=h2;exact⟨aas,q1,q2.mono λ_ _ h=>h.ext e (GV _ _)⟩
    ·rename_i hl;rw[IE hl]at h2;exact h2
 |false =>
  have hih:i∈sI ops:=yC.2 ⟨hi,ha⟩;have ht:isTail (zm ops i).op=false:=sf hoi hi;have hrep:=hD.rep hb;rcases pE hD.ord i hih with hdone|hr
  ·have hp:=hD.pend i hdone hul (λh=>h);refine ui hoi hrep ht ha hp λv w' c' av a2 hk e k hr hs=>?_;refine⟨c',tm,done,B,Z,hD.ran hd (λm hm=>hm.elim) hdone hul hb hk.2 e k hr hs,λm o T hm hop hmh hml=>?_⟩;have hne:m≠i:=λe'=>by subst e';rw[yu hm,hop]at ha;simp[isAllocO]at ha
   rw[zc hsz0 hisz,IE hne]at hml;obtain⟨cs,h1,h2⟩:=hZ m o T hm hop hmh hml;refine⟨cs,h1,?_⟩;unfold NC at h2 ⊢;cases hf:uU ops m with
   |none=>rw[hf]at h2;exact h2
   |some j =>
    rw[hf]at h2;simp only[hlf m j hf]at h2 ⊢;split
    ·rename_i hl;rw[Hv hl]at h2;obtain⟨aas,q1,q2⟩:=h2;exact⟨aas,q1,q2.mono λ_ _ h=>h.ext e k⟩
    ·rename_i hl;rw[IE hl]at h2;exact h2
  ·simp at hr
end
section
variable {P:HP}{G:Nat->IQ (IU D)}{nb:Nat}{rd:IQ Nat}{ops:IG Hp}{Q:GW->HA->H5->Prop}
theorem da {H:IU Box}{c0:Cx}{w0:H5}{K:IU AV->IU Box->Prop}{listed:IG Bool}{a:HA}{w:H5}(hq:∀a' w' c' tm' H',K tm' H'->G9 G nb c' H' w' tm' a'->Hs c0 w0 c' w'->zl c0 H c' H'->Q .normal a' w') (hS:SOk ops) (hall:∀i,i<ops.size->yy listed i=true) (hM:ga P G nb ops H c0 w0 (λtm1=>sj ops (nw P G ops tm1) (zQ ops) (zW tm1) H K) listed a w):Q .normal a w:=by
 obtain⟨c,tm,done,B,Z,hD,hZ⟩:=hM;have hk:=hD.v;simp only[gd]at hk;have hsz:∀k,k∈zQ ops->k<ops.size:=λk hk=>by simp only[zQ,FE,Fz]at hk;exact F4 hk.1 (xo ops)
 have hlt:∀k,k∈zQ ops->k<zi ops:=λk hk=>by simp only[zQ,FE,Fz]at hk;exact hk.1
 have hown:∀i∈zQ ops,∃T d,(zm ops i).op = .alloc T/\(zm ops i).dst=some d/\a.tmps[d]? = some (.pointer (some ⟨B i,0,none⟩))/\(∃cs aas,nx c w (B i) (.cells cs T (0,0))/\nw P G ops tm i T=some aas/\zy (λv a=>RA c H w a v) cs.toList aas)/\w0.heap.size<=B i:=by
  intro i hi;have hi2:=hi;simp only[zQ,FE,Fz]at hi2;cases hop:(zm ops i).op<;>rw[hop]at hi2<;>simp[isAllocO]at hi2
  rename_i T;obtain⟨d,h1,h2,h3,h4⟩:=hD.fresh i _ T (zb (hsz i hi)) hop hi2 (hall i (hsz i hi));obtain⟨cs,hc1,hc2⟩:=hZ i _ T (zb (hsz i hi)) hop hi2 (hall i (hsz i hi));rw[hc1]at h3;refine⟨T,d,rfl,h1,h2,?_,h4⟩;unfold NC at hc2;cases hf:uU ops i with
  |none =>
   rw[hf]at hc2;obtain⟨z,hz,rfl⟩:=hc2;refine⟨_,_,h3,?_,CN _⟩;unfold nw;rw[hf];simp[mP,hz]
  |some j =>
   rw[hf]at hc2;simp only[hall j (s5 hf).1,if_true]at hc2;obtain⟨aas,q1,q2⟩:=hc2;exact⟨_,_,h3,q1,q2⟩
 have hLeft:Left P G nb ops H c0 w0 a w (nw P G ops tm) B (zQ ops) (zW tm) H c:=by
  refine { hr:=hD.hr,gr:=hD.gr,ext:=hD.ext,keep:=hD.keep,df:=hD.df,len:=by simp[zW,hD.len],no:= ?_,slot:= ?_,own:=hown,nd:= ?_,inj:= ?_ }
  ·intro g p x hm;simp only[zW,Gd]at hm;obtain⟨y,_,hy⟩:=hm;cases y<;>simp[dull]at hy
  ·intro t x v hx hv hno;simp only[zW,G5]at hx;cases hy:tm[t]? with
   |none=>rw[hy]at hx;simp at hx
   |some y =>
    rw[hy]at hx;simp at hx;subst hx;have hs:=hD.slot t y v hy hv λk o hk hdk=>by
     rcases G4 k (zi ops)with h1|h1
     ·right;refine⟨hall k (zL hk),?_⟩;cases ha:isAllocO o.op with
      |false=>rfl
      |true =>
       have hka:k∈zQ ops:=by simp only[zQ,FE,Fz];exact⟨h1,by rw[yu hk];exact ha⟩
       exact Hu (by rw[yu hk];exact hdk) (hno k hka)
     ·exact .inl h1
    cases y<;>first
     |exact hs
     |exact Di v
  ·exact Aj (zzB) (zyx)
  ·intro i hi j hj hB;obtain⟨T,d,o1,_⟩:=hown i hi;obtain⟨T',d',o2,_⟩:=hown j hj;exact hD.binj i j _ _ T T' (zb (hsz i hi)) (zb (hsz j hj)) o1 o2 (hlt i hi) (hlt j hj) (hall i (hsz i hi)) (hall j (hsz j hj)) hB
 obtain⟨tm2,H2,c2,hk2,hR2,he2,hkp2⟩:=s0 hsz (zQ ops) (zW tm) H c (λ_ h=>h) hLeft hk;exact hq a w c2 tm2 H2 hk2 hR2 he2 hkp2
theorem Qs {H:IU Box}{c0:Cx}{w0:H5}{K:IU AV->IU Box->Prop}(hd:Et ops) (hS:SOk ops) (hal:∀(k:Nat) o T,ops[k]? = some o->o.op = .alloc T->k<zi ops->∃z,yZ P T=some z) (hq:∀a' w' c' tm' H',K tm' H'->G9 G nb c' H' w' tm' a'->Hs c0 w0 c' w'->zl c0 H c' H'->Q .normal a' w'):∀(fuel:Nat) (listed:IG Bool) (a:HA) (w:H5),vF ops listed<=fuel->ga P G nb ops H c0 w0 (λtm1=>sj ops (nw P G ops tm1) (zQ ops) (zW tm1) H K) listed a w->wpAnyIn (vI rd) 0 P .any ops Q fuel listed a w:=by
 intro fuel;induction fuel with
 |zero =>
  intro listed a w hf hM;have hlsz:listed.size=ops.size:=by obtain⟨_,_,_,_,_,hD,_⟩:=hM;exact hD.lsz
  have hall:∀i,i<ops.size->yy listed i=true:=λi hi=>by
   cases hx:yy listed i with
   |true=>rfl
   |false =>
    have:0<vF ops listed:=Bc.2 ⟨i,by simpa using hi,by simp[hx]⟩;omega
  refine⟨Aw.2 λi hi=>?_,da hq hS hall hM⟩;obtain⟨o,ho,h1,_⟩:=(y6 hlsz).1 hi;rw[hall i (zL ho)]at h1;cases h1
 |succ fuel ih =>
  intro listed a w hf hM;have hlsz:listed.size=ops.size:=by obtain⟨_,_,_,_,_,hD,_⟩:=hM;exact hD.lsz
  have hcl:xV ops listed:=by obtain⟨_,_,_,_,_,hD,_⟩:=hM;exact hD.closed
  refine⟨λh0=>?_,λi hi=>?_⟩
  ·refine da hq hS (λi hi=>?_) hM;rcases EA (∃i,i<ops.size/\yy listed i=false)with h|h
   ·exfalso;obtain⟨i0,h1,h2,h3⟩:=xQ ops.size h;have hready:i0∈Ek .any ops listed:=(y6 hlsz).2 ⟨_,zb h1,h2,λe he hb=>h3 _ (hd.edges i0 _ (zb h1) e he hb)⟩;rw[h0]at hready;simp at hready
   ·cases hx:yy listed i with
    |true=>rfl
    |false=>exact Hu ⟨i,hi,hx⟩ h
  ·obtain⟨o,ho,hul,_⟩:=(y6 hlsz).1 hi;have hb:∀k,xU ops i k=true->yy listed k=true:=wJ hcl ho hi;have hisz:=zL ho;have hdec:vF ops (listed.setIfInBounds i true)+1<=vF ops listed:=vG (p:=λk=>!yy listed k) (q:=λk=>!yy (listed.setIfInBounds i true) k) (i:=i) (Gp ops.size) (λk hk=>by
    rw[zc hlsz hisz]at hk;split at hk
    ·simp at hk
    ·exact hk) (by simp[hul]) (by rw[zc hlsz hisz];simp) (by simpa using hisz)
   rcases G4 i (zi ops)with hih|hih
   ·exact wpOpIn_mono (λa' w' hM'=>ih _ a' w' (by omega) hM') (ga.step hd hal hM hih hul hb)
   ·exact wpOpIn_mono (λa' w' hM'=>ih _ a' w' (by omega) hM') (ga.store hd hS (λtm htm k hk T hT=>jg htm k hk T hT) hM hisz hih hul hb)
theorem dZ {c:Cx}{H:IU Box}{w:H5}{tm:IU AV}{a:HA}{K:IU AV->IU Box->Prop}(hR:G9 G nb c H w tm a) (h:Qt P G ops tm H K) (hq:∀a' w' c' tm' H',K tm' H'->G9 G nb c' H' w' tm' a'->Hs c w c' w'->zl c H c' H'->Q .normal a' w'):wpAnyIn (vI rd) 0 P .any ops Q ops.size (GQ ops.size false) a { w with drawn:=w.drawn+1 }:=by
 unfold Qt at h;split at h
 ·rename_i hok;simp only[HC]at hok;obtain⟨⟨⟨hok,hno⟩,hrng⟩,halz⟩:=hok;have hd:=bf hok;have hS:=SOk.of hok;have hal:∀(k:Nat) o T,ops[k]? = some o->o.op = .alloc T->k<zi ops->∃z,yZ P T=some z:=by intro k o T hk hop _;have:=G3.1 halz o (by simpa using C2 hk);rw[hop]at this;exact DQ.1 this
  have hlst:∀k,yy (GQ ops.size false) k=false:=by
   intro k;unfold yy;rw[FN];by_cases hk:k<ops.size
   ·simp[hk]
   ·simp[Ch (show(GQ ops.size false).size<=k by simpa using hk)]
  have hnoopt:∀g p x,Cp g p x∉tm:=λg p x hx=>by have:=G3.1 hno _ hx;simp[noOptB]at this
  have hD:EX P G nb ops H c w (λtm1=>sj ops (nw P G ops tm1) (zQ ops) (zW tm1) H K) (GQ ops.size false) a { w with drawn:=w.drawn+1 } c tm [] (ny ops) (λ_=>0) (λ_=>.cells #[] 0 (0,0)) (λ_=>HD):=by
   refine { hr:=hR.hr.drew _,gr:=hR.gr.ext (FB c w _),ext:=FB c w _,keep:=GV _ _,df:=hR.df.ext (FB c w _),lsz:=by simp,closed:= ?_,len:= ?_,rng:= ?_,slot:= ?_,opt:= ?_,v:=h,ord:=hd.ord,dn:= ?_,dh:= ?_,unl:=λi _=>hlst i,pend:= ?_,fresh:= ?_,binj:= ?_ }
   ·intro j i hj _;have:yy (GQ ops.size false) j=true:=hj;rw[hlst]at this;cases this
   ·have:=hR.tm.1;simpa using this.symm
   ·intro k o d hk hdk;have:=G3.1 hrng o (by simpa using C2 hk);rw[hdk]at this;simpa using this
   ·intro t x v hx hv _;have:=hR.tm.2 t v x (by simpa using hv) hx;exact this.ext (FB c w _) (GV _ _)
   ·intro t g p x hx;exact Hu (GS hx) (hnoopt g p x)
   ·intro k hk;simp at hk
   ·intro k hk;simp at hk
   ·intro k hk;simp at hk
   ·intro i o T _ _ _ hl;rw[hlst]at hl;cases hl
   ·intro i i' o o' T T' _ _ _ _ _ _ hl;rw[hlst]at hl;cases hl
  obtain⟨tm',done',r',hD',hrc⟩:=hD.advance hd;have hr':r'=[]:=by
   rcases hrc with h|⟨i,r'',rfl,hcall⟩
   ·exact h
   ·have h1:=yC.1 (xf hD'.ord i (by simp)).1;rw[hS.nocall i h1.1]at hcall;cases hcall
  subst hr';refine Qs hd hS hal hq ops.size _ a _ ?_ ⟨c,tm',done',_,_,hD',λk o T _ _ _ hl=>by rw[hlst]at hl;cases hl⟩;have:=C3 (p:=λi=>!yy (GQ ops.size false) i) (l:=Gp ops.size);simpa[vF]using this
 ·exact h.elim
end
def MC (ops:IG Hp):IQ Nat:=(Gp (zi ops)).find? λi=>!xU ops (zi ops) i
def iu (ops:IG Hp):Bool :=nodupB (ops.toList.filterMap (·.dst)) && ((Gp ops.size).all λj=>(zm ops j).after.toList.all λe=>!Ed .any e||decide (e.on<j)) && ((Gp (zi ops)).all λj=>!isAllocO (zm ops j).op||((zm ops j).guard.isNone&&(zm ops j).dst.isSome)) && vN ops (sI ops) (ny ops) [] && decide (zi ops+1=ops.size) && (match MC ops,(zm ops (zi ops)).op with
  |some z,.store _ (.tmp p) (.tmp q) =>
   match (zm ops z).op,(zm ops z).dst with
   |.extract (.tmp _) _,some d=>(zm ops z).guard.isNone&&(zm ops (zi ops)).guard.isNone&&(zm ops (zi ops)).dst.isNone&& !Dy d p&& !Dy d q&&decide (z<zi ops)&&((Gp (zi ops)).all λi=>Dy i z||xU ops (zi ops) i)
   |_,_=>false
  |_,_=>false)
def Qr (P:HP) (G:Nat->IQ (IU D)) (ops:IG Hp) (tm:IU AV) (H:IU Box) (K:IU AV->IU Box->Prop):Prop :=if iu ops&&tm.all noOptB&&(ops.toList.all λo=>match o.dst with|some d=>decide (d<tm.length)|none=>true)&&(ops.toList.all λo=>match o.op with|.alloc T=>(yZ P T).isSome|_=>true)then gd P G ops (ny ops) tm H λtm1=>xg P ops (zQ ops) (zW tm1) H λtm2 H2=>sk P G ops (ops.toList.drop (zi ops)) tm2 H2 K else HD
structure VOk (ops:IG Hp):Prop where
 one:zi ops+1=ops.size
 ex:∃(z d s k p q:Nat) (T:TypeId),z<zi ops/\(zm ops z).op = .extract (.tmp s) k/\(zm ops z).dst=some d/\(zm ops z).guard=none/\(zm ops (zi ops)).op = .store T (.tmp p) (.tmp q)/\(zm ops (zi ops)).guard=none/\(zm ops (zi ops)).dst=none/\d≠p/\d≠q/\∀i,i<zi ops->i≠z->xU ops (zi ops) i=true
theorem be {ops:IG Hp}(h:iu ops=true):Et ops/\VOk ops:=by
 simp only[iu,HC]at h;obtain⟨⟨⟨⟨⟨h1,h2⟩,h4⟩,h5⟩,h6⟩,h7⟩:=h;refine⟨⟨nodupB_spec h1,λj o ho e he hb=>?_,λj o ho hj ha=>?_,h5⟩,G0 h6,?_⟩
 ·have:=G3.1 h2 j (by simp;exact zL ho);rw[yu ho]at this;have:=G3.1 this e he;simpa[hb]using this
 ·have:=G3.1 h4 j (by simpa using hj);rw[yu ho]at this;simp only[ha,El,FD,HC]at this;exact⟨by simpa using this.1,DQ.1 this.2⟩
 ·split at h7
  ·rename_i z T p q hz hop;split at h7
   ·rename_i s k d hzo hzd;simp only[HC,Fe,HS,IQ.isNone_iff_eq_none]at h7;obtain⟨⟨⟨⟨⟨⟨g1,g2⟩,g3⟩,g4⟩,g5⟩,g6⟩,g7⟩:=h7;refine⟨z,d,s,k,p,q,T,g6,hzo,hzd,g1,hop,g2,g3,λe=>by subst e;simp at g4,λe=>by subst e;simp at g5,λi hi hne=>?_⟩;have:=G3.1 g7 i (by simpa using hi);simp only[F9]at this;rcases this with h|h
    ·exact Hu (Bf h) hne
    ·exact h
   ·cases h7
  ·cases h7
section
variable {P:HP}{G:Nat->IQ (IU D)}{nb:Nat}{rd:IQ Nat}{ops:IG Hp}
theorem Yd {x:Value}{k:Nat}{w:H5}{r:Result Value}(h:(C9 x k).run P w=r):(∃v,r = .ok v w/\∀w2,(C9 x k).run P w2 = .ok v w2)∨ ∃e w',r = .halt e w':=by
 subst h;unfold C9;cases x<;>first
  |exact .inr ⟨_,_,rfl⟩
  |skip
 rename_i vs;dsimp only;cases h:vs[k]? with
 |none=>first|exact .inr ⟨_,_,rfl⟩|(simp[h];done)
 |some v=>exact .inl ⟨v,by simp[h],λw2=>by simp[h]⟩
theorem Yc {a:HA}{d t:Nat}{v:Value}(h:d≠t):(a.put (some d) v).eval (.tmp t)=a.eval (.tmp t):=by simp only[HA.put,HA.eval];simp only[FN,EW];rw[IE h]
theorem Yb {H:IU Box}{c0:Cx}{w0:H5}{K:IU AV->IU Box->Prop}{Q:GW->HA->H5->Prop}{fuel:Nat}{listed:IG Bool}{a:HA}{w:H5}(hd:Et ops) (hv:VOk ops) (hal:∀(k:Nat) o T,ops[k]? = some o->o.op = .alloc T->k<zi ops->∃z,yZ P T=some z) (hq:∀a' w' c' tm' H',K tm' H'->G9 G nb c' H' w' tm' a'->Hs c0 w0 c' w'->zl c0 H c' H'->Q .normal a' w') (hf:vF ops listed<=fuel+1) (hul:yy listed (zi ops)=false) (hb:∀k,xU ops (zi ops) k=true->yy listed k=true) (hnall:¬ ∀i,i<zi ops->yy listed i=true) (hM:N4 P G nb ops H c0 w0 (λtm1=>xg P ops (zQ ops) (zW tm1) H λtm2 H2=>sk P G ops (ops.toList.drop (zi ops)) tm2 H2 K) listed a w):wpOpIn (vI rd) 0 P ops Q (zi ops) (wpAnyIn (vI rd) 0 P .any ops Q fuel (listed.setIfInBounds (zi ops) true)) a w:=by
 obtain⟨hone,z,d,s,kx,p,q,T,hz,hzo,hzd,hzg,hjo,hjg,hjd,hdp,hdq,hanc⟩:=hv;have hjs:zi ops<ops.size:=by omega
 have hzs:z<ops.size:=by omega
 have hlsz:listed.size=ops.size:=by obtain⟨_,_,_,_,_,_,hD,_⟩:=hM;exact hD.lsz
 have hcl:xV ops listed:=by obtain⟨_,_,_,_,_,_,hD,_⟩:=hM;exact hD.closed
 have hoth:∀i,i<zi ops->i≠z->yy listed i=true:=λi hi hne=>hb i (hanc i hi hne);have hzul:yy listed z=false:=by
  cases hx:yy listed z with
  |false=>rfl
  |true=>exact Hu (λi hi=>by
    by_cases e:i=z
    ·subst e;exact hx
    ·exact hoth i hi e) hnall
 have hzne:z≠zi ops:=by omega
 have hedge:∀j,j<ops.size->∀k,xU ops j k=true->k<j:=λj hj k hk=>by exact Q8 hd j k hk
 have hbz:∀k,xU ops z k=true->yy listed k=true:=λk hk=>by have:=hedge z hzs k hk;exact hoth k (by omega) (by omega)
 have h1:=N4.step (rd:=rd) (Q:=λ_ _ _=>HD) hd hal hM hz hzul hbz;unfold wpOpIn at h1;rw[zb hzs]at h1;simp only at h1;rw[Hv (by simp[Fr,hzg])]at h1;have h1:=h1.2;have hzc:∀(ev:G1->Value) (w:H5),(execOp ev (zm ops z)).run P w=((C9 (ev (.tmp s)) kx).run P w).andThen λv w'=>.ok (.value v) w':=by intro ev w;simp only[execOp,hzo,Gk,GF]
 rw[EC _ _ _ (by rw[hzo];intro d hd;cases hd),hzc]at h1;obtain⟨v,hr,hall⟩:∃v,(C9 (a.eval (.tmp s)) kx).run P w = .ok v w/\∀w2,(C9 (a.eval (.tmp s)) kx).run P w2 = .ok v w2:=by
  rcases Yd (P:=P) (w:=w) (x:=a.eval (.tmp s)) (k:=kx) rfl with⟨v,hr,hall⟩|⟨e,w',hr⟩
  ·exact⟨v,hr,hall⟩
  ·exfalso;rw[hr]at h1;cases e<;>exact h1.elim
 rw[hr]at h1;simp only[Gm,zxI,hzd]at h1;let Q0:GW->HA->H5->Prop:=λe a w=>e = .normal/\∃c' tm' H',K tm' H'/\G9 G nb c' H' w tm' a/\Hs c0 w0 c' w/\zl c0 H c' H';have hall2:∀i,i<zi ops->yy (listed.setIfInBounds z true) i=true:=λi hi=>by
  rw[zc hlsz hzs];by_cases e:i=z
  ·simp[e]
  ·rw[IE e];exact hoth i hi e
 have h2:=qJ (rd:=rd) (Q:=Q0) (fuel:=vF ops (listed.setIfInBounds z true)+1) hd (λj hj hh i h3 hi=>by omega) (λa' w' c' tm' H' k1 k2 k3 k4=>⟨rfl,c',tm',H',k1,k2,k3,k4⟩) (Nat.le_succ _) hall2 h1;have hsz2:(listed.setIfInBounds z true).size=ops.size:=by simp[hlsz]
 have hjul2:yy (listed.setIfInBounds z true) (zi ops)=false:=by rw[zc hlsz hzs,IE (Ne.symm hzne)];exact hul
 have hready2:zi ops∈Ek .any ops (listed.setIfInBounds z true):=(y6 hsz2).2 ⟨_,zb hjs,hjul2,λe he hbb=>hall2 _ (hd.edges _ _ (zb hjs) e he hbb)⟩;have h3:=h2.2 _ hready2;unfold wpOpIn at h3;rw[zb hjs]at h3;simp only at h3;rw[Hv (by simp[Fr,hjg])]at h3;have h3:=h3.2;have hjc:∀(ev:G1->Value) (w:H5),(execOp ev (zm ops (zi ops))).run P w=((Dl T (ev (.tmp p)) (ev (.tmp q))).run P w).andThen λ_ w'=>.ok .skip w':=by intro ev w;simp only[execOp,hjo,Gk,GF]
 rw[EC _ _ _ (by rw[hjo];intro d hd;cases hd),hjc,Yc hdp,Yc hdq]at h3;have hnone:∀(l:IG Bool),l.size=ops.size->(∀k,k<ops.size->yy l k=true)->Ek .any ops l=[]:=λl hl h=>Aw.2 λi hi=>by obtain⟨o,ho,h5,_⟩:=(y6 hl).1 hi;rw[h i (zL ho)]at h5;cases h5
 have hdone:∀(l:IG Bool) (fuel:Nat) (a:HA) (w:H5) (Q:GW->HA->H5->Prop),l.size=ops.size->(∀k,k<ops.size->yy l k=true)->wpAnyIn (vI rd) 0 P .any ops Q fuel l a w->Q .normal a w:=λl fuel a w Q hl h hw=>by
  cases fuel with
  |zero=>exact hw.2
  |succ n=>exact hw.1 (hnone l hl h)
 have hback:∀(l:IG Bool) (fuel:Nat) (a:HA) (w:H5),l.size=ops.size->(∀k,k<ops.size->yy l k=true)->Q .normal a w->wpAnyIn (vI rd) 0 P .any ops Q fuel l a w:=λl fuel a w hl h hw=>by
  cases fuel with
  |zero=>exact⟨hnone l hl h,hw⟩
  |succ n=>exact⟨λ_=>hw,λi hi=>by rw[hnone l hl h]at hi;simp at hi⟩
 refine rI (zb hjs) hjg ?_;refine⟨λ_ _=>trivial,?_⟩;rw[EC _ _ _ (by rw[hjo];intro d hd;cases hd),hjc];cases hs:(Dl T (a.eval (.tmp p)) (a.eval (.tmp q))).run P w with
 |halt e w' =>
  rw[hs]at h3;cases e<;>first
   |exact h3.elim
   |exact Hu h3.1 (by simp)
 |ok u w2 =>
  rw[hs]at h3;simp only[Gm,Hp.uponIn_skip,hjd]at h3 ⊢;have hp1:∀(a:HA) (v:Value),a.put none v=a:=λa v=>rfl;rw[hp1]at h3 ⊢;have hall3:∀k,k<ops.size->yy ((listed.setIfInBounds z true).setIfInBounds (zi ops) true) k=true:=λk hk=>by
   rw[zc hsz2 hjs];by_cases e:k=zi ops
   ·simp[e]
   ·rw[IE e];exact hall2 k (by omega)
  obtain⟨_,c',tm',H',k1,k2,k3,k4⟩:=hdone _ _ _ _ _ (by simp[hlsz]) hall3 h3;have hQ:=hq _ _ _ _ _ k1 k2 k3 k4;have hsz3:(listed.setIfInBounds (zi ops) true).size=ops.size:=by simp[hlsz]
  have hlz:yy (listed.setIfInBounds (zi ops) true) z=false:=by rw[zc hlsz hjs,IE hzne];exact hzul
  have hready3:z∈Ek .any ops (listed.setIfInBounds (zi ops) true):=(y6 hsz3).2 ⟨_,zb hzs,hlz,λe he hbb=>by
   have h5:=hd.edges _ _ (zb hzs) e he hbb;rw[zc hlsz hjs];by_cases e1:e.on=zi ops
   ·simp[e1]
   ·rw[IE e1];exact hoth _ (by omega) (by omega)⟩
  cases fuel with
  |zero =>
   exfalso;have hdec:vF ops (listed.setIfInBounds (zi ops) true)+1<=vF ops listed:=vG (p:=λk=>!yy listed k) (q:=λk=>!yy (listed.setIfInBounds (zi ops) true) k) (i:=zi ops) (Gp ops.size) (λk hk=>by
    rw[zc hlsz hjs]at hk;split at hk
    ·simp at hk
    ·exact hk) (by simp[hul]) (by rw[zc hlsz hjs];simp) (by simpa using hjs)
   have:0<vF ops (listed.setIfInBounds (zi ops) true):=Bc.2 ⟨z,by simp;exact hzs,by simp[hlz]⟩;omega
  |succ fuel =>
   refine⟨λh0=>by rw[h0]at hready3;simp at hready3,λi hi=>?_⟩;obtain⟨o,ho,h5,_⟩:=(y6 hsz3).1 hi;have hiz:i=z:=by
    rw[zc hlsz hjs]at h5;split at h5
    ·cases h5
    ·rename_i hne;have:=zL ho;by_cases e:i=z
     ·exact e
     ·rw[hoth i (by omega) e]at h5;cases h5
   subst hiz;refine rI (zb hzs) hzg ?_;refine⟨λ_ _=>trivial,?_⟩;rw[EC _ _ _ (by rw[hzo];intro d hd;cases hd),hzc,hall w2];simp only[Gm,zxI,hzd];refine hback _ _ _ _ (by simp[hlsz]) (λk hk=>?_) hQ;rw[zc hsz3 hzs];by_cases e:k=i
   ·simp[e]
   ·rw[IE e,zc hlsz hjs];by_cases e1:k=zi ops
    ·simp[e1]
    ·rw[IE e1];exact hoth k (by omega) e
theorem Qq {H:IU Box}{c0:Cx}{w0:H5}{K:IU AV->IU Box->Prop}{Q:GW->HA->H5->Prop}(hd:Et ops) (hv:VOk ops) (hal:∀(k:Nat) o T,ops[k]? = some o->o.op = .alloc T->k<zi ops->∃z,yZ P T=some z) (hq:∀a' w' c' tm' H',K tm' H'->G9 G nb c' H' w' tm' a'->Hs c0 w0 c' w'->zl c0 H c' H'->Q .normal a' w'):∀(fuel:Nat) (listed:IG Bool) (a:HA) (w:H5),vF ops listed<=fuel->N4 P G nb ops H c0 w0 (λtm1=>xg P ops (zQ ops) (zW tm1) H λtm2 H2=>sk P G ops (ops.toList.drop (zi ops)) tm2 H2 K) listed a w->wpAnyIn (vI rd) 0 P .any ops Q fuel listed a w:=by
 have hone:=hv.one;have hdt:∀j,j<ops.size->zi ops<=j->∀i,zi ops<=i->i<j->xU ops j i=true:=λj hj hh i h3 hi=>by omega
 intro fuel;induction fuel with
 |zero =>
  intro listed a w hf hM;refine qJ hd hdt hq hf (λi hi=>?_) hM;cases hx:yy listed i with
  |true=>rfl
  |false =>
   have:0<vF ops listed:=Bc.2 ⟨i,by simp;exact F4 hi (xo ops),by simp[hx]⟩;omega
 |succ fuel ih =>
  intro listed a w hf hM;by_cases hall:∀i,i<zi ops->yy listed i=true
  ·exact qJ hd hdt hq hf hall hM
  ·have hex:∃i,i<zi ops/\yy listed i=false:=by
    rcases EA (∃i,i<zi ops/\yy listed i=false)with h|h
    ·exact h
    ·exact Hu (λi hi=>by
      cases hx:yy listed i with
      |true=>rfl
      |false=>exact Hu ⟨i,hi,hx⟩ h) hall
   obtain⟨i0,h1,h2,h3⟩:=xQ (zi ops) hex;have hlsz:listed.size=ops.size:=by obtain⟨_,_,_,_,_,_,hD,_⟩:=hM;exact hD.lsz
   have hcl:xV ops listed:=by obtain⟨_,_,_,_,_,_,hD,_⟩:=hM;exact hD.closed
   have hi0:i0<ops.size:=F4 h1 (xo ops);have hready:i0∈Ek .any ops listed:=(y6 hlsz).2 ⟨_,zb hi0,h2,λe he hb=>h3 _ (hd.edges i0 _ (zb hi0) e he hb)⟩;refine⟨λh0=>by rw[h0]at hready;simp at hready,λi hi=>?_⟩;obtain⟨o,ho,hul,_⟩:=(y6 hlsz).1 hi;have hb:∀k,xU ops i k=true->yy listed k=true:=wJ hcl ho hi;have hisz:=zL ho;rcases G4 i (zi ops)with hih|hge
   ·refine wpOpIn_mono (λa' w' hM'=>ih _ a' w' ?_ hM') (N4.step hd hal hM hih hul hb);have hdec:vF ops (listed.setIfInBounds i true)+1<=vF ops listed:=vG (p:=λk=>!yy listed k) (q:=λk=>!yy (listed.setIfInBounds i true) k) (i:=i) (Gp ops.size) (λk hk=>by
     rw[zc hlsz hisz]at hk;split at hk
     ·simp at hk
     ·exact hk) (by simp[hul]) (by rw[zc hlsz hisz];simp) (by simpa using hisz)
    omega
   ·have:i=zi ops:=by omega
    subst this;exact Yb hd hv hal hq hf hul hb hall hM
theorem dY {c:Cx}{H:IU Box}{w:H5}{tm:IU AV}{a:HA}{K:IU AV->IU Box->Prop}{Q:GW->HA->H5->Prop}(hR:G9 G nb c H w tm a) (h:Qr P G ops tm H K) (hq:∀a' w' c' tm' H',K tm' H'->G9 G nb c' H' w' tm' a'->Hs c w c' w'->zl c H c' H'->Q .normal a' w'):wpAnyIn (vI rd) 0 P .any ops Q ops.size (GQ ops.size false) a { w with drawn:=w.drawn+1 }:=by
 unfold Qr at h;split at h
 ·rename_i hok;simp only[HC]at hok;obtain⟨⟨⟨hok,hno⟩,hrng⟩,halz⟩:=hok;obtain⟨hd,hv⟩:=be hok;have hal:∀(k:Nat) o T,ops[k]? = some o->o.op = .alloc T->k<zi ops->∃z,yZ P T=some z:=by intro k o T hk hop _;have:=G3.1 halz o (by simpa using C2 hk);rw[hop]at this;exact DQ.1 this
  have hlst:∀k,yy (GQ ops.size false) k=false:=by
   intro k;unfold yy;rw[FN];by_cases hk:k<ops.size
   ·simp[hk]
   ·simp[Ch (show(GQ ops.size false).size<=k by simpa using hk)]
  have hnoopt:∀g p x,Cp g p x∉tm:=λg p x hx=>by have:=G3.1 hno _ hx;simp[noOptB]at this
  have hD:EX P G nb ops H c w (λtm1=>xg P ops (zQ ops) (zW tm1) H λtm2 H2=>sk P G ops (ops.toList.drop (zi ops)) tm2 H2 K) (GQ ops.size false) a { w with drawn:=w.drawn+1 } c tm [] (ny ops) (λ_=>0) (λ_=>.cells #[] 0 (0,0)) (λ_=>HD):=by
   refine { hr:=hR.hr.drew _,gr:=hR.gr.ext (FB c w _),ext:=FB c w _,keep:=GV _ _,df:=hR.df.ext (FB c w _),lsz:=by simp,closed:= ?_,len:= ?_,rng:= ?_,slot:= ?_,opt:= ?_,v:=h,ord:=hd.ord,dn:= ?_,dh:= ?_,unl:=λi _=>hlst i,pend:= ?_,fresh:= ?_,binj:= ?_ }
   ·intro j i hj _;have:yy (GQ ops.size false) j=true:=hj;rw[hlst]at this;cases this
   ·have:=hR.tm.1;simpa using this.symm
   ·intro k o d hk hdk;have:=G3.1 hrng o (by simpa using C2 hk);rw[hdk]at this;simpa using this
   ·intro t x v hx hv _;have:=hR.tm.2 t v x (by simpa using hv) hx;exact this.ext (FB c w _) (GV _ _)
   ·intro t g p x hx;exact Hu (GS hx) (hnoopt g p x)
   ·intro k hk;simp at hk
   ·intro k hk;simp at hk
   ·intro k hk;simp at hk
   ·intro i o T _ _ _ hl;rw[hlst]at hl;cases hl
   ·intro i i' o o' T T' _ _ _ _ _ _ hl;rw[hlst]at hl;cases hl
  obtain⟨tm',done',r',hD',hrc⟩:=hD.advance hd;refine Qq hd hv hal hq ops.size _ a _ ?_ ⟨c,tm',done',r',_,_,hD',(λk o T _ _ _ hl=>by rw[hlst]at hl;cases hl),(λj _=>hlst j),hrc⟩;have:=C3 (p:=λi=>!yy (GQ ops.size false) i) (l:=Gp ops.size);simpa[vF]using this
 ·exact h.elim
end
section
variable {P:HP}{G:Nat->IQ (IU D)}{nb:Nat}{rd:IQ Nat}{ops:IG Hp}{Hb:IU Box}{c0:Cx}{w0:H5}{Kend:IU AV->IU Box->Prop}{listed:IG Bool}{a:HA}{w:H5}{c:Cx}{Hc Ha:IU Box}{tm:IU AV}{done r pq:IU Nat}{B:Nat->Nat}
def R2 (P:HP) (G:Nat->IQ (IU D)) (nb:Nat) (ops:IG Hp) (Hb:IU Box) (c0:Cx) (w0:H5) (Kend:IU AV->IU Box->Prop) (listed:IG Bool) (a:HA) (w:H5):Prop :=∃c Hc Ha tm done r pq B,DinT P G nb ops Hb c0 w0 Kend listed a w c Hc Ha tm done r pq B (λ_=>HD)/\(r=[]∨ ∃i r',r=i::r'/\isCallV (zm ops i).op=true)
theorem DinT.alloc {i:Nat}{T:TypeId}{z:Value}(hd:DOkT ops) (h:DinT P G nb ops Hb c0 w0 Kend listed a w c Hc Ha tm done r pq B (λ_=>HD)) (hi:i<ym ops) (hop:(zm ops i).op = .alloc T) (hz:yZ P T=some z) (hul:yy listed i=false) (hb:∀k,xU ops i k=true->yy listed k=true): DinT P G nb ops Hb c0 w0 Kend (listed.setIfInBounds i true) (a.put (zm ops i).dst (.pointer (some ⟨w.heap.size,0,none⟩))) { w with heap:=w.heap.push (.cells z.cells T) } c Hc Ha tm done r pq (λk=>if k=i then w.heap.size else B k) (λ_=>HD):=by
 have hisz:i<ops.size:=F4 hi hd.le;have hoi:=zb hisz;obtain⟨_,d,hdst⟩:=hd.allocs i _ hoi hi (by rw[hop];rfl);have e:=BO c w (.cells z.cells T) h.hr.ilt h.hr.jlt;have hoth:∀t,d≠t->(a.put (zm ops i).dst (.pointer (some ⟨w.heap.size,0,none⟩))).tmps[t]? = a.tmps[t]? :=by intro t hne;rw[hdst,yE,EW];simp[hne]
 have hnd:∀k∈done,k≠i:=λk hk e'=>by have:=(y9.1 (h.dh k hk)).2;rw[e',hop]at this;simp[isAllocO]at this
 have hnr:∀k∈r,k≠i:=λk hk e'=>by have:=(y9.1 (xf h.ord k hk).1).2;rw[e',hop]at this;simp[isAllocO]at this
 refine { hr:=h.hr.push_free _,gr:=h.gr.ext e,ext:=h.ext.trans e,keep:=h.keep,hle:=h.hle,df:= ?_,lsz:=by simp[h.lsz],closed:=CM h.lsz hisz h.closed hb,len:= ?_,rng:=h.rng,slot:= ?_,opt:=h.opt,v:=h.v,ord:=h.ord,dn:=h.dn,dh:=h.dh,unl:= ?_,pend:= ?_,pqa:= ?_,pqb:= ?_,pqs:=h.pqs,chain:=h.chain,fresh:= ?_,binj:= ?_,tail:= ?_ }
 ·rw[hdst];exact h.df.ext e
 ·rw[h.len,hdst,yE];simp
 ·intro t x u hx hu hall;have hne:d≠t:=λe'=>by have:=((hall i _ hoi (by rw[hdst,e'])).resolve_left (by omega)).2;rw[hop]at this;simp[isAllocO]at this
  rw[hoth t hne]at hu;have h1:=h.slot t x u hx hu λm o hm hdm=>by
   rcases hall m o hm hdm with h4|⟨h2,h3⟩
   ·exact .inl h4
   ·rw[zc h.lsz hisz]at h2;have:m≠i:=λe'=>by rw[e',hoi]at hm;simp at hm;rw[←hm,hdst]at hdm;simp at hdm;exact hne hdm
    rw[IE this]at h2;exact .inr ⟨h2,h3⟩
  have h2:=h1.ext e (GV c Hc);cases x<;>first
   |exact h2
   |skip
  rename_i g p y;simp only[xj]at h2 ⊢;have hg:(a.put (zm ops i).dst (.pointer (some ⟨w.heap.size,0,none⟩))).tmps[g]? = a.tmps[g]? :=by
   refine hoth g λeg=>?_;obtain⟨i1,j1,oi1,oj1,a1,a2',a3,a4,a5,a6⟩:=h.opt t g p y hx;have hl:=((hall i1 oi1 a1 a3).resolve_left (by omega)).1;have hi1:i1≠i:=λe'=>by rw[e',hoi]at a1;simp at a1;rw[←a1,hdst]at a3;simp at a3;exact hne a3
   rw[zc h.lsz hisz,IE hi1]at hl;have hj:=h.closed i1 j1 hl a5;have:j1=i:=sH hd a2' hoi a4 (by rw[hdst,eg]);rw[this]at hj;have hj':yy listed i=true:=hj;rw[hul]at hj';cases hj'
  rw[hg];exact h2
 ·intro m hm;rw[zc h.lsz hisz,IE (hnr m hm)];exact h.unl m hm
 ·intro m hm hml hmt hx;rw[zc h.lsz hisz,IE (hnd m hm)]at hml;exact h.pend m hm hml hmt hx
 ·intro m hm hml hmt;rw[zc h.lsz hisz,IE (hnd m hm)]at hml;exact h.pqa m hm hml hmt
 ·intro m hm;obtain⟨b1,b2,b3⟩:=h.pqb m hm;exact⟨b1,by rw[zc h.lsz hisz,IE (hnd m b1)];exact b2,b3⟩
 ·intro m o T' hm hop' hmh hml;by_cases e':m=i
  ·subst e';rw[hoi]at hm;simp at hm;subst hm;rw[hop]at hop';cases hop';refine⟨d,hdst,?_,?_⟩
   ·rw[hdst,yE,EW];have hlt:d<a.tmps.size:=by have:=h.rng m _ d hoi hdst;rw[h.len]at this;exact this
    simp[hlt]
   ·simp only[if_true];refine⟨⟨z,hz,by simp,by simp,λl k hl=>?_,λo ho=>?_,λhj=>?_⟩,h.ext.size⟩
    ·have:=h.hr.lt l _ k hl;omega
    ·have:=h.hr.ilt _ o ho;omega
    ·have:=h.hr.jlt _ hj;omega
  ·rw[zc h.lsz hisz,IE e']at hml;obtain⟨d',h1,h2,h3⟩:=h.fresh m o T' hm hop' hmh hml;simp only[IE e'];refine⟨d',h1,?_,h3.1.ext e,h3.2⟩;rw[hoth d' λe2=>e' (sH hd hm hoi h1 (by rw[hdst,e2]))];exact h2
 ·intro m m' o o' T1 T2 hm hm' h1 h2 h3 h4 h5 h6 h7;rw[zc h.lsz hisz]at h5 h6;by_cases e1:m=i<;>by_cases e2:m'=i
  ·omega
  ·rw[Hv e1,IE e2]at h7;rw[IE e2]at h6;obtain⟨_,_,_,h8⟩:=h.fresh m' o' T2 hm' h2 h4 h6;obtain⟨_,_,h9⟩:=h8.1;have:=h9.1;omega
  ·rw[IE e1,Hv e2]at h7;rw[IE e1]at h5;obtain⟨_,_,_,h8⟩:=h.fresh m o T1 hm h1 h3 h5;obtain⟨_,_,h9⟩:=h8.1;have:=h9.1;omega
  ·rw[IE e1,IE e2]at h7;rw[IE e1]at h5;rw[IE e2]at h6;exact h.binj m m' o o' T1 T2 hm hm' h1 h2 h3 h4 h5 h6 h7
 ·intro j hj;rw[zc h.lsz hisz];have:j≠i:=λe'=>by omega
  rw[IE this];exact h.tail j hj
theorem R2.step {Q:GW->HA->H5->Prop}{i:Nat}(hd:DOkT ops) (hal:∀(k:Nat) o T,ops[k]? = some o->o.op = .alloc T->k<ym ops->∃z,yZ P T=some z) (h:R2 P G nb ops Hb c0 w0 Kend listed a w) (hi:i<ym ops) (hul:yy listed i=false) (hb:∀k,xU ops i k=true->yy listed k=true): wpOpIn (vI rd) 0 P ops Q i (λa' w'=>R2 P G nb ops Hb c0 w0 Kend (listed.setIfInBounds i true) a' w') a w:=by
 obtain⟨c,Hc,Ha,tm,done,r,pq,B,hD,hrc⟩:=h;have hisz:i<ops.size:=F4 hi hd.le;have hoi:=zb hisz;cases ha:isAllocO (zm ops i).op with
 |true =>
  cases hop:(zm ops i).op<;>rw[hop]at ha<;>simp[isAllocO]at ha
  rename_i T;obtain⟨z,hz⟩:=hal i _ T hoi hop hi;refine rI hoi (hd.allocs i _ hoi hi (by rw[hop];rfl)).1 ?_;refine⟨λ_ _=>trivial,?_⟩;rw[EC _ _ _ (by rw[hop];intro d hd;cases hd),rJ hop hz];exact⟨c,Hc,Ha,tm,done,r,pq,_,hD.alloc hd hi hop hz hul hb,hrc⟩
 |false =>
  have hih:i∈se ops:=y9.2 ⟨hi,ha⟩;have hrep:=hD.rep hb;rcases pE hD.ord i hih with hdone|hr
  ·cases ht:isTail (zm ops i).op with
   |true =>
    obtain⟨_,hgn,hgo⟩:=hd.grow i hi ht;have hip:=hD.pqa i hdone hul ht;obtain⟨q,hq⟩:∃q,pq=i::q:=by
     cases hpq:pq with
     |nil=>rw[hpq]at hip;simp at hip
     |cons j q =>
      by_cases e:j=i
      ·exact⟨q,by rw[e]⟩
      ·exfalso;have hs:=hD.pqs;rw[hpq]at hs hip;have hiq:i∈q:=by
        rcases F5.1 hip with h1|h1
        ·exact Hu h1.symm e
        ·exact h1
       have hlt:=(zy0.1 hs).1 i hiq;obtain⟨_,b2,b3⟩:=hD.pqb j (by rw[hpq];simp);have:=hb j (hgo j hlt b3);rw[b2]at this;cases this
    have hch:=hD.chain;rw[hq]at hch;obtain⟨av,H',hl,hall,htm,hrest⟩:=hch;refine rI hoi hgn ?_;refine sJ hrep (λg p h=>by simp[hasTag]at h) trivial (hall (λav2 H2=>av2=av/\H2=H') ⟨rfl,rfl⟩) ?_;intro v w' c' av2 H2 hk e k hr hra;obtain⟨rfl,rfl⟩:=hk;exact⟨c',H2,Ha,tm,done,r,q,B,hD.ran hd (λm hm=>hm.elim) hdone hul hb htm e k hl hr (xS hra) (.inr ⟨ht,hq,hrest⟩),hrc⟩
   |false =>
    have hp:=hD.pend i hdone hul ht (λh=>h);refine ui hoi hrep ht ha (Ye ht ha hD.hle hp.1 hp.2) λv w' c' av a2 hk e k hr hs=>?_;exact⟨c',Hc,Ha,tm,done,r,pq,B,hD.ran hd (λm hm=>hm.elim) hdone hul hb hk.2 e k (A4 _) hr hs (.inl ⟨ht,rfl,rfl⟩),hrc⟩
  ·rcases hrc with rfl|⟨i0,r',rfl,hcall⟩
   ·simp at hr
   ·have hi0:i=i0:=by
     rcases F5.1 hr with e|hr'
     ·exact e
     ·have hord:=hD.ord;simp only[vN,HC]at hord;have h1:=hord.1.2;simp only[hcall,El,FD]at h1;have h2:=G3.1 h1 i hr';have h3:=hb i0 h2;have h4:=hD.unl i0 (by simp);rw[h3]at h4;cases h4
    subst hi0;have ht:isTail (zm ops i).op=false:=by
     cases hop:(zm ops i).op<;>rw[hop]at hcall<;>simp[isCallV]at hcall
     rename_i cc;obtain⟨callee,args,types⟩:=cc;cases callee<;>simp[isCallV]at hcall
     rfl
    have hv:=hD.v;simp only[jh]at hv;rw[IE (by rw[ht];decide)]at hv;split at hv
    ·rename_i hdat;refine ui hoi hrep ht ha (Ye ht ha hD.hle hdat (vH hv)) λv w' c' av a2 hk e k hr2 hs=>?_;obtain⟨_,hk,hform⟩:=hk;have hDX:DinT P G nb ops Hb c0 w0 Kend listed a w c Hc Ha tm done (i::r') pq B (λm=>m=i):= { hD with pend:=λm hm hml hmt hx=>hD.pend m hm hml hmt (λh=>h) };have hN:=hDX.note (Ha':=Ha) hd hk (λg p x hx=>by obtain⟨j,hj1,hj2⟩:=hform g p x hx;exact hd.opt hi hj1 hj2) (λ_ hx=>Hu rfl hx) (λ_=>rfl) (λh0=>by rw[ht]at h0;cases h0);rw[IE (by rw[ht];decide)]at hN;have hRan:=hN.ran hd (λm hm=>hm) (by simp) hul hb (λd hdd hlt=>by rw[xR]at hlt;rw[hdd];simp[wh,hlt]) e k (A4 _) hr2 hs (.inl ⟨ht,rfl,rfl⟩);obtain⟨tm3,Ha3,done3,r3,pq3,hD3,hrc3⟩:=hRan.advance hd;exact⟨c',Hc,Ha3,tm3,done3,r3,pq3,B,hD3,hrc3⟩
    ·exact hv.elim
theorem dX {K:IU AV->IU Box->Prop}{Q:GW->HA->H5->Prop}{fuel:Nat}(hd:DOkT ops) (hq:∀a' w' c' tm' H',K tm' H'->G9 G nb c' H' w' tm' a'->Hs c0 w0 c' w'->zl c0 Hb c' H'->Q .normal a' w') (hf:vF ops listed<=fuel) (hall:∀i,i<ym ops->yy listed i=true) (hM:R2 P G nb ops Hb c0 w0 (λtm1 H1=>xg P ops (wg ops) (zW tm1) H1 λtm2 H2=>sk P G ops (ops.toList.drop (ym ops)) tm2 H2 K) listed a w):wpAnyIn (vI rd) 0 P .any ops Q fuel listed a w:=by
 obtain⟨c,Hc,Ha,tm,done,r,pq,B,hD,hrc⟩:=hM;have hr:r=[]:=by
  rcases hrc with h|⟨i,r',rfl,_⟩
  ·exact h
  ·have h1:=hD.unl i (by simp);have h2:=hall i (y9.1 (xf hD.ord i (by simp)).1).1;rw[h2]at h1;cases h1
 subst hr;have hpq:pq=[]:=by
  cases hpq:pq with
  |nil=>rfl
  |cons j q =>
   obtain⟨b1,b2,_⟩:=hD.pqb j (by rw[hpq];simp);have:=hall j (y9.1 (hD.dh j b1)).1;rw[this]at b2;cases b2
 subst hpq;have hHa:Ha=Hc:=hD.chain;subst hHa;have hk:=hD.v;simp only[jh]at hk;have hsz:∀k,k∈wg ops->k<ops.size:=λk hk=>by simp only[wg,FE,Fz]at hk;exact F4 hk.1 hd.le
 have hown:∀i∈wg ops,∃T d,(zm ops i).op = .alloc T/\(zm ops i).dst=some d/\a.tmps[d]? = some (.pointer (some ⟨B i,0,none⟩))/\(∃cs aas,nx c w (B i) (.cells cs T (0,0))/\mP P T=some aas/\zy (λv a=>RA c Ha w a v) cs.toList aas)/\w0.heap.size<=B i:=by
  intro i hi;simp only[wg,FE,Fz]at hi;cases hop:(zm ops i).op<;>rw[hop]at hi<;>simp[isAllocO]at hi
  rename_i T;obtain⟨d,h1,h2,h3,h4⟩:=hD.fresh i _ T (zb (F4 hi hd.le)) hop hi (hall i hi);obtain⟨z,hz,h3⟩:=h3;exact⟨T,d,rfl,h1,h2,⟨_,_,h3,by simp[mP,hz],CN _⟩,h4⟩
 have hLeft:Left P G nb ops Hb c0 w0 a w (λ_ T=>mP P T) B (wg ops) (zW tm) Ha c:=by
  refine { hr:=hD.hr,gr:=hD.gr,ext:=hD.ext,keep:=hD.keep,df:=hD.df,len:=by simp[zW,hD.len],no:= ?_,slot:= ?_,own:=hown,nd:= ?_,inj:= ?_ }
  ·intro g p x hm;simp only[zW,Gd]at hm;obtain⟨y,_,hy⟩:=hm;cases y<;>simp[dull]at hy
  ·intro t x v hx hv hno;simp only[zW,G5]at hx;cases hy:tm[t]? with
   |none=>rw[hy]at hx;simp at hx
   |some y =>
    rw[hy]at hx;simp at hx;subst hx;have hs:=hD.slot t y v hy hv λk o hk hdk=>by
     rcases G4 k (ym ops)with h1|h1
     ·right;refine⟨hall k h1,?_⟩;cases ha:isAllocO o.op with
      |false=>rfl
      |true =>
       have hka:k∈wg ops:=by simp only[wg,FE,Fz];exact⟨h1,by rw[yu hk];exact ha⟩
       exact Hu (by rw[yu hk];exact hdk) (hno k hka)
     ·exact .inl h1
    cases y<;>first
     |exact hs
     |exact Di v
  ·exact Aj (zzB) (zyx)
  ·intro i hi j hj hB;have hi':=hi;have hj':=hj;simp only[wg,FE,Fz]at hi' hj';obtain⟨T,d,o1,_⟩:=hown i hi;obtain⟨T',d',o2,_⟩:=hown j hj;exact hD.binj i j _ _ T T' (zb (hsz i hi)) (zb (hsz j hj)) o1 o2 hi'.1 hj'.1 (hall i hi'.1) (hall j hj'.1) hB
 obtain⟨tm2,H2,c2,hk2,hR2,he2,hkp2⟩:=s0 hsz (wg ops) (zW tm) Ha c (λ_ h=>h) hLeft hk;refine gc hd.edges (λj hj hh i _ hi=>hd.tails j hj hh i hi) fuel (ym ops) listed c2 H2 w tm2 a (GE _) hd.le hD.lsz (λk hk=>⟨λh=>?_,λh=>hall k h⟩) hD.closed ?_ hR2 hk2 λa' w' c' tm' H' hk' hR' e k=>hq a' w' c' tm' H' hk' hR' (he2.trans e) (hkp2.trans k)
 ·rcases G4 k (ym ops)with h1|h1
  ·exact h1
  ·have:=hD.tail k h1;rw[h]at this;cases this
 ·refine EN (qK (ym ops) ops.size λk h1 _=>?_) hf;rw[hD.tail k h1];rfl
theorem Qp {K:IU AV->IU Box->Prop}{Q:GW->HA->H5->Prop}(hd:DOkT ops) (hal:∀(k:Nat) o T,ops[k]? = some o->o.op = .alloc T->k<ym ops->∃z,yZ P T=some z) (hq:∀a' w' c' tm' H',K tm' H'->G9 G nb c' H' w' tm' a'->Hs c0 w0 c' w'->zl c0 Hb c' H'->Q .normal a' w'):∀(fuel:Nat) (listed:IG Bool) (a:HA) (w:H5),vF ops listed<=fuel->R2 P G nb ops Hb c0 w0 (λtm1 H1=>xg P ops (wg ops) (zW tm1) H1 λtm2 H2=>sk P G ops (ops.toList.drop (ym ops)) tm2 H2 K) listed a w->wpAnyIn (vI rd) 0 P .any ops Q fuel listed a w:=by
 intro fuel;induction fuel with
 |zero =>
  intro listed a w hf hM;refine dX hd hq hf (λi hi=>?_) hM;cases hx:yy listed i with
  |true=>rfl
  |false =>
   have:0<vF ops listed:=Bc.2 ⟨i,by simp;exact F4 hi hd.le,by simp[hx]⟩;omega
 |succ fuel ih =>
  intro listed a w hf hM;by_cases hall:∀i,i<ym ops->yy listed i=true
  ·exact dX hd hq hf hall hM
  ·have hex:∃i,i<ym ops/\yy listed i=false:=by
    rcases EA (∃i,i<ym ops/\yy listed i=false)with h|h
    ·exact h
    ·exact Hu (λi hi=>by
      cases hx:yy listed i with
      |true=>rfl
      |false=>exact Hu ⟨i,hi,hx⟩ h) hall
   obtain⟨i0,h1,h2,h3⟩:=xQ (ym ops) hex;have hlsz:listed.size=ops.size:=by obtain⟨_,_,_,_,_,_,_,_,hD,_⟩:=hM;exact hD.lsz
   have hcl:xV ops listed:=by obtain⟨_,_,_,_,_,_,_,_,hD,_⟩:=hM;exact hD.closed
   have hi0:i0<ops.size:=F4 h1 hd.le;have hready:i0∈Ek .any ops listed:=(y6 hlsz).2 ⟨_,zb hi0,h2,λe he hb=>h3 _ (hd.edges i0 _ (zb hi0) e he hb)⟩;refine⟨λh0=>by rw[h0]at hready;simp at hready,λi hi=>?_⟩;obtain⟨o,ho,hul,_⟩:=(y6 hlsz).1 hi;have hb:∀k,xU ops i k=true->yy listed k=true:=wJ hcl ho hi;have hisz:=zL ho;have hih:i<ym ops:=by
    rcases G4 i (ym ops)with h|h
    ·exact h
    ·exact Hu (λk hk=>hb k (hd.tails i hisz h k (by omega))) hall
   refine wpOpIn_mono (λa' w' hM'=>ih _ a' w' ?_ hM') (R2.step hd hal hM hih hul hb);have hdec:vF ops (listed.setIfInBounds i true)+1<=vF ops listed:=vG (p:=λk=>!yy listed k) (q:=λk=>!yy (listed.setIfInBounds i true) k) (i:=i) (Gp ops.size) (λk hk=>by
    rw[zc hlsz hisz]at hk;split at hk
    ·simp at hk
    ·exact hk) (by simp[hul]) (by rw[zc hlsz hisz];simp) (by simpa using hisz)
   omega
theorem dW {H:IU Box}{K:IU AV->IU Box->Prop}{Q:GW->HA->H5->Prop}(hR:G9 G nb c H w tm a) (h:UP P G ops tm H K) (hq:∀a' w' c' tm' H',K tm' H'->G9 G nb c' H' w' tm' a'->Hs c w c' w'->zl c H c' H'->Q .normal a' w'):wpAnyIn (vI rd) 0 P .any ops Q ops.size (GQ ops.size false) a { w with drawn:=w.drawn+1 }:=by
 unfold UP at h;split at h
 ·rename_i hok;simp only[HC]at hok;obtain⟨⟨⟨hok,hno⟩,hrng⟩,halz⟩:=hok;have hd:=bg hok;have hal:∀(k:Nat) o T,ops[k]? = some o->o.op = .alloc T->k<ym ops->∃z,yZ P T=some z:=by intro k o T hk hop _;have:=G3.1 halz o (by simpa using C2 hk);rw[hop]at this;exact DQ.1 this
  have hlst:∀k,yy (GQ ops.size false) k=false:=by
   intro k;unfold yy;rw[FN];by_cases hk:k<ops.size
   ·simp[hk]
   ·simp[Ch (show(GQ ops.size false).size<=k by simpa using hk)]
  have hnoopt:∀g p x,Cp g p x∉tm:=λg p x hx=>by have:=G3.1 hno _ hx;simp[noOptB]at this
  have hD:DinT P G nb ops H c w (λtm1 H1=>xg P ops (wg ops) (zW tm1) H1 λtm2 H2=>sk P G ops (ops.toList.drop (ym ops)) tm2 H2 K) (GQ ops.size false) a { w with drawn:=w.drawn+1 } c H H tm [] (Nq ops) [] (λ_=>0) (λ_=>HD):=by
   refine { hr:=hR.hr.drew _,gr:=hR.gr.ext (FB c w _),ext:=FB c w _,keep:=GV _ _,hle:=A4 _,df:=hR.df.ext (FB c w _),lsz:=by simp,closed:= ?_,len:= ?_,rng:= ?_,slot:= ?_,opt:= ?_,v:=h,ord:=hd.ord,dn:= ?_,dh:= ?_,unl:=λi _=>hlst i,pend:= ?_,pqa:= ?_,pqb:= ?_,pqs:=zuh,chain:=rfl,fresh:= ?_,binj:= ?_,tail:=λj _=>hlst j }
   ·intro j i hj _;have:yy (GQ ops.size false) j=true:=hj;rw[hlst]at this;cases this
   ·have:=hR.tm.1;simpa using this.symm
   ·intro k o d hk hdk;have:=G3.1 hrng o (by simpa using C2 hk);rw[hdk]at this;simpa using this
   ·intro t x v hx hv _;have:=hR.tm.2 t v x (by simpa using hv) hx;exact this.ext (FB c w _) (GV _ _)
   ·intro t g p x hx;exact Hu (GS hx) (hnoopt g p x)
   ·intro k hk;simp at hk
   ·intro k hk;simp at hk
   ·intro k hk;simp at hk
   ·intro k hk;simp at hk
   ·intro k hk;simp at hk
   ·intro i o T _ _ _ hl;rw[hlst]at hl;cases hl
   ·intro i i' o o' T T' _ _ _ _ _ _ hl;rw[hlst]at hl;cases hl
  obtain⟨tm',Ha',done',r',pq',hD',hrc⟩:=hD.advance hd;refine Qp hd hal hq ops.size _ a _ ?_ ⟨c,H,Ha',tm',done',r',pq',_,hD',hrc⟩;have:=C3 (p:=λi=>!yy (GQ ops.size false) i) (l:=Gp ops.size);simpa[vF]using this
 ·exact h.elim
theorem Ya {id:Nat}{H:IU Box}{K:IU AV->IU Box->Prop}{Q:GW->HA->H5->Prop}(hm:P.follows .mixedOrders=true) (hR:G9 G nb c H w tm a) (h:UP P G ops tm H K) (hq:∀a' w' c' tm' H',K tm' H'->G9 G nb c' H' w' tm' a'->Hs c w c' w'->zl c H c' H'->Q .normal a' w'):(AH id ops true).wpIn (vI rd) 0 P Q a w:=wpIn_region_any hm (dW hR h hq)
def gZ (P:HP) (G:Nat->IQ (IU D)) (ops:IG Hp) (tm:IU AV) (H:IU Box) (K:IU AV->IU Box->Prop):Prop :=if kj ops&& !gb ops then UQ P G ops tm H K else if pD ops&& !gb ops then Qt P G ops tm H K else if iu ops&& !gb ops then Qr P G ops tm H K else UP P G ops tm H K
theorem jf {id:Nat}{H:IU Box}{K:IU AV->IU Box->Prop}{Q:GW->HA->H5->Prop}(hm:P.follows .mixedOrders=true) (hR:G9 G nb c H w tm a) (h:gZ P G ops tm H K) (hq:∀a' w' c' tm' H',K tm' H'->G9 G nb c' H' w' tm' a'->Hs c w c' w'->zl c H c' H'->Q .normal a' w'):(AH id ops true).wpIn (vI rd) 0 P Q a w:=by
 unfold gZ at h;split at h
 ·exact Yf hm hR h hq
 ·split at h
  ·exact wpIn_region_any hm (dZ hR h hq)
  ·split at h
   ·exact wpIn_region_any hm (dY hR h hq)
   ·exact Ya hm hR h hq
theorem R3 {H:IU Box}{K:IU AV->IU Box->Prop}{Q:GW->HA->H5->Prop}(hR:G9 G nb c H w tm a) (h:gZ P G ops tm H K) (hq:∀a' w' c' tm' H',K tm' H'->G9 G nb c' H' w' tm' a'->Hs c w c' w'->zl c H c' H'->Q .normal a' w'):wpAnyIn (vI rd) 0 P .any ops Q ops.size (GQ ops.size false) a { w with drawn:=w.drawn+1 }:=by
 unfold gZ at h;split at h
 ·exact db hR h hq
 ·split at h
  ·exact dZ hR h hq
  ·split at h
   ·exact dY hR h hq
   ·exact dW hR h hq
end
def allI:IU Nat->(Nat->Prop)->Prop
 |[],_=>IN
 |[i],F=>F i
 |i::r,F=>F i/\allI r F
theorem allI_mem:∀{l:IU Nat}{F:Nat->Prop},allI l F->∀i∈l,F i
 |[],_,_,i,hi=>by simp at hi
 |[x],F,h,i,hi=>by simp at hi;subst hi;exact h
 |x::y::r,F,h,i,hi=>by
  rcases F5.1 hi with rfl|hi
  ·exact h.1
  ·exact allI_mem (l:=y::r) h.2 i hi
def mM (P:HP) (G:Nat->IQ (IU D)) (ops:IG Hp):Nat->IG Bool->IU AV->IU Box->(IU AV->IU Box->Prop)->Prop
 |n,listed,tm,H,K =>
  match Ek .any ops listed with
  |[]=>K tm H
  |l=>match n with
   |0=>HD
   |n+1=>allI l λi=>dj P G ops (zm ops i) tm H λtm' H'=>mM P G ops n (listed.setIfInBounds i true) tm' H' K
def Qo (P:HP) (ops:IG Hp):Bool:=ops.toList.any λo=>match o.op with
 |.call { callee:= .value (.func k),args:=_,argTypes:=_ }=>match P.funcs[k]? with
  |some fn=>US P fn
  |none=>false
 |_=>false
def dynCall (o:Hp):Bool:=match o.op with
 |.call { callee:= .value (.tmp _),args:=_,argTypes:=_ }=>true
 |_=>false
def UM (ops:IG Hp):Bool:=(Gp ops.size).all λj=>(zm ops j).after.toList.all λe=>!(Ed .any e)||decide (e.on<j)
def Qn (ops:IG Hp) (n:Nat):Bool :=UM ops && ((Gp ops.size).all λj=>decide (j<n)||(Gp j).all λi=>xU ops j i) && (Gp n).all λi=>match (zm ops i).guard with
  |none=>true
  |some (j,_)=>decide (j<n)
def isLoopB:Box->Bool
 |.loop _ _ _ _ _ _=>true
 |_=>false
def NB (ops:IG Hp):IQ Nat :=let n:=ops.toList.findIdx dynCall
 if decide (n<ops.size)&&Qn ops n then some n else none
def Qm (P:HP) (G:Nat->IQ (IU D)) (ops:IG Hp) (tm:IU AV) (H:IU Box) (K:IU AV->IU Box->Prop):Prop :=if Qo P ops then mM P G ops ops.size (GQ ops.size false) tm H K else if H.any isLoopB then match NB ops with
  |some n=>gZ P G (ops.extract 0 n) tm H λtm1 H1=>sk P G ops (ops.toList.drop n) tm1 H1 K
  |none=>gZ P G ops tm H K
 else gZ P G ops tm H K
section
variable {P:HP}{G:Nat->IQ (IU D)}{nb:Nat}{rd:IQ Nat}{ops:IG Hp}{c:Cx}{H:IU Box}{w:H5}{tm:IU AV}{a:HA}{Q:GW->HA->H5->Prop}
theorem YZ {K:IU AV->IU Box->Prop}:∀(fuel:Nat) (listed:IG Bool) (c:Cx) (H:IU Box) (w:H5) (tm:IU AV) (a:HA),listed.size=ops.size->G9 G nb c H w tm a->mM P G ops fuel listed tm H K->(∀a' w' c' tm' H',K tm' H'->G9 G nb c' H' w' tm' a'->Hs c w c' w'->zl c H c' H'->Q .normal a' w')->wpAnyIn (vI rd) 0 P .any ops Q fuel listed a w:=by
 intro fuel;induction fuel with
 |zero =>
  intro listed c H w tm a hs hR h hq;unfold mM at h;split at h
  ·rename_i h0;exact⟨h0,hq a w c tm H h hR (Fq _ _) (GV _ _)⟩
  ·exact h.elim
 |succ fuel ih =>
  intro listed c H w tm a hs hR h hq;unfold mM at h;split at h
  ·rename_i h0;refine⟨λ_=>hq a w c tm H h hR (Fq _ _) (GV _ _),λi hi=>by rw[h0]at hi;simp at hi⟩
  ·rename_i hne;refine⟨λh0=>Hu h0 hne,λi hi=>?_⟩;obtain⟨o,ho,_,_⟩:=(y6 hs).1 hi;have hst:=allI_mem h i hi;rw[yu ho]at hst;refine gg ho hR hst ?_;intro a' w' c' tm' H' hk hR' e k;exact ih _ c' H' w' tm' a' (by simp[hs]) hR' hk λa2 w2 c2 tm2 H2 hk2 hR2 e2 k2=>hq a2 w2 c2 tm2 H2 hk2 hR2 (e.trans e2) (k.trans k2)
theorem pC (n k:Nat):yy (GQ n false) k=false:=by
 unfold yy;rw[FN];by_cases hk:k<n
 ·simp[hk]
 ·simp[Ch (show(GQ n false).size<=k by simpa using hk)]
theorem Mx {F:Fence}{n:Nat}{o:Hp}{a:HA}{w:H5}{K K':HA->H5->Prop}{Q Q':GW->HA->H5->Prop}(h:o.wpIn F n P a w K Q') (hk:∀a w,K a w->K' a w) (hp:∀ch a w,Q' (.panic ch) a w->Q (.panic ch) a w) (hl:LetsOut Q'->LetsOut Q):o.wpIn F n P a w K' Q:=by
 unfold Hp.wpIn at *;refine⟨h.1,?_⟩;have hh:=h.2;generalize (o.semAt F.round a.eval).run P w=r at *;cases r with
 |ok x w' =>
  cases x<;>simp only[AG]at hh ⊢ <;>
   first
    |exact hk _ _ hh
    |exact⟨hh.1,CallsIn.mono hh.2 (λe w'' he=>by cases e<;>first|exact hk _ _ he|exact hp _ _ _ he|exact hl he)⟩
    |exact⟨hh.1,RowsIn.mono hh.2 (λ_ _ he=>hk _ _ he)⟩
    |exact⟨hh.1,RoundIn.mono hh.2 (λe w'' he=>by cases e<;>first|exact hk _ _ he|exact hp _ _ _ he|exact hl he)⟩
 |halt x w'=>cases x<;>simp only[AG]at hh ⊢ <;> first|exact hp _ _ _ hh|exact hh
def Ql (rd:IQ Nat) (P:HP) (ops:IG Hp) (n:Nat) (Q:GW->HA->H5->Prop):GW->HA->H5->Prop
 |.normal,a,w=>∀f listed,ops.size - n<=f->listed.size=ops.size->(∀k,k<ops.size->(yy listed k=true↔k<n))->xV ops listed->wpAnyIn (vI rd) 0 P .any ops Q f listed a w
 |e,a,w=>Q e a w
structure CutOk (ops:IG Hp) (n:Nat):Prop where
 le:n<=ops.size
 edges:∀j o,ops[j]? = some o->∀e∈o.after.toList,Ed .any e=true->e.on<j
 tails:∀j,j<ops.size->n<=j->∀i,i<j->xU ops j i=true
 guards:∀i o,i<n->ops[i]? = some o->∀j p,o.guard=some (j,p)->j<n
theorem Wb {n:Nat}(hn:n<=ops.size) (h:Qn ops n=true):CutOk ops n:=by
 unfold Qn UM at h;simp only[HC]at h;obtain⟨⟨h1,h2⟩,h3⟩:=h;refine⟨hn,λj o ho e he hb=>?_,λj hj hnj i hi=>?_,λi o hi ho j p hg=>?_⟩
 ·have:=G3.1 h1 j (Fz.2 (zL ho));rw[yu ho]at this;have:=G3.1 this e he;simpa[hb]using this
 ·have:=G3.1 h2 j (Fz.2 hj);have hnj':decide (j<n)=false:=by simp;omega
  rw[hnj',FD]at this;exact G3.1 this i (Fz.2 hi)
 ·have:=G3.1 h3 i (Fz.2 hi);rw[yu ho,hg]at this;simpa using this
theorem rH {n i:Nat}(hn:n<=ops.size) (hi:i<n):(ops.extract 0 n)[i]? = ops[i]? :=by
 rw[IG.getElem?_extract];have:i<n - 0:=by omega
 have h2:¬ min n ops.size - 0<=i:=by omega
 simp;omega
theorem Qk {n i:Nat}{K K':HA->H5->Prop}(hc:CutOk ops n) (hi:i<n) (h:wpOpIn (vI rd) 0 P (ops.extract 0 n) (Ql rd P ops n Q) i K a w) (hk:∀a w,K a w->K' a w):wpOpIn (vI rd) 0 P ops Q i K' a w:=by
 unfold wpOpIn at *;rw[rH hc.le hi]at h;cases ho:ops[i]? with
 |none=>rw[ho]at h;exact hk _ _ h
 |some o =>
  rw[ho]at h;have hw:Fr o (yielded (ops.extract 0 n) a.tmps)=Fr o (yielded ops a.tmps):=by
   unfold Fr;cases hg:o.guard with
   |none=>rfl
   |some q =>
    obtain⟨j,p⟩:=q;have hj:=hc.guards i o hi ho j p hg;simp only[yielded,rH hc.le hj]
  simp only[hw]at h;simp only;split
  ·rename_i hwt;rw[Hv hwt]at h;refine Mx h hk (λch a w h=>h) (λ⟨a,w,h⟩=>⟨a,w,h⟩)
  ·rename_i hwt;rw[IE hwt]at h;exact⟨h.1,hk _ _ h.2⟩
theorem Nk {n:Nat}(hc:CutOk ops n):∀(fuel:Nat) (l1 listed:IG Bool) (a:HA) (w:H5),l1.size=n->listed.size=ops.size->(∀k,k<n->yy listed k=yy l1 k)->(∀k,n<=k->yy listed k=false)->xV ops listed->wpAnyIn (vI rd) 0 P .any (ops.extract 0 n) (Ql rd P ops n Q) fuel l1 a w->wpAnyIn (vI rd) 0 P .any ops Q (fuel+(ops.size - n)) listed a w:=by
 have hsz:(ops.extract 0 n).size=n:=by have:=hc.le;simp;omega
 have rdy:∀(l1 listed:IG Bool),l1.size=n->listed.size=ops.size->(∀k,k<n->yy listed k=yy l1 k)->∀i,i<n->(i∈Ek .any (ops.extract 0 n) l1↔i∈Ek .any ops listed):=by
  intro l1 listed h1 h2 h3 i hi;rw[y6 (by rw[h1,hsz]),y6 h2,rH hc.le hi,h3 i hi];constructor
  ·rintro⟨o,ho,hl,he⟩;exact⟨o,ho,hl,λe hm hb=>by have:=hc.edges i o ho e hm hb;rw[h3 _ (by omega)];exact he e hm hb⟩
  ·rintro⟨o,ho,hl,he⟩;exact⟨o,ho,hl,λe hm hb=>by have:=hc.edges i o ho e hm hb;rw[←h3 _ (by omega)];exact he e hm hb⟩
 have full:∀(l1 listed:IG Bool),listed.size=ops.size->(∀k,n<=k->yy listed k=false)->(∀k,k<n->yy listed k=true)->∀k,k<ops.size->(yy listed k=true↔k<n):=by
  intro l1 listed _ h2 h3 k _;constructor
  ·intro h;rcases G4 k n with h' |h'
   ·exact h'
   ·rw[h2 k h']at h;cases h
  ·exact h3 k
 have nord:∀(l1:IG Bool),l1.size=n->(∀k,k<n->yy l1 k=true)->Ek .any (ops.extract 0 n) l1=[]:=by intro l1 h1 h2;refine Aw.2 λi hi=>?_;obtain⟨o,ho,hl,_⟩:=(y6 (by rw[h1,hsz])).1 hi;have:=zL ho;rw[h2 i (by omega)]at hl;cases hl
 have some_ready:∀(l1:IG Bool),l1.size=n->(∃k,k<n/\yy l1 k=false)->∃i,i∈Ek .any (ops.extract 0 n) l1:=by intro l1 h1 hex;obtain⟨i0,g1,g2,g3⟩:=xQ n hex;refine⟨i0,(y6 (by rw[h1,hsz])).2 ?_⟩;rw[rH hc.le g1];exact⟨_,zb (by have:=hc.le;omega),g2,λe he hb=>g3 _ (hc.edges i0 _ (zb (by have:=hc.le;omega)) e he hb)⟩
 intro fuel;induction fuel with
 |zero =>
  intro l1 listed a w h1 h2 h3 h4 h5 h;obtain⟨hr,hq⟩:=h;have hall:∀k,k<n->yy l1 k=true:=λk hk=>by
   cases hx:yy l1 k with
   |true=>rfl
   |false =>
    obtain⟨i,hi⟩:=some_ready l1 h1 ⟨k,hk,hx⟩;rw[hr]at hi;simp at hi
  exact hq _ listed (by omega) h2 (full l1 listed h2 h4 λk hk=>by rw[h3 k hk];exact hall k hk) h5
 |succ fuel ih =>
  intro l1 listed a w h1 h2 h3 h4 h5 h;obtain⟨hn,hs⟩:=h;by_cases hall:∀k,k<n->yy l1 k=true
  ·exact hn (nord l1 h1 hall) _ listed (by omega) h2 (full l1 listed h2 h4 λk hk=>by rw[h3 k hk];exact hall k hk) h5
  ·have hex:∃k,k<n/\yy l1 k=false:=by
    rcases EA (∃i,i<n/\yy l1 i=false)with h|h
    ·exact h
    ·exact Hu (λi hi=>by
      cases hx:yy l1 i with
      |true=>rfl
      |false=>exact Hu ⟨i,hi,hx⟩ h) hall
   have e:fuel+1+(ops.size - n)=(fuel+(ops.size - n))+1:=by omega
   rw[e];obtain⟨i0,hi0⟩:=some_ready l1 h1 hex;have hi0n:i0<n:=by obtain⟨o,ho,_⟩:=(y6 (by rw[h1,hsz])).1 hi0;have:=zL ho;omega
   refine⟨λh0=>?_,λi hi=>?_⟩
   ·have:=(rdy l1 listed h1 h2 h3 i0 hi0n).1 hi0;rw[h0]at this;simp at this
   ·obtain⟨o,ho,hul,_⟩:=(y6 h2).1 hi;have hb:∀k,xU ops i k=true->yy listed k=true:=wJ h5 ho hi;have hisz:=zL ho;have hin:i<n:=by
     rcases G4 i n with h|h
     ·exact h
     ·obtain⟨k,hk,hx⟩:=hex;have:=hb k (hc.tails i hisz h k (by omega));rw[h3 k hk,hx]at this;cases this
    refine Qk hc hin (hs i ((rdy l1 listed h1 h2 h3 i hin).2 hi)) λa' w' hk=>?_;refine ih _ _ a' w' (by simp[h1]) (by simp[h2]) (λk hk=>?_) (λk hk=>?_) (CM h2 hisz h5 hb) hk
    ·rw[zc h2 hisz,zc (ops:=ops.extract 0 n) (by rw[h1,hsz]) (by rw[hsz];exact hin),h3 k hk]
    ·rw[zc h2 hisz,IE (by omega)];exact h4 k hk
theorem YY {id:Nat}{H:IU Box}{K:IU AV->IU Box->Prop}(hm:P.follows .mixedOrders=true) (hR:G9 G nb c H w tm a) (h:Qm P G ops tm H K) (hq:∀a' w' c' tm' H',K tm' H'->G9 G nb c' H' w' tm' a'->Hs c w c' w'->zl c H c' H'->Q .normal a' w'):(AH id ops true).wpIn (vI rd) 0 P Q a w:=by
 unfold Qm at h;split at h
 ·refine wpIn_region_any hm ?_;have e:=FB c w;have hR':G9 G nb c H { w with drawn:=w.drawn+1 } tm a:=⟨hR.hr.drew _,hR.gr.ext (e _),hR.tm.ext (e _) (GV _ _),hR.df.ext (e _)⟩;exact YZ ops.size _ c H _ tm a (by simp) hR' h λa' w' c' tm' H' hk hR2 e2 k2=>hq a' w' c' tm' H' hk hR2 ((e _).trans e2) k2
 ·split at h
  ·split at h
   ·rename_i n hcut;unfold NB at hcut;simp only at hcut;split at hcut
    ·rename_i hcc;cases hcut;simp only[HC,HS]at hcc;have hc:=Wb (zyW hcc.1) hcc.2;refine wpIn_region_any hm ?_;have hsz:(ops.extract 0 (ops.toList.findIdx dynCall)).size=ops.toList.findIdx dynCall:=by have:=hcc.1;simp;omega
     have hA:=R3 (rd:=rd) (Q:=Ql rd P ops (ops.toList.findIdx dynCall) Q) hR h λa' w' c' tm' H' hk hR2 e2 k2=>by intro f listed hf hs hl hcl;exact gc hc.edges (λj hj hh i _ hi=>hc.tails j hj hh i hi) f _ listed c' H' w' tm' a' (GE _) (zyW hcc.1) hs hl hcl hf hR2 hk λa3 w3 c3 tm3 H3 hk3 hR3 e3 k3=>hq a3 w3 c3 tm3 H3 hk3 hR3 (e2.trans e3) (k2.trans k3)
     rw[hsz]at hA;have:=Nk hc _ _ (GQ ops.size false) a _ (by simp) (by simp) (λk _=>by rw[pC,pC]) (λk _=>pC _ _) (λj i hj _=>by have:yy (GQ ops.size false) j=true:=hj;rw[pC]at this;cases this) hA;have e:ops.toList.findIdx dynCall+(ops.size - ops.toList.findIdx dynCall)=ops.size:=by omega
     rw[e]at this;exact this
    ·cases hcut
   ·exact jf hm hR h hq
  ·exact jf hm hR h hq
end
abbrev Post:=GW->IU AV->IU Box->Prop
abbrev Loops:=Nat->IQ (IU AV->IU Box->Post->Prop)
def loopId:He->Nat
 |.region id _ _=>id
 |.seq a _=>loopId a
 |.cond _ a _=>loopId a
 |.block _ c=>loopId c
 |.loop c=>loopId c
 |.scope c=>1000000+loopId c
 |_=>0
def rangeId:He->He->IQ Nat
 |.region id _ false,.block _ (.rangeFunc _ _ _ _)=>some id
 |_,_=>none
def isScope:He->Bool
 |.scope _=>true
 |_=>false
def mkLoop:He->He
 |.scope c=>c
 |c=>.loop c
def gY (K:IU AV->IU Box->Prop) (Q:Post):Post:=λe tm H =>match e with
 |.normal=>K tm H
 |e=>Q e tm H
def bc (id:Nat) (Q:Post):Post:=λe tm H =>match e with
 |.exit i=>if i=id then Q .normal tm H else Q (.exit i) tm H
 |e=>Q e tm H
def is (L:Loops) (t:Bool) (A B:Prop):Prop :=match L 999999 with
 |none=>(t=true->A)/\(t=false->B)
 |some _=>cond t A B
theorem nv {L:Loops}{t:Bool}{A B:Prop}(h:is L t A B):(t=true->A)/\(t=false->B):=by
 unfold is at h;split at h
 ·exact h
 ·cases t
  ·exact⟨λe=>(by cases e),λ_=>h⟩
  ·exact⟨λ_=>h,λe=>(by cases e)⟩
def UL (P:HP) (ops:IG Hp):IQ (G1×Nat) :=match ops.toList.getLast? with
 |some o =>
  match o.guard,o.op,o.dst with
  |none,.binOp .eql T x (.const (.slice none 0 0)) _,some d =>
   match P.underlying T with
   |some (.slice _)=>some (x,d)
   |_=>none
  |_,_,_=>none
 |none=>none
def pw (P:HP) (G:Nat->IQ (IU D)) (L:Loops):He->IU AV->IU Box->Post->Prop
 |.skip,tm,H,Q=>Q .normal tm H
 |.label _,tm,H,Q=>Q .normal tm H
 |.exit id,tm,H,Q=>Q (.exit id) tm H
 |.ret,tm,H,Q=>Q .ret tm H
 |.seq a b,tm,H,Q =>
  match rangeId a b with
  |some id=>match L (1000000+id)with
   |some W=>W tm H Q
   |none=>HD
  |none=>pw P G L a tm H (gY (λtm' H'=>pw P G L b tm' H' Q) Q)
 |.cond x a b,tm,H,Q =>
  match ev G (yc [] tm) x with
  |.d (.bool t)=>is L t (pw P G L a tm H Q) (pw P G L b tm H Q)
  |_=>HD
 |.block id b,tm,H,Q=>pw P G L b tm H (bc id Q)
 |.region _ ops false,tm,H,Q =>
  match UL P ops with
  |some (x,d)=>sk P G ops ops.toList.dropLast tm H λtm1 H1 =>
   match avSl (ev G (yc [] tm1) x)with
   |some ds=>∀b:Bool,(b=true->ds=[])->Q .normal (zW (yP tm1 (some d) (.d (.bool b)))) H1
   |none=>match ev G (yc [] tm1) x with
    |.msl _=>Q .normal (zW (yP tm1 (some d) (.d (.bool false)))) H1
    |_=>HD
  |none=>sk P G ops ops.toList tm H λtm' H'=>Q .normal (zW tm') H'
 |.region _ ops true,tm,H,Q=>Qm P G ops tm H λtm' H'=>Q .normal (zW tm') H'
 |.loop b,tm,H,Q =>
  if isScope b then HD else
  match L (loopId b)with
  |some W=>W tm H Q
  |none=>HD
 |_,_,_,_=>HD
def loopsOf:He->IU He
 |.seq a b =>
  match rangeId a b with
  |some _=>[.scope (.seq a b)]
  |none=>loopsOf a++loopsOf b
 |.cond _ a b=>loopsOf a++loopsOf b
 |.block _ c=>loopsOf c
 |.loop c=>[c]
 |_=>[]
section
variable {P:HP}{G:Nat->IQ (IU D)}{nb:Nat}{rd:IQ Nat}{n:Nat}
theorem zl.cut {c H c' H'} (h:zl c H c' H') (n:Nat):zl c (H.take n) c' H':=by intro l x hx;exact h l x (zP hx).2
theorem zl.link {c:Cx}{H:IU Box}{c':Cx}{H':IU Box}{c'':Cx}{H'':IU Box}(h:zl c (H.take n) c' H') (h':zl c' (H'.take n) c'' H''):zl c (H.take n) c'' H'':=by
 intro l x hx;have hl:=(zP hx).1;have h1:=h l x hx;have key:∀y,H'[l]? = some y->(H'.take n)[l]? = some y:=λy hy=>by rw[zG hl];exact hy
 cases x with
 |vec m sz =>
  obtain⟨m',a,b,e⟩:=h1;obtain⟨m'',a',b',e'⟩:=h' l _ (key _ a);exact⟨m'',a',EN b b',λhe=>by
   have e1:m=m':=by omega
   have e2:m'=m'':=by omega
   rw[e' e2,e e1]⟩
 |dead=>trivial
 |arr sz ds =>
  obtain⟨⟨ds',a,n1⟩,e⟩:=h1;obtain⟨⟨ds'',a',n2⟩,e'⟩:=h' l _ (key _ a);exact⟨⟨ds'',a',n2.trans n1⟩,by rw[e',e]⟩
 |cells T cs =>
  obtain⟨⟨cs',a⟩,e⟩:=h1;obtain⟨⟨cs'',a'⟩,e'⟩:=h' l _ (key _ a);exact⟨⟨cs'',a'⟩,by rw[e',e]⟩
 |map es =>
  obtain⟨⟨cs',a⟩,e⟩:=h1;obtain⟨⟨cs'',a'⟩,e'⟩:=h' l _ (key _ a);exact⟨⟨cs'',a'⟩,by rw[e',e]⟩
 |loop tm ps asn bd pend st =>
  obtain⟨⟨p1,s1,a⟩,e⟩:=h1;obtain⟨⟨p2,s2,a'⟩,e'⟩:=h' l _ (key _ a);exact⟨⟨p2,s2,a'⟩,by rw[e',e]⟩
theorem mT.now {c H w tm a} {Q:Post}{e:GW}(hR:G9 G nb c H w tm a) (h:Q e tm H):mT G nb n c H w Q e a w :=⟨c,tm,H,h,hR,Fq _ _,(GV _ _).cut n⟩
theorem mT.later {c:Cx}{H:IU Box}{w:H5}{c':Cx}{H':IU Box}{w':H5}{a'':HA}{w'':H5}{Q:Post}{e:GW}(h1:Hs c w c' w') (h2:zl c (H.take n) c' H') (h:mT G nb n c' H' w' Q e a'' w''):mT G nb n c H w Q e a'' w'':=by obtain⟨c2,tm2,H2,a1,a2,a3,a4⟩:=h;exact⟨c2,tm2,H2,a1,a2,h1.trans a3,h2.link a4⟩
theorem PW.mono {code tm H} {Q Q':Post}(h:PW P G rd n code tm H Q) (hq:∀e tm H,Q e tm H->Q' e tm H):PW P G rd n code tm H Q' :=⟨λnb c a w hR=>wpIn_mono (h.run nb c a w hR) λ_ _ _ ⟨c',tm',H',h1,h2⟩=>⟨c',tm',H',hq _ _ _ h1,h2⟩⟩
theorem PW.seq {x y tm H} {Q:Post}(h:PW P G rd n x tm H (gY (λtm' H'=>PW P G rd n y tm' H' Q) Q)):PW P G rd n (.seq x y) tm H Q:=by
 refine⟨λnb c a w hR=>?_⟩;refine wpIn_seq (wpIn_mono (h.run nb c a w hR) λe a' w' hE=>?_);obtain⟨c',tm',H',h1,h2,h3,h4⟩:=hE;cases e with
 |normal=>exact wpIn_mono (h1.run nb c' a' w' h2) λe2 a2 w2 h5=>h5.later h3 h4
 |_=>exact⟨c',tm',H',h1,h2,h3,h4⟩
theorem PW.block {id x tm H} {Q:Post}(h:PW P G rd n x tm H (bc id Q)):PW P G rd n (.block id x) tm H Q:=by
 refine⟨λnb c a w hR=>?_⟩;refine wpIn_block (wpIn_mono (h.run nb c a w hR) λe a' w' hE=>?_);obtain⟨c',tm',H',h1,h2,h3,h4⟩:=hE;cases e with
 |exit i =>
  simp only[zwg];simp only[bc]at h1;split
  ·rename_i e;rw[Hv e]at h1;exact⟨c',tm',H',h1,h2,h3,h4⟩
  ·rename_i e;rw[IE e]at h1;exact⟨c',tm',H',h1,h2,h3,h4⟩
 |_=>exact⟨c',tm',H',h1,h2,h3,h4⟩
theorem Rep.weaken {c:Cx}{H:IU Box}{w:H5}{tm tm':IU AV}{H':IU Box}{a:HA}(hR:G9 G nb c H w tm a) (h:Wk n tm H tm' H') (hno:Yr tm'=true):∃c',G9 G nb c' H' w tm' a/\Hs c w c' w/\zl c (H.take n) c' H':=by
 unfold Wk at h;split at h
 ·rename_i hn;simp only[HC,HS]at hn;obtain⟨hn,hund⟩:=hn;obtain⟨h1,h2⟩:=h;obtain⟨c1,hr2,eAll,kp,heq,hf⟩:=hR.hr.weakenH hund h2;have hno' :∀g p x,Cp g p x∉tm':=λg p x hx=>by have:=G3.1 hno _ hx;simp at this
  have htm:=nV (c:=c) (c1:=c1) (H:=H) (Ht:=H') heq hf h1 hR.tm hno';refine⟨c1,⟨hr2,hR.gr.ext eAll,htm,hR.df.ext eAll⟩,eAll,?_⟩;intro l x hx;obtain⟨hl,hx'⟩:=zP hx;exact kp l x (by rw[zG (by omega)];exact hx')
 ·exact h.elim
theorem qe {F:Fence}{k:Nat}{Q:GW->HA->H5->Prop}{a:HA}{w:H5}{c:He}(I:Nat->HA->H5->Prop) (n₀:Nat) (h₀:I n₀ a w) (round:∀n a w,I n a w->c.wpIn F k P (GW.then (λa' w'=>∃n',n'<n/\I n' a' w') Q) a w):(He.loop c).wpIn F k P Q a w:=by
 refine wpIn_loop (λa w=>∃n,I n a w) (λa w=>leastOf (λn=>I n a w)) ⟨n₀,h₀⟩ ?_;intro a w hI;refine wpIn_mono (round _ a w (leastOf_spec hI).1) ?_;intro e a' w' hq;cases e with
 |normal =>
  obtain⟨n',hlt,hI'⟩:=hq;exact show(∃n,I n a' w')/\leastOf (λn=>I n a' w')<leastOf (λn=>I n a w)from⟨⟨n',hI'⟩,Nat.lt_of_le_of_lt ((leastOf_spec ⟨n',hI'⟩).2 n' hI') hlt⟩
 |exit id=>exact hq
 |goto l=>exact hq
 |ret=>exact hq
 |panic ch=>exact hq
 |outgrown=>exact hq
theorem PW.loop {α:Type}(tmS:α->IU AV) (hS:α->IU Box) (m:α->Nat) {body:He}{Q:Post}(hno:∀x,Yr (tmS x)=true) (round:∀x,PW P G rd n body (tmS x) (hS x) (gY (λtm H=>∃y,m y<m x/\Wk n tm H (tmS y) (hS y)) Q)) (x0:α):PW P G rd n (.loop body) (tmS x0) (hS x0) Q:=by
 refine⟨λnb c a w hR=>?_⟩;refine qe (λk a' w'=>∃x c',m x=k/\G9 G nb c' (hS x) w' (tmS x) a'/\Hs c w c' w'/\zl c ((hS x0).take n) c' (hS x)) (m x0) ⟨x0,c,rfl,hR,Fq _ _,(GV _ _).cut n⟩ ?_;rintro k a' w' ⟨x,c',rfl,hR',e,kp⟩;refine wpIn_mono ((round x).run nb c' a' w' hR') λex a2 w2 hE=>?_;obtain⟨c2,tm2,H2,h1,h2,h3,h4⟩:=hE;cases ex with
 |normal =>
  obtain⟨y,hlt,hwk⟩:=h1;obtain⟨c4,r1,r2,r3⟩:=h2.weaken hwk (hno y);exact⟨m y,hlt,y,c4,rfl,r1,e.trans (h3.trans r2),kp.link (h4.link r3)⟩
 |_=>exact⟨c2,tm2,H2,h1,h2,e.trans h3,kp.link h4⟩
theorem PW.weaken {code:He}{tm tm':IU AV}{H H':IU Box}{Q:Post}(h:Wk n tm H tm' H') (hno:Yr tm'=true) (h':PW P G rd n code tm' H' Q):PW P G rd n code tm H Q:=by refine⟨λnb c a w hR=>?_⟩;obtain⟨c4,r1,r2,r3⟩:=hR.weaken h hno;exact wpIn_mono (h'.run nb c4 a w r1) λe a2 w2 hE=>hE.later r2 r3
theorem gX {ops:IG Hp}{K:IU AV->IU Box->Prop}{Q:GW->HA->H5->Prop}{r:IU Hp}:∀(l:IU Hp) (i:Nat) (c:Cx) (H:IU Box) (w:H5) (tm:IU AV) (a:HA),ops.toList.drop i=l++r->G9 G nb c H w tm a->sk P G ops l tm H K->(∀a' w' c' tm' H',K tm' H'->G9 G nb c' H' w' tm' a'->Hs c w c' w'->zl c H c' H'->wpOpsIn (vI rd) 0 P ops Q (Dk (i+l.length) r.length) a' w')->wpOpsIn (vI rd) 0 P ops Q (Dk i (l.length+r.length)) a w
 |[],i,c,H,w,tm,a,_,hR,h,hq=>by simpa using hq a w c tm H h hR (Fq _ _) (GV _ _)
 |o::l,i,c,H,w,tm,a,hl,hR,h,hq=>by
  have ho:ops[i]? = some o:=by have:=Gv (λx=>x[0]?) hl;simpa using this
  have hl':ops.toList.drop (i+1)=l++r:=by have:=Gv zx0 hl;simpa using this
  have e1:(o::l).length+r.length=(l.length+r.length)+1:=by simp;omega
  rw[e1,zyy];refine qL ho hR h ?_;intro a' w' c' tm' H' hk hR' e k;refine gX l (i+1) c' H' w' tm' a' hl' hR' hk λa2 w2 c2 tm2 H2 hk2 hR2 e2 k2=>?_;have:=hq a2 w2 c2 tm2 H2 hk2 hR2 (e.trans e2) (k.trans k2);have e3:i+(o::l).length=i+1+l.length:=by simp;omega
  rw[e3]at this;exact this
theorem UK {o:Hp}{T yT:TypeId}{x:G1}{ad:IQ Addr}{m k:Nat}{E:TypeId}{a:HA}{w:H5}(hu:P.underlying T=some (.slice E)) (h:o.op = .binOp .eql T x (.const (.slice none 0 0)) yT) (hx:a.eval x = .slice ad m k):(execOp a.eval o).run P w = .ok (.value (.bool ad.isNone)) w:=by
 have hc:a.eval (.const (.slice none 0 0)) = .slice none 0 0:=rfl;have h1:(eqGuard .eql T x (.const (.slice none 0 0)) (.slice ad m k) (.slice none 0 0)).run P w = .ok () w:=xq (by intro h;cases h) (by intro cs h;cases h);have h2:(binOp .eql T (.slice ad m k) (.slice none 0 0)).run P w = .ok (.bool ad.isNone) w:=by unfold binOp;simp[run_equal_slice_nil w T E ad m k hu]
 simp only[execOp,h,hx,hc,Gk,h1,Gm,h2,GF]
theorem yk (hm:P.follows .mixedOrders=true) {L:Loops}:∀(code:He) (tm:IU AV) (H:IU Box) (Q:Post),(∀b∈loopsOf code,∀W,L (loopId b)=some W->∀tm H Q,W tm H Q->PW P G rd n (mkLoop b) tm H Q)->pw P G L code tm H Q->PW P G rd n code tm H Q
 |.skip,tm,H,Q,_,h=>⟨λnb c a w hR=>wpIn_skip (mT.now hR h)⟩
 |.label l,tm,H,Q,_,h=>⟨λnb c a w hR=>wpIn_label (mT.now hR h)⟩
 |.exit id,tm,H,Q,_,h=>⟨λnb c a w hR=>wpIn_exit (mT.now hR h)⟩
 |.ret,tm,H,Q,_,h=>⟨λnb c a w hR=>wpIn_ret (mT.now hR h)⟩
 |.seq x y,tm,H,Q,hL,h=>by
  simp only[pw]at h;simp only[loopsOf]at hL;split at h
  ·rename_i id hid;rw[hid]at hL;have hl:loopId (.scope (.seq x y))=1000000+id:=by
    unfold rangeId at hid;split at hid
    ·cases hid;rfl
    ·cases hid
   split at h
   ·rename_i W hW;exact hL (.scope (.seq x y)) (by simp) W (by rw[hl];exact hW) tm H Q h
   ·exact h.elim
  rename_i hid;rw[hid]at hL;have hx:=yk hm x tm H _ (λb hb=>hL b (by simp[hb])) h;refine PW.seq (hx.mono λe tm' H' hq=>?_);cases e with
  |normal=>exact yk hm y tm' H' Q (λb hb=>hL b (by simp[hb])) hq
  |_=>exact hq
 |.cond x p q,tm,H,Q,hL,h=>by
  refine⟨λnb c a w hR=>?_⟩;simp only[pw]at h;split at h
  ·rename_i t ht;have hx:=yF (tags:=[]) hR (λg p h=>by simp[hasTag]at h) x;rw[ht]at hx;replace h:=nv h
   refine wpIn_cond_split hx.bool (λe=>?_) (λe=>?_)
   ·exact(yk hm p tm H Q (λb hb=>hL b (by simp[loopsOf,hb])) (h.1 e)).run nb c a w hR
   ·exact(yk hm q tm H Q (λb hb=>hL b (by simp[loopsOf,hb])) (h.2 e)).run nb c a w hR
  ·exact h.elim
 |.block id x,tm,H,Q,hL,h=>PW.block (yk hm x tm H _ (λb hb=>hL b (by simpa[loopsOf]using hb)) h)
 |.region id ops false,tm,H,Q,_,h=>by
  refine⟨λnb c a w hR=>?_⟩;simp only[pw]at h;split at h
  ·rename_i x d hnl;unfold UL at hnl;split at hnl
   ·rename_i o hlast;split at hnl
    ·rename_i T x' yT d' hgd hop hdst;split at hnl
     ·rename_i E hu;cases hnl;have happ:ops.toList=ops.toList.dropLast++[o]:=by obtain⟨ys,hys⟩:=zxa.1 hlast;rw[hys];simp
      refine wpIn_region ?_;have hsz:Gp ops.size=Dk 0 (ops.toList.dropLast.length+[o].length):=by rw[Ap];congr 1;have:=Gv IR happ;simpa using this
      rw[hsz];refine gX (r:=[o]) _ 0 c H w tm a (by simpa using happ) hR h ?_;intro a1 w1 c1 tm1 H1 hk hR1 e1 k1;have ho:ops[ops.toList.dropLast.length]? = some o:=by
       have:ops.toList[ops.toList.dropLast.length]? = some o:=by rw[happ];simp
       simpa using this
      split at hk
      ·rename_i ds hds;have he:=yF (tags:=[]) hR1 (λg p h=>by simp[hasTag]at h) x;obtain⟨ad,m,kk,hv,hr1,hm⟩:=vJ he hds;simp only[F2,FL,E6];rw[show Dk ops.toList.dropLast.length 1=[ops.toList.dropLast.length]from rfl,wpOpsIn_cons];unfold wpOpIn;rw[ho];simp only;have hw:Fr o (yielded ops a1.tmps)=true:=by simp[Fr,hgd]
       rw[Hv hw];refine⟨λ_ _=>trivial,?_⟩;rw[EC _ _ _ (by rw[hop];intro d hd;cases hd),UK hu hop hv];simp only[AG,wpOpsIn];have hnil:ad.isNone=true->ds=[]:=by
        intro had;cases ad with
        |none =>
         rw[hv]at hr1;cases hr1 with
         |nil=>rfl
        |some a=>simp at had
       have hR2:=hR1.put (Fq _ _) (GV _ _) hR1.hr o.dst (v:= .bool ad.isNone) (av:= .d (.bool ad.isNone)) (RA.d (EZ _));rw[hdst]at hR2 ⊢;exact⟨c1,_,H1,hk ad.isNone hnil,hR2.clear,e1,k1.cut n⟩
      ·split at hk
       ·rename_i l hml;have he:=yF (tags:=[]) hR1 (λg p h=>by simp[hasTag]at h) x;rw[hml]at he;obtain⟨ba,m,hv⟩:∃(ba:Addr) (m:Nat),a1.eval x = .slice (some ba) m m:=by generalize a1.eval x=xv at he;cases he;exact⟨_,_,rfl⟩
        simp only[F2,FL,E6];rw[show Dk ops.toList.dropLast.length 1=[ops.toList.dropLast.length]from rfl,wpOpsIn_cons];unfold wpOpIn;rw[ho];simp only;have hw:Fr o (yielded ops a1.tmps)=true:=by simp[Fr,hgd]
        rw[Hv hw];refine⟨λ_ _=>trivial,?_⟩;rw[EC _ _ _ (by rw[hop];intro d hd;cases hd),UK hu hop hv];simp only[AG,wpOpsIn];have hR2:=hR1.put (Fq _ _) (GV _ _) hR1.hr o.dst (v:= .bool (some ba).isNone) (av:= .d (.bool false)) (RA.d (EZ _));rw[hdst]at hR2 ⊢;exact⟨c1,_,H1,hk,hR2.clear,e1,k1.cut n⟩
       ·exact hk.elim
     ·cases hnl
    ·cases hnl
   ·cases hnl
  refine wpIn_region ?_;have:=gf (rd:=rd) (Q:=mT G nb n c H w Q) ops.toList 0 c H w tm a (by simp) hR h (λa' w' c' tm' H' hk hR' e k=>⟨c',zW tm',H',hk,hR'.clear,e,k.cut n⟩);rw[Ap];simpa using this
 |.region id ops true,tm,H,Q,_,h=>⟨λnb c a w hR=>YY (Q:=mT G nb n c H w Q) hm hR h (λa' w' c' tm' H' hk hR' e k=>⟨c',zW tm',H',hk,hR'.clear,e,k.cut n⟩)⟩
 |.loop b,tm,H,Q,hL,h=>by
  simp only[pw]at h;split at h
  ·exact h.elim
  rename_i hsc;split at h
  ·rename_i W hW;have hl:mkLoop b = .loop b:=by cases b<;>first|rfl|simp[isScope]at hsc
   rw[←hl];exact hL b (by simp[loopsOf]) W hW tm H Q h
  ·exact h.elim
 |.rangeFunc _ _ _ _,_,_,_,_,h=>h.elim
 |.scope _,_,_,_,_,h=>h.elim
 |.goto _,_,_,_,_,h=>h.elim
 |.refuse _,_,_,_,_,h=>h.elim
end
section
variable {P:HP}{G:Nat->IQ (IU D)}{nb:Nat}{c:Cx}{H:IU Box}{w:H5}{tm:IU AV}{a:HA}
theorem R4 {m:Nat}(o:Obj) (h1:∀l k:Nat,c.ρ[l]? ≠ some (some (m,k))) (h2:∀o,¬ c.I m o) (h3:¬ c.J m):Aside' c w (w.putObj m o) m :=⟨rfl,rfl,rfl,by simp,λb hb=>zzF hb,h1,h2,h3⟩
theorem je {c0:Cx}{w0:H5}{fn:Fs}{R:Ending->H5->Prop}:∀(ms:IU Nat) (w:H5),ms.Nodup->(∀m∈ms,w0.heap.size<=m/\w.heap[m]? = some (.deferred (some []))/\(∀l k:Nat,c.ρ[l]? ≠ some (some (m,k)))/\(∀o,¬ c.I m o)/\¬ c.J m)->HR c H w->GR G c w->Nw c H w a.tmps tm->Hs c0 w0 c w->(∀w',HR c H w'->GR G c w'->Nw c H w' a.tmps tm->Hs c0 w0 c w'->LeavesIn (vI none) 0 P fn a.tmps R [] .returning w')->LeavesInM (vI none) 0 P fn a.tmps R (ms.map mark) .returning w
 |[],w,_,_,h1,h2,h3,h4,h=>h w h1 h2 h3 h4
 |m::ms,w,hnd,hm,h1,h2,h3,h4,h=>by obtain⟨a1,a2,a3,a4,a5⟩:=hm m (by simp);have hs:=R4 (w:=w) (.deferred none) a3 a4 a5;refine⟨by simp,.inl ⟨m,w.putObj m (.deferred none),rfl,run_takeDeferred a2,?_⟩⟩;refine je ms _ (EO.1 hnd).2 (λk hk=>?_) (hs.hr h1) (hs.gr h2) (hs.slots h3) (hs.ext h4 a1) h;obtain⟨b1,b2,b3⟩:=hm k (by simp[hk]);have hne:k≠m:=λe=>(EO.1 hnd).1 (e ▸ hk);exact⟨b1,by rw[zzF hne];exact b2,b3⟩
theorem wQ {f:Fp}{fn:Fs}{code:He}{args:IG Value}{R:Ending->H5->Prop}{c0:Cx}{w0:H5}{H0:IU Box}{n:Nat}{Q:Post}(hf:P.funcs[f]? = some fn) (hb:fn.body=some code) (hR:G9 G w0.heap.size c0 H0 w0 tm { tmps:=args++GQ (fn.ntmps - args.size) undef,defers:=[] }) (h:PW P G none n code tm H0 Q) (hq:∀e c H w tm a,Q e tm H->G9 G w0.heap.size c H w tm a->Hs c0 w0 c w->zl c0 (H0.take n) c H->(e = .ret∨e = .normal)/\∃v,(results fn a.tmps).run P w = .ok v w/\R (.returned v) w):Ef P f args w0 R:=by
 refine(callsIn_wide (n:=0)).1 (callsIn_of_wp_marks hf hb trivial (wpIn_mono (h.run _ c0 _ w0 hR) λe a' w' hE=>?_));obtain⟨c',tm',H',h1,h2,h3,h4⟩:=hE;obtain⟨_,ms,hms,hnd,hm⟩:=h2.df;have key:LeavesInM (vI none) 0 P fn a'.tmps R a'.defers .returning w':=by rw[hms];refine je (c0:=c0) (w0:=w0) ms w' hnd hm h2.hr h2.gr h2.tm h3 λw2 g1 g2 g3 g4=>?_;exact(hq e c' H' w2 tm' { a' with defers:=[] } h1 ⟨g1,g2,g3,CK g4.size⟩ g4 h4).2
 rcases (hq e c' H' w' tm' a' h1 h2 h3 h4).1 with rfl|rfl
 ·exact key
 ·exact key
end
def oI (P:HP) (tm:IU AV) (H:IU Box):zzp->IQ AV
 |.tmp t=>some (yc [] tm t)
 |.cell x T =>
  match yc [] tm x with
  |.ptr l o=>match H[l]? with
   |some (.cells _ cs)=>uE P T (cs.drop o)
   |_=>none
  |_=>none
def Wa (P:HP) (fn:Fs) (Q:IU D->Prop):Post:=λe tm H =>match e with
 |.ret=>match fn.results.toList.mapM (oI P tm H)with
  |some aas=>match aas.mapM avD with
   |some rs=>Q rs
   |none=>HD
  |none=>HD
 |.normal=>match fn.results.toList.mapM (oI P tm H)with
  |some aas=>match aas.mapM avD with
   |some rs=>Q rs
   |none=>HD
  |none=>HD
 |_=>HD
def wO (fn:Fs) (ds:IU D):IU AV:=ds.map .d++G8 (fn.ntmps - ds.length) .any
def bZ (tmps:IG Value):zzp->Sem Value
 |.tmp t=>pure (tmps.getD t undef)
 |.cell b T=>do loadVar T (←asAddr (tmps.getD b undef))
section
variable {P:HP}{G:Nat->IQ (IU D)}{nb:Nat}{rd:IQ Nat}{c:Cx}{H:IU Box}{w:H5}{tm:IU AV}{a:HA}
theorem WZ (hR:G9 G nb c H w tm a) (x:zzp) (av:AV) (h:oI P tm H x=some av):∃v,(bZ a.tmps x).run P w = .ok v w/\RA c H w av v:=by
 have ht:te a.tmps []:=λg p h=>by simp[hasTag]at h
 cases x with
 |tmp t =>
  simp only[oI,Er]at h;subst h;exact⟨_,rfl,rL hR ht t⟩
 |cell b T =>
  simp only[oI]at h;simp only[bZ];have hb:=rL hR ht b;split at h
  ·rename_i l o hg;rw[hg]at hb;split at h
   ·rename_i T' cs hl;generalize a.tmps.getD b undef=vb at *;cases hb with
    |@ptr _ _ blk k _ _ hH hρ =>
     obtain⟨vs,hw,hvs⟩:=hR.hr.box l blk k _ hρ hl;obtain⟨v,h1,h2⟩:=tB (b:=blk) (o:=o) h (hvs.drop o) (λj v hj=>by simp only[IU.getElem?_drop]at hj;simp[Ec,hw,hj]);refine⟨v,?_,h2⟩;simp only[Instr.loadAt,Gk,DL,GF,Gm]at h1;simp only[Gk,asAddr,GF,Gm,h1]
   ·cases h
  ·cases h
theorem dV (hR:G9 G nb c H w tm a):∀(l:IU zzp) (aas:IU AV),l.mapM (oI P tm H)=some aas->∃vs:IU Value,(l.mapM (bZ a.tmps)).run P w = .ok vs w/\zy (λv a=>RA c H w a v) vs aas
 |[],aas,h=>by simp at h;subst h;exact⟨[],rfl,Ga⟩
 |x::l,aas,h=>by
  rw[Db]at h;cases hx:oI P tm H x with
  |none=>rw[hx]at h;cases h
  |some y =>
   rw[hx]at h;cases hr:l.mapM (oI P tm H)with
   |none=>rw[hr]at h;cases h
   |some ys =>
    rw[hr]at h;simp at h;subst h;obtain⟨v,h1,h2⟩:=WZ hR x y hx;obtain⟨vs,h3,h4⟩:=dV hR l ys hr;refine⟨v::vs,?_,Gw h2 h4⟩;rw[Db];simp only[Gk,h1,Gm,h3,GF]
theorem wA {fn:Fs}{aas:IU AV}(hR:G9 G nb c H w tm a) (h:fn.results.toList.mapM (oI P tm H)=some aas):∃vs:IU Value,(results fn a.tmps).run P w = .ok (if hh:vs.toArray.size=1 then vs.toArray[0]else .tuple vs.toArray) w/\zy (λv a=>RA c H w a v) vs aas:=by
 obtain⟨vs,h1,h2⟩:=dV hR _ _ h;refine⟨vs,?_,h2⟩;have hs:results fn a.tmps=(do
   let vs ←fn.results.mapM (bZ a.tmps);pure (if h:vs.size=1 then vs[0]else .tuple vs)):=by
  unfold results;congr 2
 rw[hs,IG.mapM_eq_mapM_toList];simp only[Gk,Sem.run_map,GF];rw[h1];rfl
theorem UJ {c':Cx}{w':H5}{vs:IU Value}{rs:IU D}(h:zy (RV c'.I c'.J w') vs rs):bq c'.I c'.J w' (if hh:vs.toArray.size=1 then vs.toArray[0]else .tuple vs.toArray) rs:=by
 match rs,vs,h with
 |[],vs,h =>
  have:=h.nil_right;subst this;exact⟨[],rfl,Ga⟩
 |[d],vs,h =>
  obtain⟨v,vs',rfl,h1,h2⟩:=h.cons_right;have:=h2.nil_right;subst this;exact h1
 |d1::d2::r,vs,h =>
  obtain⟨v,vs',rfl,h1,h2⟩:=h.cons_right;obtain⟨v2,vs2,rfl,h3,h4⟩:=h2.cons_right;have:¬ (v::v2::vs2).toArray.size=1:=by simp
  rw[dif_neg this];exact⟨_,rfl,h⟩
theorem zy.start {fn:Fs}{ds:IU D}{vs:IU Value}(tmps:IG Value) (h:zy (RV c.I c.J w) vs ds):zy (λv a=>xj c H w tmps a v) (vs++G8 (fn.ntmps - vs.length) undef) (wO fn ds):=by
 unfold wO;rw[h.1];refine zy.append ⟨by simp[h.1],λi v a hv ha=>?_⟩ ⟨by simp,λi v a hv ha=>?_⟩
 ·simp only[G5]at ha;cases hd:ds[i]? with
  |none=>rw[hd]at ha;simp at ha
  |some d=>rw[hd]at ha;simp at ha;subst ha;exact RA.d (h.2 i v d hv hd)
 ·have hi:i<fn.ntmps - ds.length:=by
   rcases G4 i (fn.ntmps - ds.length)with h' |h'
   ·exact h'
   ·rw[Gt (by simpa using h')]at ha;simp at ha
  simp[hi]at ha;subst ha;exact Di v
theorem PFn.intro {f:Fp}{fn:Fs}{code:He}{ds:IU D}{Q:IU D->Prop}(hf:P.funcs[f]? = some fn) (hb:fn.body=some code) (hex:∃rs,Q rs) (h:PW P G none 0 code (wO fn ds) [] (Wa P fn Q)):IK P G f ds Q:=by
 refine⟨hex,λc w vs hρ hr hg hvs=>wQ (c0:=c) (tm:=wO fn ds) (H0:=[]) hf hb ?_ h ?_⟩
 ·refine⟨hr,hg,?_,CK (GE _)⟩;show zy _ (vs.toArray++GQ (fn.ntmps - vs.toArray.size) undef).toList _;have:(vs.toArray++GQ (fn.ntmps - vs.toArray.size) undef).toList=vs++G8 (fn.ntmps - vs.length) undef:=by simp
  rw[this];exact zy.start _ hvs
 ·intro e c' H' w' tm' a' h1 h2 h3 h4;have fin:∀aas rs,fn.results.toList.mapM (oI P tm' H')=some aas->aas.mapM avD=some rs->Q rs ->
    ∃v,(results fn a'.tmps).run P w' = .ok v w'/\∃v' rs c',zyp v = .returned v'/\Q rs/\c'.ρ=[]/\Hs c w c' w'/\HR c' [] w'/\bq c'.I c'.J w' v' rs:=by
   intro aas rs has hrs hq;obtain⟨vs',h5,h6⟩:=wA h2 has;refine⟨_,h5,_,rs,c'.take 0,rfl,hq,by simp[zza],h3.trans (DU c' w' 0),?_,?_⟩
   ·have:=h2.hr.take (n:=0) (by simp);simpa using this
   ·have hrv:=mapM_avD hrs h6;exact UJ (c':=c'.take 0) hrv
  cases e with
  |ret =>
   simp only[Wa]at h1;split at h1
   ·rename_i aas has;split at h1
    ·rename_i rs hrs;exact⟨.inl rfl,fin aas rs has hrs h1⟩
    ·exact h1.elim
   ·exact h1.elim
  |normal =>
   simp only[Wa]at h1;split at h1
   ·rename_i aas has;split at h1
    ·rename_i rs hrs;exact⟨.inr rfl,fin aas rs has hrs h1⟩
    ·exact h1.elim
   ·exact h1.elim
  |_=>exact h1.elim
theorem PFn.walk {f:Fp}{fn:Fs}{code:He}{ds:IU D}{Q:IU D->Prop}(hm:P.follows .mixedOrders=true) (L:Loops) (hf:P.funcs[f]? = some fn) (hb:fn.body=some code) (hex:∃rs,Q rs) (hL:∀b∈loopsOf code,∀W,L (loopId b)=some W->∀tm H Q,W tm H Q->PW P G none 0 (mkLoop b) tm H Q) (h:pw P G L code (wO fn ds) [] (Wa P fn Q)):IK P G f ds Q :=PFn.intro hf hb hex (yk hm code _ _ _ hL h)
def R5 (P:HP) (fn:Fs) (n:Nat) (Q:IU D->IU Box->Prop):Post:=λe tm H =>match e with
 |.ret=>match fn.results.toList.mapM (oI P tm H)with
  |some aas=>match aas.mapM avD with
   |some rs=>if decide (n<=H.length)&&(H.take n).all (ET n)then Q rs (H.take n)else HD
   |none=>HD
  |none=>HD
 |.normal=>match fn.results.toList.mapM (oI P tm H)with
  |some aas=>match aas.mapM avD with
   |some rs=>if decide (n<=H.length)&&(H.take n).all (ET n)then Q rs (H.take n)else HD
   |none=>HD
  |none=>HD
 |_=>HD
def startA (fn:Fs) (aas:IU AV):IU AV:=aas++G8 (fn.ntmps - aas.length) .any
def plainAV:AV->Bool
 |.opt _ _ _=>false
 |_=>true
theorem zy.startA {fn:Fs}{aas:IU AV}{vs:IU Value}(tmps:IG Value) (hp:aas.all plainAV=true) (h:zy (λv a=>RA c H w a v) vs aas):zy (λv a=>xj c H w tmps a v) (vs++G8 (fn.ntmps - vs.length) undef) (startA fn aas):=by
 unfold Go.Sx.startA;rw[h.1];refine zy.append ⟨h.1,λi v a hv ha=>?_⟩ ⟨by simp,λi v a hv ha=>?_⟩
 ·have h1:=h.2 i v a hv ha;have h2:=G3.1 hp _ (GS ha);cases a<;>first
   |exact h1
   |simp[plainAV]at h2
 ·have hi:i<fn.ntmps - aas.length:=by
   rcases G4 i (fn.ntmps - aas.length)with h' |h'
   ·exact h'
   ·rw[Gt (by simpa using h')]at ha;simp at ha
  simp[hi]at ha;subst ha;exact Di v
theorem PCall.intro {f:Fp}{fn:Fs}{code:He}{aas:IU AV}{H:IU Box}{Q:IU D->IU Box->Prop}(hf:P.funcs[f]? = some fn) (hb:fn.body=some code) (hp:aas.all plainAV=true) (hex:∃rs H',Q rs H') (h:PW P G none H.length code (startA fn aas) H (R5 P fn H.length Q)):HY P G f aas H Q:=by
 refine⟨hex,λc w vs hr hg hvs=>wQ (c0:=c) (tm:=startA fn aas) (H0:=H) hf hb ?_ h ?_⟩
 ·refine⟨hr,hg,?_,CK (GE _)⟩;show zy _ (vs.toArray++GQ (fn.ntmps - vs.toArray.size) undef).toList _;have:(vs.toArray++GQ (fn.ntmps - vs.toArray.size) undef).toList=vs++G8 (fn.ntmps - vs.length) undef:=by simp
  rw[this];exact zy.startA _ hp hvs
 ·intro e c' H' w' tm' a' h1 h2 h3 h4;rw[FR]at h4;have fin:∀aas rs,fn.results.toList.mapM (oI P tm' H')=some aas->aas.mapM avD=some rs->(if decide (H.length<=H'.length)&&(H'.take H.length).all (ET H.length)then Q rs (H'.take H.length)else HD) ->
    ∃v,(results fn a'.tmps).run P w' = .ok v w'/\∃v' rs c' H',zyp v = .returned v'/\Q rs H'/\H'.length=H.length/\Hs c w c' w'/\zl c H c' H'/\HR c' H' w'/\bq c'.I c'.J w' v' rs:=by
   intro aas rs has hrs hq;split at hq
   ·rename_i hu;simp only[HC,HS]at hu;obtain⟨hlen,hu⟩:=hu;obtain⟨vs',h5,h6⟩:=wA h2 has;refine⟨_,h5,_,rs,c'.take H.length,H'.take H.length,rfl,hq,by rw[FS];omega,h3.trans (DU c' w' _),?_,h2.hr.take hu,?_⟩
    ·intro l x hx;have hlt:l<H.length:=by
      rcases G4 l H.length with h' |h'
      ·exact h'
      ·rw[Gt h']at hx;cases hx
     have:=h4 l x hx;have e1:(c'.take H.length).ρ[l]? = c'.ρ[l]? :=by show(c'.ρ.take _)[l]? = _;rw[zG hlt]
     have e2:(H'.take H.length)[l]? = H'[l]? :=zG hlt;cases x<;>simp only[e1,e2]<;>exact this
    ·have hrv:=mapM_avD hrs h6;exact UJ (c':=c'.take H.length) hrv
   ·exact hq.elim
  cases e with
  |ret =>
   simp only[R5]at h1;split at h1
   ·rename_i aas has;split at h1
    ·rename_i rs hrs;exact⟨.inl rfl,fin aas rs has hrs h1⟩
    ·exact h1.elim
   ·exact h1.elim
  |normal =>
   simp only[R5]at h1;split at h1
   ·rename_i aas has;split at h1
    ·rename_i rs hrs;exact⟨.inr rfl,fin aas rs has hrs h1⟩
    ·exact h1.elim
   ·exact h1.elim
  |_=>exact h1.elim
theorem PCall.walk {f:Fp}{fn:Fs}{code:He}{aas:IU AV}{H:IU Box}{Q:IU D->IU Box->Prop}(hm:P.follows .mixedOrders=true) (L:Loops) (hf:P.funcs[f]? = some fn) (hb:fn.body=some code) (hp:aas.all plainAV=true) (hex:∃rs H',Q rs H') (hL:∀b∈loopsOf code,∀W,L (loopId b)=some W->∀tm H' Q,W tm H' Q->PW P G none H.length (mkLoop b) tm H' Q) (h:pw P G L code (startA fn aas) H (R5 P fn H.length Q)):HY P G f aas H Q :=PCall.intro hf hb hp hex (yk hm code _ _ _ hL h)
theorem z7 {A:Prop}(B:Prop) (h:A=B) (hb:B):A:=h.symm ▸ hb
end
def hasN:IU Nat->Nat->Bool
 |[],_=>false
 |x::r,i=>Dy x i||hasN r i
def findU:IU (Nat×AV)->Nat->IQ AV
 |[],_=>none
 |(j,x)::r,i=>if Dy j i then some x else findU r i
def gW (keep:IU Nat) (upd:IU (Nat×AV)):Nat->IU AV->IU AV
 |_,[]=>[]
 |i,a::r=>(match findU upd i with
  |some x=>dull x
  |none=>if hasN keep i then dull a else .any)::gW keep upd (i+1) r
theorem vC (keep:IU Nat) (upd:IU (Nat×AV)):∀(i:Nat) (tm:IU AV),Yr (gW keep upd i tm)=true
 |_,[]=>rfl
 |i,a::r=>by
  have hd:∀x:AV,(match dull x with|.opt _ _ _=>false|_=>true)=true:=λx=>by cases x<;>rfl
  have ih:=vC keep upd (i+1) r;simp only[Yr,gW,IU.all_cons,HC]at ih ⊢;refine⟨?_,ih⟩;cases findU upd i with
  |some x=>exact hd x
  |none =>
   simp only;cases hasN keep i with
   |true=>exact hd a
   |false=>rfl
def ze {α:Type}(P:HP) (G:Nat->IQ (IU D)) (L:Loops) (n:Nat) (body:He) (keep:IU Nat) (Inv:α->Prop) (m:α->Nat) (tmU:α->IU (Nat×AV)) (hU:IU Box->α->IU Box) (tm:IU AV) (H:IU Box) (Q:Post):Prop :=if isScope body then HD else ∃x0,Inv x0/\Wk n tm H (gW keep (tmU x0) 0 tm) (hU H x0)/\∀x,Inv x->pw P G L body (gW keep (tmU x) 0 tm) (hU H x) (gY (λtm' H'=>∃y,Inv y/\m y<m x/\Wk n tm' H' (gW keep (tmU y) 0 tm) (hU H y)) Q)
def zp (P:HP) (G:Nat->IQ (IU D)) (rd:IQ Nat) (n:Nat) (L:Loops) (bs:IU He):Prop :=∀b∈bs,∀W,L (loopId b)=some W->∀tm H Q,W tm H Q->PW P G rd n (mkLoop b) tm H Q
section
variable {P:HP}{G:Nat->IQ (IU D)}{rd:IQ Nat}{n:Nat}
theorem zp.nil {L:Loops}:zp P G rd n L []:=λb hb=>by cases hb
theorem zp.cons {L:Loops}{b:He}{bs:IU He}{W:IU AV->IU Box->Post->Prop}(h1:L (loopId b)=some W) (h2:∀tm H Q,W tm H Q->PW P G rd n (mkLoop b) tm H Q) (h3:zp P G rd n L bs):zp P G rd n L (b::bs):=by
 intro b' hb W' hW;rcases F5.1 hb with rfl|hb
 ·rw[h1]at hW;cases hW;exact h2
 ·exact h3 b' hb W' hW
theorem YX {α:Type}(hm:P.follows .mixedOrders=true) {L:Loops}{body:He}{keep:IU Nat}{Inv:α->Prop}{m:α->Nat}{tmU:α->IU (Nat×AV)}{hU:IU Box->α->IU Box}(hL:zp P G rd n L (loopsOf body)) (tm:IU AV) (H:IU Box) (Q:Post) (h:ze P G L n body keep Inv m tmU hU tm H Q):PW P G rd n (mkLoop body) tm H Q:=by
 unfold ze at h;split at h
 ·exact h.elim
 rename_i hsc;have hl:mkLoop body = .loop body:=by cases body<;>first|rfl|simp[isScope]at hsc
 rw[hl];obtain⟨x0,hi,hw,hr⟩:=h;refine PW.weaken hw (vC _ _ _ _) ?_;refine PW.loop (α:= { x:α // Inv x }) (λx=>gW keep (tmU x.1) 0 tm) (λx=>hU H x.1) (λx=>m x.1) (λx=>vC _ _ _ _) (λx=>?_) ⟨x0,hi⟩;refine(yk hm body _ _ _ hL (hr x.1 x.2)).mono λe tm' H' hq=>?_;cases e with
 |normal =>
  obtain⟨y,h1,h2,h3⟩:=hq;exact⟨⟨y,h1⟩,h2,h3⟩
 |_=>exact hq
end
abbrev LW:=IU AV->IU Box->Post->Prop
def LL:IU (Nat×LW)->Loops
 |[],_=>none
 |(i,W)::r,j=>if Dy i j then some W else LL r j
section
variable {P:HP}{G:Nat->IQ (IU D)}{rd:IQ Nat}{n:Nat}
def yD (P:HP) (G:Nat->IQ (IU D)) (rd:IQ Nat) (n:Nat) (b:He) (W:LW):Prop:= ∀tm H Q,W tm H Q->PW P G rd n (mkLoop b) tm H Q
theorem zp.of {L:Loops}{code:He}:∀{bs:IU He},loopsOf code=bs->zp P G rd n L bs->zp P G rd n L (loopsOf code)
 |_,h,h2=>by rw[h];exact h2
theorem zp.one {code b1:He}{i1:Nat}{W1:LW}(h:loopsOf code=[b1]) (e1:LL [(i1,W1)] (loopId b1)=some W1) (h1:yD P G rd n b1 W1):zp P G rd n (LL [(i1,W1)]) (loopsOf code) := .of h (.cons e1 h1 .nil)
theorem zp.two {code b1 b2:He}{i1 i2:Nat}{W1 W2:LW}(h:loopsOf code=[b1,b2]) (e1:LL [(i1,W1),(i2,W2)] (loopId b1)=some W1) (e2:LL [(i1,W1),(i2,W2)] (loopId b2)=some W2) (h1:yD P G rd n b1 W1) (h2:yD P G rd n b2 W2):zp P G rd n (LL [(i1,W1),(i2,W2)]) (loopsOf code) := .of h (.cons e1 h1 (.cons e2 h2 .nil))
theorem zp.four {code b1 b2 b3 b4:He}{i1 i2 i3 i4:Nat}{W1 W2 W3 W4:LW}(h:loopsOf code=[b1,b2,b3,b4]) (e1:LL [(i1,W1),(i2,W2),(i3,W3),(i4,W4)] (loopId b1)=some W1) (e2:LL [(i1,W1),(i2,W2),(i3,W3),(i4,W4)] (loopId b2)=some W2) (e3:LL [(i1,W1),(i2,W2),(i3,W3),(i4,W4)] (loopId b3)=some W3) (e4:LL [(i1,W1),(i2,W2),(i3,W3),(i4,W4)] (loopId b4)=some W4) (h1:yD P G rd n b1 W1) (h2:yD P G rd n b2 W2) (h3:yD P G rd n b3 W3) (h4:yD P G rd n b4 W4):zp P G rd n (LL [(i1,W1),(i2,W2),(i3,W3),(i4,W4)]) (loopsOf code) := .of h (.cons e1 h1 (.cons e2 h2 (.cons e3 h3 (.cons e4 h4 .nil))))
theorem zp.five {code b1 b2 b3 b4 b5:He}{i1 i2 i3 i4 i5:Nat}{W1 W2 W3 W4 W5:LW}(h:loopsOf code=[b1,b2,b3,b4,b5]) (e1:LL [(i1,W1),(i2,W2),(i3,W3),(i4,W4),(i5,W5)] (loopId b1)=some W1) (e2:LL [(i1,W1),(i2,W2),(i3,W3),(i4,W4),(i5,W5)] (loopId b2)=some W2) (e3:LL [(i1,W1),(i2,W2),(i3,W3),(i4,W4),(i5,W5)] (loopId b3)=some W3) (e4:LL [(i1,W1),(i2,W2),(i3,W3),(i4,W4),(i5,W5)] (loopId b4)=some W4) (e5:LL [(i1,W1),(i2,W2),(i3,W3),(i4,W4),(i5,W5)] (loopId b5)=some W5) (h1:yD P G rd n b1 W1) (h2:yD P G rd n b2 W2) (h3:yD P G rd n b3 W3) (h4:yD P G rd n b4 W4) (h5:yD P G rd n b5 W5):zp P G rd n (LL [(i1,W1),(i2,W2),(i3,W3),(i4,W4),(i5,W5)]) (loopsOf code) := .of h (.cons e1 h1 (.cons e2 h2 (.cons e3 h3 (.cons e4 h4 (.cons e5 h5 .nil)))))
end
def rowAt:IU Sh->IU D->Nat->Nat->IU D
 |[],_,_,_=>[]
 |s::r,ds,i,j=>s.norm ((z1 ds i j).getD default)::rowAt r ds i (j+1)
def zr (shs:IU Sh) (ds:IU D) (i:Nat):D:= .agg (rowAt shs ds i 0)
def z8 (code:He) (i:Nat):He:=(loopsOf code).getD i .skip
def z6 (fn:Fs):He:=fn.body.getD .skip
def mL (tm:IU AV) (ps:IU Nat) (aas:IU AV):IU AV:=(ps.zip aas).foldl (λt (x:Nat×AV)=>t.set x.1 x.2) tm
def qH (l n:Nat) (Q:IU D->IU Box->Prop) (H':IU Box) (b:Bool) (pend:IQ He) (st:HJ):Prop :=if decide (n<=H'.length)&&(H'.take n).all (ET n)then match H'[l]? with
  |some (.loop tm ps asn bd _ _)=>Q [.bool b] ((H'.take n).set l (.loop tm ps asn bd pend st))
  |_=>HD
 else HD
def Mw (l n:Nat) (Q:IU D->IU Box->Prop):Post:=λe _ H' =>match e with
 |.normal=>qH l n Q H' true none .ready
 |.ret=>qH l n Q H' false (some .ret) .done
 |.exit i=>qH l n Q H' false (some (.exit i)) .done
 |_=>HD
def NA (P:HP) (G:Nat->IQ (IU D)) (L:Loops) (l:Nat) (body:He) (tm:IU AV) (H:IU Box) (Q:Post):Prop :=match H[l]? with
 |some (.loop tm' ps asn bd pend .ready)=>pw P G L body tm (H.set l (.loop tm' ps asn bd pend .busy)) Q
 |_=>HD
section
variable {P:HP}{G:Nat->IQ (IU D)}{c:Cx}{H:IU Box}{w:H5}{tm:IU AV}
theorem zl.set_loop {l:Nat}{tm:IU AV}{ps:IU Nat}{asn bd:He}{pend:IQ He}{st:HJ}(hl:H[l]? = some (.loop tm ps asn bd pend st)) (pend':IQ He) (st':HJ):zl c H c (H.set l (.loop tm ps asn bd pend' st')):=by
 intro m y hy;by_cases e:l=m
 ·subst e;rw[hl]at hy;simp at hy;subst hy;exact⟨⟨pend',st',xb hl⟩,rfl⟩
 ·cases y<;>simp only[zD e,hy]<;>simp
theorem gV {l b k:Nat}{tm:IU AV}{ps:IU Nat}{asn bd:He}{pend:IQ He}{st:HJ}{r:Loop}(hR:HR c H w) (hl:H[l]? = some (.loop tm ps asn bd pend st)) (hρ:c.ρ[l]? = some (some (b,k))) (hr:w.heap[b]? = some (.loop r)) (pend':IQ He) (st':HJ): let w':=w.putObj b (.loop { r with state:=st',pending:=pend' })
  Hs c w c w'/\HR c (H.set l (.loop tm ps asn bd pend' st')) w':=by
 intro w';have hlt:=hR.lt l b k hρ;have ho:∀b',b'≠b->w'.heap[b']? = w.heap[b']? :=λb' hne=>zzF hne;have hs:w'.heap.size=w.heap.size:=by simp[w']
 have e:Hs c w c w':=Hs.set_box hρ hR rfl rfl rfl hs ho (λn sz h=>by rw[hl]at h;cases h);have kp:zl c H c (H.set l (.loop tm ps asn bd pend' st')):=zl.set_loop hl _ _;refine⟨e,HR.set_box hρ hR hl hs ho (λn sz h=>by cases h) e kp ?_⟩;obtain⟨r',h1,h2,h3,h4,h5,h6,h7⟩:=hR.box l b k _ hρ hl;rw[hr]at h1;simp at h1;subst h1;exact⟨_,H5.putObj_heap_same hlt,h2,h3,h4,rfl,rfl,h7.mono λ_ _ h=>h.ext e kp⟩
theorem gU {tmps0:IG Value}{R:Value->AV->Prop}:∀(ps:IU Nat) (vs:IU Value) (aas:IU AV) (tmps:IG Value) (tm:IU AV),vs.length=aas.length->(∀(i:Nat) v a,vs[i]? = some v->aas[i]? = some a->R v a)->zy R tmps.toList tm->zy R ((ps.zip vs).foldl (λt (x:Nat×Value)=>t.setIfInBounds x.1 x.2) tmps).toList (mL tm ps aas)
 |[],vs,aas,tmps,tm,_,_,h=>by simpa[mL]using h
 |p::ps,[],[],tmps,tm,_,_,h=>by simpa[mL]using h
 |p::ps,v::vs,a::aas,tmps,tm,hl,hr,h=>by simp only[IU.zip_cons_cons,IU.foldl_cons,mL];refine gU (tmps0:=tmps0) ps vs aas _ _ (by simpa using hl) (λi v' a' h1 h2=>hr (i+1) v' a' (by simpa using h1) (by simpa using h2)) ?_;rw[IG.toList_setIfInBounds];exact h.set p (hr 0 v a rfl rfl)
 |p::ps,[],_::_,_,_,hl,_,_=>by simp at hl
 |p::ps,_::_,[],_,_,hl,_,_=>by simp at hl
theorem PYield.walk {l:Nat}{aas:IU AV}{H:IU Box}{ps:IU Nat}{asn bd:He}{Q:IU D->IU Box->Prop}(hm:P.follows .mixedOrders=true) (L:Loops) (hl:H[l]? = some (.loop tm ps asn bd none .ready)) (hlen:ps.length=aas.length) (hp:aas.all plainAV=true) (hno:tm.all plainAV=true) (hex:∃rs H',Q rs H') (hL1:∀rd,zp P G rd H.length L (loopsOf asn)) (hL2:∀rd,zp P G rd H.length L (loopsOf bd)) (h:pw P G L asn (mL tm ps aas) H (gY (λtm1 H1=>NA P G L l bd tm1 H1 (Mw l H.length Q)) (λ_ _ _=>HD))):PYield P G l aas H Q:=by
 refine⟨hex,λc w vs b k hr hg hρ hvs=>?_⟩;obtain⟨r,h1,h2,h3,h4,h5,h6,h7⟩:=hr.box l b k _ hρ hl;have hsz:vs.toArray.size=r.params.size:=by
  have e1:=hvs.1;have e2:r.params.size=ps.length:=by rw[←h2];simp
  simp only[IU.size_toArray];omega
 refine⟨r.fn,_,r.assign,r.body,run_yield h1 hsz,?_⟩;refine roundIn_of_wpIn trivial ?_;have hplain:∀(a:AV) (v:Value),a∈mL tm ps aas->plainAV a=true:=by
  intro a v ha;unfold mL at ha;have:∀(zs:IU (Nat×AV)) (t:IU AV),(∀x∈t,plainAV x=true)->(∀z∈zs,plainAV z.2=true)->∀x∈zs.foldl (λt (x:Nat×AV)=>t.set x.1 x.2) t,plainAV x=true:=by
   intro zs;induction zs with
   |nil=>intro t h1 _ x hx;exact h1 x hx
   |cons z zs ih =>
    intro t h1 h2 x hx;refine ih (t.set z.1 z.2) (λy hy=>?_) (λy hy=>h2 y (by simp[hy])) x hx;rcases zxb hy with h3|h3
    ·exact h1 y h3
    ·rw[h3];exact h2 z (by simp)
  refine this _ _ (λx hx=>G3.1 hno x hx) (λz hz=>?_) a ha;exact G3.1 hp _ (IU.of_mem_zip hz).2
 let tmps:IG Value:=(r.params.zip vs.toArray).foldl (λtmps (x:Nat×Value)=>tmps.setIfInBounds x.1 x.2) r.tmps;have htm:Nw c H w tmps (mL tm ps aas):=by
  have e1:tmps=(ps.zip vs).foldl (λt (x:Nat×Value)=>t.setIfInBounds x.1 x.2) r.tmps:=by show(r.params.zip vs.toArray).foldl _ _=_;rw[←IG.foldl_toList,IG.toList_zip,h2]
  have e2:=gU (tmps0:= #[]) (R:=λv a=>RA c H w a v) ps vs aas r.tmps tm hvs.1 (λi v a h1 h2=>hvs.2 i v a h1 h2) h7;rw[←e1]at e2;refine⟨e2.1,λi v a hv ha=>?_⟩;have h8:=e2.2 i v a hv ha;have h9:=hplain a v (GS ha);cases a<;>first
   |exact h8
   |simp[plainAV]at h9
 have hRep:G9 G w.heap.size c H w (mL tm ps aas) { tmps:=tmps,defers:=[] }:=⟨hr,hg,htm,CK (GE _)⟩;have hasn:=yk (rd:=some b) (n:=H.length) hm asn _ _ _ (hL1 (some b)) h;subst h3 h4;refine wpIn_mono (hasn.run _ c _ w hRep) λe a1 w1 hE=>?_;obtain⟨c1,tm1,H1,g1,g2,g3,g4⟩:=hE;rw[FR]at g4;cases e with
 |normal =>
  simp only[gY,NA]at g1;split at g1
  ·rename_i tm' ps' asn' bd' pend' hl1;obtain⟨⟨p2,s2,k1⟩,k2⟩:=g4 l _ hl;rw[hl1]at k1;simp only[Er,Box.loop.injEq]at k1;obtain⟨rfl,rfl,rfl,rfl,rfl,rfl⟩:=k1;have hρ1:c1.ρ[l]? = some (some (b,k)):=by rw[k2];exact hρ
   obtain⟨r1,q1,q2,q3,q4,q5,q6,q7⟩:=g2.hr.box l b k _ hρ1 hl1;obtain⟨e5,hr5⟩:=gV g2.hr hl1 hρ1 q1 pend' .busy;have kp5:zl c1 H1 c1 (H1.set l (.loop tm' ps' r.assign r.body pend' .busy)):=zl.set_loop hl1 _ _;refine⟨w1.putObj b (.loop { r1 with state:= .busy }),run_beginRound q1 q6,?_⟩;have e6:({ r1 with state:= .busy,pending:=pend' }:Loop) = { r1 with state:= .busy }:=by rw[←q5]
   rw[e6]at e5 hr5;have hRep1:G9 G w.heap.size c1 (H1.set l (.loop tm' ps' r.assign r.body pend' .busy)) (w1.putObj b (.loop { r1 with state:= .busy })) tm1 a1:=⟨hr5,g2.gr.ext e5,g2.tm.ext e5 kp5,g2.df.ext e5⟩;have hbd:=yk (rd:=some b) (n:=H.length) hm r.body _ _ _ (hL2 (some b)) g1;refine wpIn_mono (hbd.run _ c1 _ _ hRep1) λe2 a3 w3 hE2=>?_;obtain⟨c3,tm3,H3,m1,m2,m3,m4⟩:=hE2;have hext:Hs c w c3 w3:=g3.trans (e5.trans m3);have hkeep:zl c H c3 H3:=by
    have h10:zl c (H.take H.length) c1 (H1.set l (.loop tm' ps' r.assign r.body pend' .busy)):=by rw[FR];exact g4.trans kp5
    have:=h10.link m4;rwa [FR]at this
   have fin:∀(bb:Bool) (jump:IQ He) (st:HJ),qH l H.length Q H3 bb jump st->(bb=jump.isNone)->(st=if jump.isNone then .ready else .done)->∃v w',(Instr.endRound b jump).run P w3 = .ok v w'/\∃v' rs c' H',zyp v = .returned v'/\Q rs H'/\H'.length=H.length/\Hs c w c' w'/\zl c H c' H'/\HR c' H' w'/\bq c'.I c'.J w' v' rs:=by
    intro bb jump st hq hbb hst;unfold qH at hq;split at hq
    ·rename_i hu;simp only[HC,HS]at hu;obtain⟨hu1,hu2⟩:=hu;split at hq
     ·rename_i tm4 ps4 asn4 bd4 pend4 st4 hl3;have hllt:l<H.length:=by
       rcases G4 l H.length with h' |h'
       ·exact h'
       ·rw[Gt h']at hl;cases hl
      obtain⟨_,k5⟩:=hkeep l _ hl;have hρ3:c3.ρ[l]? = some (some (b,k)):=by rw[k5];exact hρ
      obtain⟨r3,t1,_⟩:=m2.hr.box l b k _ hρ3 hl3;have hρ4:(c3.take H.length).ρ[l]? = some (some (b,k)):=by show(c3.ρ.take _)[l]? = _;rw[zG hllt];exact hρ3
      have hl4:(H3.take H.length)[l]? = some (.loop tm4 ps4 asn4 bd4 pend4 st4):=by rw[zG hllt];exact hl3
      obtain⟨e7,hr7⟩:=gV (m2.hr.take hu2) hl4 hρ4 t1 jump st;refine⟨_,_,run_endRound jump t1,.bool bb,[.bool bb],c3.take H.length,(H3.take H.length).set l (.loop tm4 ps4 asn4 bd4 jump st),by rw[hbb],hq,by simp[FS];omega,?_,?_,?_,EZ _⟩
      ·rw[←hst];exact(hext.trans (DU c3 w3 _)).trans e7
      ·have kp7:zl (c3.take H.length) (H3.take H.length) (c3.take H.length) ((H3.take H.length).set l (.loop tm4 ps4 asn4 bd4 jump st)):=zl.set_loop hl4 _ _;have kp6:zl c H (c3.take H.length) (H3.take H.length):=by
        intro m x hx;have hlt:m<H.length:=by
         rcases G4 m H.length with h' |h'
         ·exact h'
         ·rw[Gt h']at hx;cases hx
        have:=hkeep m x hx;have e1:(c3.take H.length).ρ[m]? = c3.ρ[m]? :=by show(c3.ρ.take _)[m]? = _;rw[zG hlt]
        have e2:(H3.take H.length)[m]? = H3[m]? :=zG hlt;cases x<;>simp only[e1,e2]<;>exact this
       exact kp6.trans kp7
      ·rw[←hst];exact hr7
     ·exact hq.elim
    ·exact hq.elim
   cases e2 with
   |normal=>exact fin true none .ready m1 rfl rfl
   |ret=>exact fin false (some .ret) .done m1 rfl rfl
   |exit i=>exact fin false (some (.exit i)) .done m1 rfl rfl
   |goto t=>exact m1.elim
   |panic ch=>exact m1.elim
   |outgrown=>exact m1.elim
  ·exact g1.elim
 |_=>exact g1.elim
end
structure PFnA (P:HP) (G:Nat->IQ (IU D)) (f:Fp) (ds:IU D) (Q:AV->Prop):Prop where
 run:∀(c:Cx) (w:H5) (vs:IU Value),c.ρ=[]->HR c [] w->GR G c w->zy (RV c.I c.J w) vs ds ->
  Ef P f vs.toArray w λe w'=>∃v av c',e = .returned v/\Q av/\c'.ρ=[]/\Hs c w c' w'/\HR c' [] w'/\RA c' [] w' av v
def s6 (H:IU Box):AV->IQ AV
 |.d x=>some (.d x)
 |.iptr cs=>some (.iptr cs)
 |.full ds=>some (.full ds)
 |.ptr l 0 =>
  match H[l]? with
  |some (.cells _ cs)=>(cs.mapM avD1).map .iptr
  |_=>none
 |_=>none
def bY (H:IU Box):AV->IQ AV
 |.clo f fi ca =>
  match fi.mapM (s6 H),ca.mapM (s6 H)with
  |some fi',some ca'=>some (.clo f fi' ca')
  |_,_=>none
 |a=>s6 H a
def MB (P:HP) (fn:Fs) (Q:AV->Prop):Post:=λe tm H =>match e with
 |.ret=>match fn.results.toList.mapM (oI P tm H)with
  |some [av]=>match bY H av with
   |some r=>Q r
   |none=>HD
  |_=>HD
 |_=>HD
def Cx.freeze (c:Cx) (H:IU Box):Cx:= { ρ:=[],I:=λb o=>c.I b o∨ ∃(l k:Nat) (T:TypeId) (cs:IU AV),c.ρ[l]? = some (some (b,k))/\H[l]? = some (.cells T cs),J:=c.J }
section
variable {P:HP}{G:Nat->IQ (IU D)}{c:Cx}{H:IU Box}{w:H5}{tm:IU AV}{a:HA}
theorem Ext.freeze (c:Cx) (H:IU Box) (w:H5):Hs c w (c.freeze H) w :=⟨rfl,rfl,rfl,λ_ _ h=>.inl h,λ_ h=>h,λ_ _ _=>rfl,λ_ _=>rfl,GE _,λ_ _ _=>rfl,λb o h=>by
  rcases h with h|⟨l,k,T,cs,h1,h2⟩
  ·exact .inl h
  ·exact .inr (.inr ⟨l,k,h1⟩),λ_ h=>.inl h,λl b k h=>by simp[Cx.freeze]at h⟩
theorem HR.freeze (hR:HR c H w):HR (c.freeze H) [] w where
 len:=rfl
 inj l l' b k k' h:=by simp[Cx.freeze]at h
 box l b k x h:=by simp[Cx.freeze]at h
 non l x h:=by simp[Cx.freeze]at h
 lt l b k h:=by simp[Cx.freeze]at h
 ilt b o h:=by
  rcases h with h|⟨l,k,T,cs,h1,h2⟩
  ·exact hR.ilt b o h
  ·exact hR.lt l b k h1
 jlt:=hR.jlt
 iap b o l k hi h:=by simp[Cx.freeze]at h
 jap r l k hr h:=by simp[Cx.freeze]at h
theorem nu (hR:HR c H w) {av r:AV}{v:Value}(h:RA c H w av v) (hf:s6 H av=some r):RA (c.freeze H) [] w r v:=by
 have e:=Ext.freeze c H w;unfold s6 at hf;split at hf
 ·cases hf;cases h with
  |d h=>exact .d (h.ext e)
 ·cases hf;cases h with
  |iptr h=>exact .iptr λj x hx=>⟨e.isub _ _ (h j x hx).1,by obtain⟨hi,u,hu,hr⟩:=h j x hx;exact⟨u,hu,hr.ext e⟩⟩
 ·cases hf;cases h with
  |full h=>exact .full (h.ext e)
 ·rename_i l;split at hf
  ·rename_i T cs hl;cases hm:cs.mapM avD1 with
   |none=>rw[hm]at hf;cases hf
   |some ds =>
    rw[hm]at hf;cases hf;cases h with
    |@ptr _ _ b k T' cs' hH hρ =>
     obtain⟨vs,h1,h2⟩:=hR.box l b k _ hρ hl;have h3:=mapM_avD1 hm h2;refine .iptr λj x hx=>⟨.inr ⟨l,k,T,cs,hρ,hl⟩,?_⟩;obtain⟨u,hu,hr⟩:=h3.get hx;exact⟨u,by simp[Ec,h1,hu],hr.ext e⟩
  ·cases hf
 ·cases hf
theorem sb (hR:HR c H w):∀{aas rs:IU AV}{vs:IU Value},aas.mapM (s6 H)=some rs->zy (λv a=>RA c H w a v) vs aas->zy (λv a=>RA (c.freeze H) [] w a v) vs rs
 |[],rs,vs,h,h2=>by simp at h;subst h;have:=h2.nil_right;subst this;exact Ga
 |a::aas,rs,vs,h,h2=>by
  rw[Db]at h;cases ha:s6 H a with
  |none=>rw[ha]at h;cases h
  |some x =>
   rw[ha]at h;cases hr:aas.mapM (s6 H)with
   |none=>rw[hr]at h;cases h
   |some xs =>
    rw[hr]at h;simp at h;subst h;obtain⟨v,vs',rfl,h3,h4⟩:=h2.cons_right;exact Gw (nu hR h3 ha) (sb hR hr h4)
theorem nt (hR:HR c H w) {av r:AV}{v:Value}(h:RA c H w av v) (hf:bY H av=some r):RA (c.freeze H) [] w r v:=by
 unfold bY at hf;split at hf
 ·rename_i f fi ca;split at hf
  ·rename_i fi' ca' h1 h2;cases hf;cases h with
   |@clo _ _ _ fv cv l1 l2 g1 g2 =>
    have k1:=sb hR h1 (vs:=fv) ⟨l1.symm,λi v a hv ha=>g1 i a v ha hv⟩;have k2:=sb hR h2 (vs:=cv) ⟨l2.symm,λi v a hv ha=>g2 i a v ha hv⟩;exact .clo k1.1.symm k2.1.symm (λi a v ha hv=>k1.2 i v a hv ha) (λi a v ha hv=>k2.2 i v a hv ha)
  ·cases hf
 ·exact nu hR h hf
theorem PFnA.walk {f:Fp}{fn:Fs}{code:He}{ds:IU D}{Q:AV->Prop}(hm:P.follows .mixedOrders=true) (L:Loops) (hf:P.funcs[f]? = some fn) (hb:fn.body=some code) (hL:zp P G none 0 L (loopsOf code)) (h:pw P G L code (wO fn ds) [] (MB P fn Q)):PFnA P G f ds Q:=by
 refine⟨λc w vs hρ hr hg hvs=>wQ (c0:=c) (tm:=wO fn ds) (H0:=[]) hf hb ?_ (yk hm code _ _ _ hL h) ?_⟩
 ·refine⟨hr,hg,?_,CK (GE _)⟩;show zy _ (vs.toArray++GQ (fn.ntmps - vs.toArray.size) undef).toList _;have:(vs.toArray++GQ (fn.ntmps - vs.toArray.size) undef).toList=vs++G8 (fn.ntmps - vs.length) undef:=by simp
  rw[this];exact zy.start _ hvs
 ·intro e c' H' w' tm' a' h1 h2 h3 h4;cases e with
  |ret =>
   simp only[MB]at h1;split at h1
   ·rename_i av has;split at h1
    ·rename_i r hr';obtain⟨vs',h5,h6⟩:=wA h2 has;obtain⟨v,vs2,rfl,h7,h8⟩:=h6.cons_right;have:=h8.nil_right;subst this;exact⟨.inl rfl,v,h5,v,r,c'.freeze H',rfl,h1,rfl,h3.trans (Ext.freeze c' H' w'),h2.hr.freeze,nt h2.hr h7 hr'⟩
    ·exact h1.elim
   ·exact h1.elim
  |_=>exact h1.elim
def MA (P:HP) (fn:Fs) (sz:Nat) (Q:IU D->Prop):Post:=λe tm H =>match e with
 |.ret=>match fn.results.toList.mapM (oI P tm H)with
  |some [.vec 0 l]=>match H with
   |.vec n s::_=>n=l.length/\s=sz/\Q l
   |_=>HD
  |some [.full l]=>Q l
  |_=>HD
 |_=>HD
theorem PFnV.walk {f:Fp}{fn:Fs}{code:He}{ds:IU D}{sz:Nat}{Q:IU D->Prop}(hm:P.follows .mixedOrders=true) (L:Loops) (hf:P.funcs[f]? = some fn) (hb:fn.body=some code) (hL:zp P G none 0 L (loopsOf code)) (h:pw P G L code (wO fn ds) [] (MA P fn sz Q)):PFnV P G f ds sz Q:=by
 refine⟨λc w vs hρ hr hg hvs=>wQ (c0:=c) (tm:=wO fn ds) (H0:=[]) hf hb ?_ (yk hm code _ _ _ hL h) ?_⟩
 ·refine⟨hr,hg,?_,CK (GE _)⟩;show zy _ (vs.toArray++GQ (fn.ntmps - vs.toArray.size) undef).toList _;have:(vs.toArray++GQ (fn.ntmps - vs.toArray.size) undef).toList=vs++G8 (fn.ntmps - vs.length) undef:=by simp
  rw[this];exact zy.start _ hvs
 ·intro e c' H' w' tm' a' h1 h2 h3 h4;cases e with
  |ret =>
   simp only[MA]at h1;split at h1
   ·rename_i l has;split at h1
    ·rename_i n s r;obtain⟨rfl,rfl,hq⟩:=h1;obtain⟨vs',h5,h6⟩:=wA h2 has;obtain⟨v,vs2,rfl,h7,h8⟩:=h6.cons_right;have:=h8.nil_right;subst this;refine⟨.inl rfl,v,h5,v,l,c'.take 1,rfl,hq,h3.trans (DU c' w' 1),?_,?_⟩
     ·have:=h2.hr.take (n:=1) (by simp[ET]);simpa using this
     ·have:=h7.take (n:=1) (by simp[EM]);simpa using this
    ·exact h1.elim
   ·rename_i l has;obtain⟨vs',h5,h6⟩:=wA h2 has;obtain⟨v,vs2,rfl,h7,h8⟩:=h6.cons_right;have:=h8.nil_right;subst this;have hr0:HR (c'.take 0) (H'.take 0) w':=h2.hr.take (n:=0) (by simp);have hr0':HR { c' with ρ:=[] } [] w':=by simpa[zza]using hr0
    obtain⟨p1,p2,p3⟩:=HR.push_none (n:=l.length) (sz:=sz) hr0';have e0:Hs c' w' { c' with ρ:=[] } w':=by simpa[zza]using DU c' w' 0
    refine⟨.inl rfl,v,h5,v,l,_,rfl,h1,h3.trans (e0.trans p3),p1,?_⟩;cases h7 with
    |full h=>exact .vec (n:=l.length) (sz:=sz) h rfl (GE _) (λ_=>.inl rfl)
   ·exact h1.elim
  |_=>exact h1.elim
def L1 (P:HP) (fn:Fs) (H:IU Box) (av:AV) (N:IU Box):Post:=λe tm H' =>match e with
 |.ret=>match fn.results.toList.mapM (oI P tm H')with
  |some [x]=>x=av/\H'=H++N
  |_=>HD
 |_=>HD
theorem PMaker.walk {f:Fp}{fn:Fs}{code:He}{aas:IU AV}{H N:IU Box}{av:AV}(hm:P.follows .mixedOrders=true) (L:Loops) (hf:P.funcs[f]? = some fn) (hb:fn.body=some code) (hp:aas.all plainAV=true) (hL:zp P G none H.length L (loopsOf code)) (h:pw P G L code (startA fn aas) H (L1 P fn H av N)):PMaker P G f aas H av N:=by
 refine⟨λc w vs hr hg hvs=>wQ (c0:=c) (tm:=startA fn aas) (H0:=H) hf hb ?_ (yk hm code _ _ _ hL h) ?_⟩
 ·refine⟨hr,hg,?_,CK (GE _)⟩;show zy _ (vs.toArray++GQ (fn.ntmps - vs.toArray.size) undef).toList _;have:(vs.toArray++GQ (fn.ntmps - vs.toArray.size) undef).toList=vs++G8 (fn.ntmps - vs.length) undef:=by simp
  rw[this];exact zy.startA _ hp hvs
 ·intro e c' H' w' tm' a' h1 h2 h3 h4;rw[FR]at h4;cases e with
  |ret =>
   simp only[L1]at h1;split at h1
   ·rename_i x has;obtain⟨rfl,rfl⟩:=h1;obtain⟨vs',h5,h6⟩:=wA h2 has;obtain⟨v,vs2,rfl,h7,h8⟩:=h6.cons_right;have:=h8.nil_right;subst this;exact⟨.inl rfl,v,h5,v,c',rfl,h3,h4,h2.hr,h7⟩
   ·exact h1.elim
  |_=>exact h1.elim
theorem PFnF.of_A {f:Fp}{ds:IU D}{Q:IU D->Prop}(h:PFnA P G f ds λav=>∃l,av = .full l/\Q l):PFnF P G f ds Q :=⟨λc w vs a b d e=>(h.run c w vs a b d e).mono λ_ _ ⟨v,_,c',e1,⟨l,e2,e3⟩,e4,e5,e6,e7⟩=>⟨v,l,c',e1,e3,e4,e5,e6,e2 ▸ e7⟩⟩
end
def UI (j:Nat) (tm:IU AV) (Q:Post) (n:Nat) (H:IU Box):Prop :=match H[n]? with
 |some (.loop _ _ _ _ pend st) =>
  if(H.take n).all (ET n)then
   st ≠ .busy/\((pend=none/\Q .normal tm (H.take n))∨(pend=some .ret/\Q .ret tm (H.take n))∨(pend=some (.exit j)/\Q .normal tm (H.take n)))
  else HD
 |_=>HD
def YW (P:HP) (G:Nat->IQ (IU D)) (keep:IU Nat) (j g:Nat) (ps:IU Nat) (asn bd:He) (tm:IU AV) (H:IU Box) (Q:Post):Prop :=match tm.getD g .any with
 |.clo f fi ca =>
  if rN P f&&tm.all plainAV then
   HY P G f (fi++[.yld H.length]++ca) (H++[.loop (gW keep [] 0 tm) ps asn bd none .ready]) λ_ H' =>
    exH (H++[.loop (gW keep [] 0 tm) ps asn bd none .ready]) λH''=>H'=H''/\UI j tm Q H.length H''
  else HD
 |_=>HD
structure RangeParts where
 ops:IG Hp
 j:Nat
 g:Nat
 ps:IG Tmp
 asn:He
 bd:He
def rangeParts:He->IQ RangeParts
 |.seq (.region _ ops false) (.block j (.rangeFunc (.tmp g) ps asn bd))=>some ⟨ops,j,g,ps,asn,bd⟩
 |_=>none
def zY (c:He):IU Nat:=match rangeParts c with|some r=>r.ps.toList|none=>[]
def W9 (c:He):Nat:=match rangeParts c with|some r=>r.j|none=>0
def zk (c:He):He:=match rangeParts c with|some r=>r.asn|none=>.skip
def zX (c:He):He:=match rangeParts c with|some r=>r.bd|none=>.skip
def unScope:He->He
 |.scope c=>c
 |c=>c
def uT (P:HP) (G:Nat->IQ (IU D)) (keep:IU Nat) (it:IU D->AV) (code:He) (tm:IU AV) (H:IU Box) (Q:Post):Prop :=match rangeParts code with
 |some r =>
  sk P G r.ops r.ops.toList.dropLast tm H λtm1 H1 =>
   match r.ops.toList.getLast? with
   |some o =>
    match o.guard,o.op,o.dst with
    |none,.call { callee:= .value f,args,argTypes:=_ },some d =>
     match calleeAV (ev G (yc [] tm1) f)with
     |some (k,[],[]) =>
      if rN P k then
       match (args.toList.map (ev G (yc [] tm1))).mapM avD with
       |some ds=>PFnA P G k ds (λav=>av=it ds)/\YW P G keep (W9 code) r.g (zY code) (zk code) (zX code) (zW (yP tm1 (some d) (dull (it ds)))) H1 Q
       |none=>HD
      else HD
     |_=>HD
    |_,_,_=>HD
   |none=>HD
 |none=>HD
section
variable {P:HP}{G:Nat->IQ (IU D)}{nb:Nat}{rd:IQ Nat}{c:Cx}{H:IU Box}{w:H5}{tm:IU AV}{a:HA}{n:Nat}
theorem RA.bare {c':Cx}{w':H5}{ρ:IU (IQ (Nat×Nat))}{av:AV}{v:Value}(hρ:c'.ρ=[]) (h:RA c' [] w' av v):RA { c' with ρ:=ρ } H w' av v:=by have:=RA.more (ρ2:=ρ) (H2:=H) (by simp[hρ]) h;simpa[hρ]using this
theorem gT (keep:IU Nat):∀(i:Nat) {tm:IU AV}{vs:IU Value},zy (λv a=>RA c H w a v) vs tm->zy (λv a=>RA c H w a v) vs (gW keep [] i tm)
 |i,[],vs,h=>by simpa[gW]using h
 |i,a::r,vs,h=>by
  obtain⟨v,vs',rfl,h1,h2⟩:=h.cons_right;simp only[gW,findU];refine Gw ?_ (gT keep (i+1) h2);split
  ·exact h1.dull
  ·exact .any v
theorem YV {g:G1}{l f:Nat}{fv cv:IU Value}(hf:a.eval g = .func (.func f) fv.toArray cv.toArray) (hok:rN P f=true):∃d,(resolve a.eval (rangeCall g l) 0).run P w = .ok d w/\(invoke d.target d.args).run P w = .ok (.enter f (fv++[BE (.yield l) #[] #[]]++cv).toArray) w:=by
 unfold rN at hok;cases hfn:P.funcs[f]? with
 |none=>rw[hfn]at hok;simp at hok
 |some fn =>
  rw[hfn]at hok;simp only[HC,Fe]at hok;obtain⟨h1,h2⟩:=hok;have h3:fn.body.isNone=false:=by cases hb:fn.body with
   |none=>rw[hb]at h2;simp at h2
   |some b=>rfl
  refine⟨{ target:= .fn (.func f) cv.toArray,args:=fv.toArray++ #[BE (.yield l) #[] #[]] },?_,?_⟩
  ·simp only[resolve,hf,Co.ofValue,GF];simp[HA.eval]
  ·have ha:fv.toArray++ #[BE (.yield l) #[] #[]]++cv.toArray=(fv++[BE (.yield l) #[] #[]]++cv).toArray:=by apply IG.ext';simp
   simp only[invoke,callFunc,Gk,GF,Gm,run_program,hfn,h1,FU,if_false,h3];rw[ha]
theorem jd {keep:IU Nat}{j g:Nat}{ps:IG Tmp}{asn bd:He}{Q:Post}(h:YW P G keep j g ps.toList asn bd tm H Q):PW P G none n (.block j (.rangeFunc (.tmp g) ps asn bd)) tm H Q:=by
 refine⟨λnb c a w hR=>?_⟩;unfold YW at h;split at h
 ·rename_i f fi ca hcl;split at h
  ·rename_i hok;simp only[HC]at hok;obtain⟨hok,hpl⟩:=hok;have hg:=yF (tags:=[]) hR (λg p h=>by simp[hasTag]at h) (.tmp g);have hev:ev G (yc [] tm) (.tmp g) = .clo f fi ca:=by show yc [] tm g=_;unfold yc;rw[hcl]
   rw[hev]at hg;generalize hgv:a.eval (.tmp g)=gv at hg;cases hg with
   |@clo _ _ _ fv cv l1 l2 g1 g2 =>
   refine wpIn_block (wpIn_rangeFunc λfn _=>?_);let w1:H5:=w.alloc (.deferred (some []));let rec_:Loop:= { state:= .ready,pending:=none,fn,tmps:=a.tmps,params:=ps,assign:=asn,body:=bd,defers:=w.heap.size };let w2:H5:=w1.alloc (.loop rec_);have hs1:w1.heap.size=w.heap.size+1:=H5.size_alloc w _;obtain⟨d,hd1,hd2⟩:=YV (P:=P) (w:=w2) (a:=a) (g:= .tmp g) (l:=w1.heap.size) hgv hok;refine⟨w.heap.size+1,[mark w.heap.size],w2,d,w2,f,_,w2,run_enterLoop_outer fn a.tmps ps asn bd,by rw[←hs1];exact hd1,λ_ _=>trivial,hd2,λh=>by simp[vI,Fence.wide]at h,?_⟩;refine jm ?_;have e1:Hs c w c w1:=BO c w _ hR.hr.ilt hR.hr.jlt;have hr1:HR c H w1:=hR.hr.push_free _;let x:Box:= .loop (gW keep [] 0 tm) ps.toList asn bd none .ready;have e2:Hs c w1 (c.grow w1.heap.size 0) w2:=Hs.push_box c w1 _ 0 hr1.ilt hr1.jlt;have kp2:zl c H (c.grow w1.heap.size 0) (H++[x]):=Ct c H _ 0 x hR.hr.len;have htm2:zy (λv a=>RA (c.grow w1.heap.size 0) (H++[x]) w2 a v) a.tmps.toList tm:=by
    have h3:=(hR.tm.ext e1 (GV c H)).ext e2 kp2;refine⟨h3.1,λi v y hv hy=>?_⟩;have h4:=h3.2 i v y hv hy;have h5:=G3.1 hpl _ (GS hy);cases y<;>first
     |exact h4
     |simp[plainAV]at h5
   have hr2:HR (c.grow w1.heap.size 0) (H++[x]) w2:=by refine HR.push_box hr1 (.loop rec_) 0 x ⟨rec_,by simp,rfl,rfl,rfl,rfl,rfl,gT keep 0 htm2⟩
   have hext2:=e1.trans e2;have hdf1:i7 nb (c.grow w1.heap.size 0) w2 (mark w.heap.size::a.defers):=by
    obtain⟨d0,ms,d1,d2,d3⟩:=hR.df.ext hext2;have hnot:∀m∈ms,m<w.heap.size:=λm hm=>by
     obtain⟨_,ms',q1,_,q3⟩:=hR.df;have:ms'=ms:=by
      have h6:ms'.map mark=ms.map mark:=q1.symm.trans d1;have hinj:Function.Injective mark:=λx y hxy=>by simpa[mark]using hxy
      exact(IU.map_inj_right (λx y hxy=>hinj hxy)).1 h6
     subst this;exact i8 (q3 m hm).2.1
    refine⟨d0,w.heap.size::ms,by rw[d1];rfl,EO.2 ⟨λh=>DJ _ (hnot _ h),d2⟩,λm hm=>?_⟩;rcases F5.1 hm with rfl|hm
    ·refine⟨hR.df.1,?_,λl k hl=>?_,λo hi=>?_,λhj=>?_⟩
     ·show((w.heap.push _).push _)[w.heap.size]? = _;rw[IG.getElem?_push];simp
     ·rcases zo hl with hl|⟨_,hl⟩
      ·exact DJ _ (hR.hr.lt l _ k hl)
      ·simp at hl;omega
     ·exact DJ _ (hR.hr.ilt _ o hi)
     ·exact DJ _ (hR.hr.jlt _ hj)
    ·exact d3 m hm
   have hargs:zy (λv a=>RA (c.grow w1.heap.size 0) (H++[x]) w2 a v) (fv++[BE (.yield w1.heap.size) #[] #[]]++cv) (fi++[.yld H.length]++ca):=by
    have k1:zy (λv a=>RA (c.grow w1.heap.size 0) (H++[x]) w2 a v) fv fi:=⟨l1.symm,λi v a hv ha=>((g1 i a v ha hv).ext e1 (GV c H)).ext e2 kp2⟩;have k2:zy (λv a=>RA (c.grow w1.heap.size 0) (H++[x]) w2 a v) cv ca:=⟨l2.symm,λi v a hv ha=>((g2 i a v ha hv).ext e1 (GV c H)).ext e2 kp2⟩;have k3:RA (c.grow w1.heap.size 0) (H++[x]) w2 (.yld H.length) (.func (.yield w1.heap.size) #[] #[]) :=
     .yld (k:=0) (by simp[x];exact⟨rfl,rfl,rfl,rfl,rfl,rfl⟩) (by simp[zzc,←hR.hr.len])
    exact(k1.append (Gw k3 Ga)).append k2
   refine(h.run (c.grow w1.heap.size 0) w2 _ hr2 (hR.gr.ext hext2) hargs).mono λen w3 hen=>?_;obtain⟨v,rs,c3,H3,rfl,hq,hl3,e3,k3,hr3,_⟩:=hen;obtain⟨H'',rfl,hend⟩:=exH_some hq;unfold UI at hend;split at hend
   ·rename_i tm' ps' asn' bd' pend st hl;split at hend
    ·rename_i hund;obtain⟨hst,hend⟩:=hend;have hlen3:H3.length=H.length+1:=by simpa using hl3
     have hlx:(H++[x])[H.length]? = some x:=by simp
     obtain⟨⟨p4,s4,hq4⟩,hρ4⟩:=k3 H.length _ hlx;have hρ3:c3.ρ[H.length]? = some (some (w1.heap.size,0)):=by rw[hρ4];simp[zzc,←hR.hr.len]
     obtain⟨r3,t1,t2,t3,t4,t5,t6,t7⟩:=hr3.box H.length _ _ _ hρ3 hl;obtain⟨e4,hr4⟩:=gV hr3 hl hρ3 t1 pend .exhausted;have e5:({ r3 with state:= .exhausted,pending:=pend }:Loop) = { r3 with state:= .exhausted }:=by rw[←t5]
     rw[e5]at e4 hr4;have hrun:(Instr.endLoop (w.heap.size+1)).run P w3 = .ok pend (w3.putObj (w.heap.size+1) (.loop { r3 with state:= .exhausted })):=by rw[hs1]at t1;rw[←t5];exact run_endLoop t1 (by rw[t6];exact hst)
     rw[hs1]at e4 hr4;refine⟨pend,_,hrun,?_⟩;have htk:(H3.set H.length (.loop tm' ps' asn' bd' pend .exhausted)).take H.length=H3.take H.length:=by rw[IU.take_set_of_le (GE _)]
     have hr5:HR (c3.take H.length) (H3.take H.length) (w3.putObj (w.heap.size+1) (.loop { r3 with state:= .exhausted })):=by have:=hr4.take (n:=H.length) (by rw[htk];exact hund);rwa [htk]at this
     have e6:Hs c w (c3.take H.length) (w3.putObj (w.heap.size+1) (.loop { r3 with state:= .exhausted })):=(hext2.trans (e3.trans e4)).trans (DU _ _ _);have k6:zl c H (c3.take H.length) (H3.take H.length):=by
      intro m y hy;have hlt:m<H.length:=by
       rcases G4 m H.length with h' |h'
       ·exact h'
       ·rw[Gt h']at hy;cases hy
      have:=(kp2.trans k3) m y hy;have e1:(c3.take H.length).ρ[m]? = c3.ρ[m]? :=by show(c3.ρ.take _)[m]? = _;rw[zG hlt]
      have e2:(H3.take H.length)[m]? = H3[m]? :=zG hlt;cases y<;>simp only[e1,e2]<;>exact this
     have hRep:G9 G nb (c3.take H.length) (H3.take H.length) (w3.putObj (w.heap.size+1) (.loop { r3 with state:= .exhausted })) tm { a with defers:=[mark w.heap.size]++a.defers } :=
      ⟨hr5,hR.gr.ext e6,hR.tm.ext e6 k6,((hdf1.ext e3).ext e4).ext (DU _ _ _)⟩
     have hEnds:∀e,Q e tm (H3.take H.length)->mT G nb n c H w Q e { a with defers:=[mark w.heap.size]++a.defers } (w3.putObj (w.heap.size+1) (.loop { r3 with state:= .exhausted })) :=
      λe he=>⟨_,tm,_,he,hRep,e6,k6.cut n⟩
     rcases hend with⟨rfl,hq⟩|⟨rfl,hq⟩|⟨rfl,hq⟩
     ·exact hEnds .normal hq
     ·exact wpIn_ret (hEnds .ret hq)
     ·refine wpIn_exit ?_;simp only[zwg,if_true];exact hEnds .normal hq
    ·exact hend.elim
   ·exact hend.elim
  ·exact h.elim
 ·exact h.elim
theorem d4 {keep:IU Nat}{it:IU D->AV}{code:He}{Q:Post}(h:uT P G keep it code tm H Q):PW P G none n code tm H Q:=by
 unfold uT at h;split at h
 ·rename_i r hr;have hcode:∃id,code = .seq (.region id r.ops false) (.block r.j (.rangeFunc (.tmp r.g) r.ps r.asn r.bd)):=by
   unfold rangeParts at hr;split at hr
   ·cases hr;exact⟨_,rfl⟩
   ·cases hr
  have ha:zk code=r.asn:=by unfold zk;rw[hr]
  have hb:zX code=r.bd:=by unfold zX;rw[hr]
  have hj:W9 code=r.j:=by unfold W9;rw[hr]
  have hps:zY code=r.ps.toList:=by unfold zY;rw[hr]
  obtain⟨id,rfl⟩:=hcode;rw[ha,hb,hj,hps]at h;refine⟨λnb c a w hR=>?_⟩;cases hlast:r.ops.toList.getLast? with
  |none =>
   have h0:r.ops.toList=[]:=IU.getLast?_eq_none_iff.1 hlast;rw[h0]at h;simp[sk]at h
  |some o =>
   have happ:r.ops.toList=r.ops.toList.dropLast++[o]:=by obtain⟨ys,hys⟩:=zxa.1 hlast;rw[hys];simp
   rw[hlast]at h;refine wpIn_seq (wpIn_region ?_);have hsz:Gp r.ops.size=Dk 0 (r.ops.toList.dropLast.length+[o].length):=by rw[Ap];congr 1;have:=Gv IR happ;simpa using this
   rw[hsz];refine gX (r:=[o]) _ 0 c H w tm a (by simpa using happ) hR h ?_;intro a1 w1 c1 tm1 H1 hk hR1 e1 k1;have ho:r.ops[r.ops.toList.dropLast.length]? = some o:=by
    have:r.ops.toList[r.ops.toList.dropLast.length]? = some o:=by rw[happ];simp
    simpa using this
   simp only at hk;split at hk
   ·rename_i f args types d hgd hop hdst;split at hk
    ·rename_i k hcal;split at hk
     ·rename_i hok;split at hk
      ·rename_i ds hds;obtain⟨hA,hI⟩:=hk;have he:=yF (tags:=[]) hR1 (λg p h=>by simp[hasTag]at h);obtain⟨fv,cv,hfv,hargs⟩:=wu (args:=args) he hcal;have hrv:=mapM_avD (by simpa using hds) hargs;simp only[F2,FL,E6];rw[show Dk r.ops.toList.dropLast.length 1=[r.ops.toList.dropLast.length]from rfl,wpOpsIn_cons];unfold wpOpIn;rw[ho];simp only;have hw:Fr o (yielded r.ops a1.tmps)=true:=by simp[Fr,hgd]
       rw[Hv hw];refine xJ (by rw[hop];intro d hd;cases hd) (vm hop hfv hok) ?_;refine(hA.run { c1 with ρ:=[] } w1 _ rfl hR1.hr.nil hR1.gr hrv).mono λen w2 hen=>?_;obtain⟨v,av,c2,rfl,rfl,hρ2,hext,hhr,hra⟩:=hen;obtain⟨e2,k2,h2⟩:=sK hR1.hr hext hhr;have hra2:RA { c2 with ρ:=c1.ρ } H1 w2 (it ds) v:=RA.bare hρ2 hra;have hR2:=hR1.put e2 k2 h2 o.dst (xS hra2);refine⟨v,rfl,?_⟩;simp only[wpOpsIn];rw[hdst]at hR2 ⊢;have hfin:=(jd (n:=n) (ps:=r.ps) hI).run nb _ _ w2 hR2.clear;refine wpIn_mono hfin λe a3 w3 hE=>?_;exact hE.later (e1.trans e2) ((k1.trans k2).cut n)
      ·exact hk.elim
     ·exact hk.elim
    ·exact hk.elim
   ·exact hk.elim
 ·exact h.elim
theorem xy {keep:IU Nat}{it:IU D->AV}{b:He}(hb:isScope b=true) (tm:IU AV) (H:IU Box) (Q:Post) (h:uT P G keep it (unScope b) tm H Q):PW P G none n (mkLoop b) tm H Q:=by
 have:mkLoop b=unScope b:=by cases b<;>first|rfl|simp[isScope]at hb
 rw[this];exact d4 h
end
end Go.Sx
open Go.Sx renaming rowAt->Ew
open Go.Sx.PCall renaming walk->zvs
open Go.Sx.PFn renaming walk->DT
namespace Go.Sx
open Go Go.RowKit
section
variable {P:HP}{G:Nat->IQ (IU D)}{c:Cx}{w w':H5}
theorem Ext.below (h:Below w.heap.size w w') (hR:HR c [] w):Hs c w c w' where
 os:=h.os
 tape:=h.tape
 output:=h.output
 isub _ _ h:=h
 jsub _ h:=h
 icell b o hi:=xc (h.block b (hR.ilt b o hi)) _ _
 jobj r hr:=h.block r (hR.jlt r hr)
 size:=h.size
 frame b hb _:=h.block b hb
 inew _ _ h:= .inl h
 jnew _ h:= .inl h
 fresh l b k h:= .inl ⟨l,k,h⟩
theorem HR.below (h:Below w.heap.size w w') (hρ:c.ρ=[]) (hR:HR c [] w):HR c [] w' where
 len:=hR.len
 inj:=hR.inj
 box l b k x h1:=by rw[hρ]at h1;simp at h1
 non l x h1:=by rw[hρ]at h1;simp at h1
 lt l b k h1:=by rw[hρ]at h1;simp at h1
 ilt b o hi:=F4 (hR.ilt b o hi) h.size
 jlt r hr:=F4 (hR.jlt r hr) h.size
 iap:=hR.iap
 jap:=hR.jap
theorem PFn.of_calls {f:Fp}{ds:IU D}{r:D}{v:Value}(hv:∀I J w,RV I J w v r) (h:∀(c:Cx) (w:H5) (vs:IU Value),c.ρ=[]->HR c [] w->zy (RV c.I c.J w) vs ds->Ef P f vs.toArray w λe w'=>e = .returned v/\Below w.heap.size w w'):IK P G f ds (· = [r]):=by refine⟨⟨_,rfl⟩,λc w vs hρ hr _ hvs=>(h c w vs hρ hr hvs).mono λe w' he=>?_⟩;obtain⟨rfl,hb⟩:=he;exact⟨v,[r],c,rfl,rfl,hρ,Ext.below hb hr,HR.below hb hρ hr,hv _ _ _⟩
end
end Go.Sx
namespace Go.Sx
open Go
def L2 (n:Nat) (keep:IU Nat) (upd:IU (Nat×AV)) (hU:IU Box->IU Box) (W:LW):LW:=λtm H Q =>Wk n tm H (gW keep upd 0 tm) (hU H)/\W (gW keep upd 0 tm) (hU H) Q
theorem WY {P:HP}{G:Nat->IQ (IU D)}{rd:IQ Nat}{n:Nat}{keep:IU Nat}{upd:IU (Nat×AV)}{hU:IU Box->IU Box}{W:LW}{b:He}(h:yD P G rd n b W):yD P G rd n b (L2 n keep upd hU W) :=λtm H Q hw=>PW.weaken hw.1 (vC _ _ _ _) (h _ _ _ hw.2)
end Go.Sx
namespace Go.Sx
open Go Go.RowKit
section
variable {P:HP}{G G':Nat->IQ (IU D)}{c:Cx}{H:IU Box}{w w':H5}
theorem Ext.belowH (h:Below w.heap.size w w') (hR:HR c H w):Hs c w c w' where
 os:=h.os
 tape:=h.tape
 output:=h.output
 isub _ _ h:=h
 jsub _ h:=h
 icell b o hi:=xc (h.block b (hR.ilt b o hi)) _ _
 jobj r hr:=h.block r (hR.jlt r hr)
 size:=h.size
 frame b hb _:=h.block b hb
 inew _ _ h:= .inl h
 jnew _ h:= .inl h
 fresh l b k h:= .inl ⟨l,k,h⟩
theorem HR.belowH (h:Below w.heap.size w w') (hR:HR c H w):HR c H w' where
 len:=hR.len
 inj:=hR.inj
 box l b k x h1 h2:=(hR.box l b k x h1 h2).ext (Ext.belowH h hR) (GV _ _) (h.block b (hR.lt l b k h1))
 non:=hR.non
 lt l b k h1:=F4 (hR.lt l b k h1) h.size
 ilt b o hi:=F4 (hR.ilt b o hi) h.size
 jlt r hr:=F4 (hR.jlt r hr) h.size
 iap:=hR.iap
 jap:=hR.jap
theorem PCall.of_below {f:Fp}{aas:IU AV}{rs:IU D}{v:Value}(hv:∀I J w,bq I J w v rs) (h:∀(c:Cx) (w:H5) (vs:IU Value),HR c H w->GR G c w->zy (λv a=>RA c H w a v) vs aas->Ef P f vs.toArray w λe w'=>e = .returned v/\Below w.heap.size w w'): HY P G f aas H (λrs' H'=>rs'=rs/\H'=H):=by refine⟨⟨_,_,rfl,rfl⟩,λc w vs hr hg hvs=>(h c w vs hr hg hvs).mono λe w' he=>?_⟩;obtain⟨rfl,hb⟩:=he;exact⟨v,rs,c,H,rfl,⟨rfl,rfl⟩,rfl,Ext.belowH hb hr,GV _ _,HR.belowH hb hr,hv _ _ _⟩
theorem Ext.is_below' {c':Cx}(h:Hs c w c' w') (hρ:c.ρ=[]):Below w.heap.size w w':=⟨h.os,h.tape,h.output,h.size,λb hb=>h.frame b hb λl k=>by rw[hρ];simp⟩
theorem GR.le (hG:∀g cs,G g=some cs->G' g=some cs) (h:GR G' c w):GR G c w:=λg cs hg=>h g cs (hG g cs hg)
theorem PFn.more {f:Fp}{ds:IU D}{Q:IU D->Prop}(hG:∀g cs,G g=some cs->G' g=some cs) (h:IK P G f ds Q):IK P G' f ds Q :=⟨h.ex,λc w vs hρ hr hg hvs=>h.run c w vs hρ hr (hg.le hG) hvs⟩
end
end Go.Sx
namespace Go.Sx
open Go
section
variable {P:HP}{G:Nat->IQ (IU D)}{rd:IQ Nat}{n nb:Nat}{c:Cx}{H:IU Box}{w:H5}{tm:IU AV}{a:HA}
def zK (P:HP) (G:Nat->IQ (IU D)) (L:Loops) (body:He):Nat->LW
 |0,_,_,_=>HD
 |k+1,tm,H,Q=>if isScope body then HD else pw P G L body tm H (gY (λtm' H'=>zK P G L body k tm' H' Q) Q)
theorem zS (hm:P.follows .mixedOrders=true) {L:Loops}{body:He}(hL:zp P G rd n L (loopsOf body)) (k:Nat) (tm:IU AV) (H:IU Box) (Q:Post) (h:zK P G L body k tm H Q):PW P G rd n (mkLoop body) tm H Q:=by
 cases k with
 |zero=>exact h.elim
 |succ k =>
  have hsc:isScope body=false:=by
   unfold zK at h;split at h
   ·exact h.elim
   ·rename_i hs;simpa using hs
  have hl:mkLoop body = .loop body:=by cases body<;>first|rfl|simp[isScope]at hsc
  rw[hl];refine⟨λnb c a w hR=>?_⟩;refine qe (λj a' w'=>∃tm' H' c',zK P G L body j tm' H' Q/\G9 G nb c' H' w' tm' a'/\Hs c w c' w'/\zl c (H.take n) c' H') (k+1) ⟨tm,H,c,h,hR,Fq _ _,(GV _ _).cut n⟩ ?_;rintro j a' w' ⟨tm',H',c',hu,hR',e,kp⟩;cases j with
  |zero=>exact hu.elim
  |succ j =>
   unfold zK at hu;rw[IE (by simp[hsc])]at hu;refine wpIn_mono ((yk hm body _ _ _ hL hu).run nb c' a' w' hR') λex a2 w2 hE=>?_;obtain⟨c2,tm2,H2,h1,h2,h3,h4⟩:=hE;cases ex with
   |normal=>exact⟨j,by omega,tm2,H2,c2,h1,h2,e.trans h3,kp.link h4⟩
   |_=>exact⟨c2,tm2,H2,h1,h2,e.trans h3,kp.link h4⟩
theorem R1.sub {I I':Nat->Nat->Prop}{J:Nat->Prop}(hs:∀b o,I b o->I' b o) {v:Value}{x:D}(h:R1 I J w v x):R1 I' J w v x:=by
 induction h with
 |int k n=>exact .int k n
 |bool b=>exact .bool b
 |str s=>exact .str s
 |fn f=>exact .fn f
 |nil=>exact .nil
 |emp a cap=>exact .emp a cap
 |sl b off cap sz ds vals hsz hc _ hcap ih=>exact .sl b off cap sz ds vals hsz (λi j d hd=>⟨hs _ _ (hc i j d hd).1,(hc i j d hd).2⟩) ih hcap
 |gmap r ents clk es hJ hw hlen _ _ ihk ihv=>exact .gmap r ents clk es hJ hw hlen ihk ihv
theorem RV.sub {I I':Nat->Nat->Prop}{J:Nat->Prop}(hs:∀b o,I b o->I' b o) {v:Value}{x:D}(h:RV I J w v x):RV I' J w v x:=by
 cases x<;>simp only[RV]at h ⊢ <;> first
  |(obtain⟨vs,rfl,hv⟩:=h;exact⟨vs,rfl,hv.mono λ_ _ h=>h.sub hs⟩)
  |exact R1.sub hs h
def Cx.wide (c:Cx) (S:Nat->Nat->Prop):Cx:= { c with I:=λb o=>c.I b o∨S b o }
theorem RA.wide {S:Nat->Nat->Prop}{av:AV}{v:Value}(h:RA c H w av v):RA (c.wide S) H w av v:=by
 have hs:∀b o,c.I b o->(c.wide S).I b o:=λ_ _ h=>.inl h;induction h with
 |d h=>exact .d (RV.sub hs h)
 |ptr hH h=>exact .ptr hH h
 |iptr h=>exact .iptr λj x hx=>⟨hs _ _ (h j x hx).1,by obtain⟨v,h1,h2⟩:=(h j x hx).2;exact⟨v,h1,h2.sub hs⟩⟩
 |clo hf hc _ _ ih1 ih2=>exact .clo hf hc ih1 ih2
 |full h=>exact .full (R1.sub hs h)
 |vec h hH hn he=>exact .vec (R1.sub hs h) hH hn he
 |map hH h=>exact .map hH h
 |tup hl _ ih=>exact .tup hl ih
 |agg hl _ ih=>exact .agg hl ih
 |any v=>exact .any v
 |opt g p x v=>exact .opt g p x v
 |yld hH h=>exact .yld hH h
 |nils=>exact .nils
 |nilf=>exact .nilf
 |fsym o=>exact .fsym o
 |msl hH h=>exact .msl hH h
 |eptr hH h=>exact .eptr hH h
theorem qW.wide {S:Nat->Nat->Prop}{b k:Nat}{x:Box}(h:qW c H w b k x):qW (c.wide S) H w b k x:=by
 have hs:∀b o,c.I b o->(c.wide S).I b o:=λ_ _ h=>.inl h;cases x with
 |cells T cs=>obtain⟨vs,h1,h2⟩:=h;exact⟨vs,h1,h2.mono λ_ _ h=>h.wide⟩
 |map es=>obtain⟨ents,clk,h1,h2⟩:=h;exact⟨ents,clk,h1,h2.mono λ_ _ h=>⟨RV.sub hs h.1,RV.sub hs h.2⟩⟩
 |vec m sz=>exact h
 |dead=>exact h
 |arr sz ds=>obtain⟨vs,T,h1,h2,h3⟩:=h;exact⟨vs,T,h1,h2,h3.mono λ_ _ h=>h.sub hs⟩
 |loop tm ps asn bd pend st=>obtain⟨r,h1,h2,h3,h4,h5,h6,h7⟩:=h;exact⟨r,h1,h2,h3,h4,h5,h6,h7.mono λ_ _ h=>h.wide⟩
theorem HR.wide {S:Nat->Nat->Prop}(hR:HR c H w) (h1:∀b o,S b o->b<w.heap.size) (h2:∀b o l k:Nat,S b o->c.ρ[l]? ≠ some (some (b,k))):HR (c.wide S) H w where
 len:=hR.len
 inj:=hR.inj
 box l b k x hl hx:=(hR.box l b k x hl hx).wide
 non:=hR.non
 lt:=hR.lt
 ilt b o hi:=by
  rcases hi with hi|hi
  ·exact hR.ilt b o hi
  ·exact h1 b o hi
 jlt:=hR.jlt
 iap b o l k hi hl:=by
  rcases hi with hi|hi
  ·exact hR.iap b o l k hi hl
  ·exact Hu hl (h2 b o l k hi)
 jap:=hR.jap
def Mu (l:Nat) (ds:IU D) (x:AV):AV :=match x with
 |.msl k=>if k=l then .d (.sl ds)else if k<l then .msl k else .any
 |.opt _ _ _=>.any
 |x=>if x.under l then x else .any
def Nj (n:Nat) (K:IU AV->IU Box->Prop):IU AV->IU Box->Prop:=λtm H =>match H.getLast? with
 |some (.arr _ ds)=>if decide (n<H.length)&&H.dropLast.all (ET (H.length - 1))then K (tm.map (Mu (H.length - 1) ds)) H.dropLast else HD
 |_=>HD
def Ki (n:Nat) (Q:Post):Post:=λe tm H =>match e with
 |.normal=>Nj n (Q .normal) tm H
 |.exit i=>Nj n (Q (.exit i)) tm H
 |e=>Q e tm H
def L3 (n:Nat) (W:LW):LW:=λtm H Q=>W tm H (Ki n Q)
theorem R1.arr {sz b k:Nat}{ds:IU D}{S:Nat->Nat->Prop}(hb:qW c H w b k (.arr sz ds)) (hS:∀o,o<ds.length*sz->S b o):R1 (c.wide S).I c.J w (.slice (some ⟨b,0,none⟩) ds.length ds.length) (.sl ds):=by
 obtain⟨vs,T,h1,h2,h3⟩:=hb;obtain⟨us,h4,h5⟩:=rQ ds vs h3;have hs:∀b o,c.I b o->(c.wide S).I b o:=λ_ _ h=>.inl h;refine R1.of_row (vs:=us) (h4.mono λ_ _ h=>RV.sub hs h) h2 (λj u hj=>?_) (GE _);rw[h5]at hj;have hlt:j<ds.length*sz:=by
  have hl:=h3.1;rw[qR ds h2]at hl;have:j<vs.length:=by
   rcases G4 j vs.length with h' |h'
   ·exact h'
   ·rw[Gt h']at hj;cases hj
  omega
 rw[E6];exact⟨.inr (hS j hlt),by simp[Ec,h1,hj]⟩
theorem Rep.frz {sz:Nat}{ds:IU D}(hR:G9 G nb c H w tm a) (hl:H.getLast? = some (.arr sz ds)) (hn:n<H.length) (hu:(H.dropLast.all (ET (H.length - 1)))=true):∃c',G9 G nb c' H.dropLast w (tm.map (Mu (H.length - 1) ds)) a/\Hs c w c' w/\zl c (H.take n) c' H.dropLast:=by
 have hpos:0<H.length:=by omega
 generalize hp:H.length - 1=p at *;have hdl:H.dropLast=H.take p:=by rw[IU.dropLast_eq_take,hp]
 rw[hdl]at hu ⊢;have hget:H[p]? = some (.arr sz ds):=by rw[←hp,←IU.getLast?_eq_getElem?];exact hl
 have hr0:=hR.hr.take (n:=p) hu;have hplt:p<c.ρ.length:=by rw[hR.hr.len];omega
 obtain⟨ob,hob⟩:∃ob,c.ρ[p]? = some ob:=⟨c.ρ[p],by simp[hplt]⟩;have hob' :∃b k,ob=some (b,k):=by
  cases ob with
  |none =>
   rcases hR.hr.non p _ hob hget with⟨n',sz',h⟩|h<;>cases h
  |some bk=>exact⟨bk.1,bk.2,rfl⟩
 obtain⟨b,k,rfl⟩:=hob';have hbox:=hR.hr.box p b k _ hob hget;let S:Nat->Nat->Prop:=λb' o=>b'=b/\o<ds.length*sz;have hr1:HR ((c.take p).wide S) (H.take p) w:=by refine hr0.wide (λb' o h=>by rw[h.1];exact hR.hr.lt p b k hob) (λb' o l k' h hl'=>?_);obtain⟨h5,h6⟩:=zP hl';have:=hR.hr.inj l p b k' k (by rw[←h.1];exact h6) hob;omega
 have e:Hs c w ((c.take p).wide S) w:=by
  refine⟨rfl,rfl,rfl,λ_ _ h=>.inl h,λ_ h=>h,λ_ _ _=>rfl,λ_ _=>rfl,GE _,λ_ _ _=>rfl,λb' o h=>?_,λ_ h=>.inl h,λl _ k h=>.inl ⟨l,k,(zP h).2⟩⟩;rcases h with h|h
  ·exact .inl h
  ·exact .inr (.inr ⟨p,k,by rw[h.1];exact hob⟩)
 have kp:zl c (H.take n) ((c.take p).wide S) (H.take p):=by
  intro m y hy;obtain⟨hm,hy'⟩:=zP hy;have e1:((c.take p).wide S).ρ[m]? = c.ρ[m]? :=by show(c.ρ.take p)[m]? = _;rw[zG (by omega)]
  have e2:(H.take p)[m]? = some y:=by rw[zG (by omega)];exact hy'
  have:=GV c H m y hy';cases y<;>simp only[e1,e2]<;>simp_all
 refine⟨_,⟨hr1,hR.gr.ext e,?_,hR.df.ext e⟩,e,kp⟩;refine⟨by simpa using hR.tm.1,λi v y hv hy=>?_⟩;rw[G5]at hy;cases hx:tm[i]? with
 |none=>rw[hx]at hy;cases hy
 |some x =>
  rw[hx]at hy;simp only[Fi,Er]at hy;subst hy;have h3:=hR.tm.2 i v x hv hx;have key:∀z:AV,RA c H w z v->z.under p=true->RA ((c.take p).wide S) (H.take p) w z v:=λz hz hu'=>(hz.take hu').wide;have hany:xj ((c.take p).wide S) (H.take p) w a.tmps .any v:=Di v;cases x<;>simp only[Mu]<;>first
   |exact hany
   |(split;(· rename_i hu';exact key _ h3 hu');exact hany)
   |skip
  rename_i m;split
  ·rename_i hm;subst hm;have h4:RA c H w (.msl m) v:=h3;cases h4 with
   |@msl _ b2 k2 sz2 ds2 hH2 hρ2 =>
   rw[hget]at hH2;cases hH2;rw[hob]at hρ2;cases hρ2;exact RA.d (R1.arr (c:=c.take m) (H:=H) (k:=k) (S:=S) (by obtain⟨vs,T,h1,h2,h3⟩:=hbox;exact⟨vs,T,h1,h2,h3⟩) (λo ho=>⟨rfl,ho⟩)).rv
  ·split
   ·rename_i hm;exact key _ h3 (by simp[EM,hm])
   ·exact hany
theorem WX {W:LW}{b:He}(h0:∀tm H Q,W tm H Q->PW P G rd n (mkLoop b) tm H Q) (tm:IU AV) (H:IU Box) (Q:Post) (h:L3 n W tm H Q):PW P G rd n (mkLoop b) tm H Q:=by
 refine⟨λnb c a w hR=>?_⟩;refine wpIn_mono ((h0 _ _ _ h).run nb c a w hR) λex a2 w2 hE=>?_;obtain⟨c2,tm2,H2,h1,h2,h3,h4⟩:=hE;have key:∀e,Nj n (Q e) tm2 H2->mT G nb n c H w Q e a2 w2:=by
  intro e hk;unfold Nj at hk;split at hk
  ·rename_i sz ds hl;split at hk
   ·rename_i hc;simp only[HC,HS]at hc;obtain⟨c4,r1,r2,r3⟩:=h2.frz hl hc.1 hc.2;exact⟨c4,_,_,hk,r1,h3.trans r2,h4.link r3⟩
   ·exact hk.elim
  ·exact hk.elim
 cases ex with
 |normal=>exact key _ h1
 |exit i=>exact key _ h1
 |_=>exact⟨c2,tm2,H2,h1,h2,h3,h4⟩
def fulA:AV->AV
 |.nils=>.full []
 |x=>x
def fulB:Box->Box
 |.cells T cs=>.cells T (cs.map fulA)
 |x=>x
theorem RA.ful {av:AV}{v:Value}(h:RA c H w av v):RA c H w (fulA av) v:=by
 cases av<;>first
  |exact h
  |(cases h;exact .full .nil)
theorem xj.ful {tmps:IG Value}{av:AV}{v:Value}(h:xj c H w tmps av v):xj c H w tmps (fulA av) v:=by
 cases av<;>first
  |exact h
  |exact RA.ful (av:= .nils) h
theorem Rep.ful (hR:G9 G nb c H w tm a):G9 G nb c (H.map fulB) w (tm.map fulA) a/\zl c H c (H.map fulB):=by
 have kp:zl c H c (H.map fulB):=by
  intro m y hy;have e2:(H.map fulB)[m]? = some (fulB y):=by simp[hy]
  cases y<;>simp[e2,fulB]
 have hx:∀(l:Nat) y,(H.map fulB)[l]? = some y->∃x,H[l]? = some x/\y=fulB x:=by
  intro l y hy;rw[G5]at hy;cases h:H[l]? with
  |none=>rw[h]at hy;cases hy
  |some x=>rw[h]at hy;simp at hy;exact⟨x,rfl,hy.symm⟩
 refine⟨⟨⟨by simpa using hR.hr.len,hR.hr.inj,?_,?_,hR.hr.lt,hR.hr.ilt,hR.hr.jlt,?_,hR.hr.jap⟩,hR.gr,?_,hR.df⟩,kp⟩
 ·intro l b k y hl hy;obtain⟨x,h1,rfl⟩:=hx l y hy;have hb:=(hR.hr.box l b k x hl h1).ext (Fq c w) kp rfl;cases x with
  |cells T cs =>
   obtain⟨vs,h2,h3⟩:=hb;refine⟨vs,h2,⟨by simpa using h3.1,λi v z hv hz=>?_⟩⟩;rw[G5]at hz;cases hc:cs[i]? with
   |none=>rw[hc]at hz;cases hz
   |some u =>
    rw[hc]at hz;simp at hz;subst hz;exact(h3.2 i v u hv hc).ful
  |_=>exact hb
 ·intro l y hl hy;obtain⟨x,h1,rfl⟩:=hx l y hy;rcases hR.hr.non l x hl h1 with⟨m,sz,rfl⟩|rfl
  ·exact .inl ⟨m,sz,rfl⟩
  ·exact .inr rfl
 ·intro b o l k hi hl;obtain⟨m,sz,h1,h2⟩:=hR.hr.iap b o l k hi hl;exact⟨m,sz,by simp[h1,fulB],h2⟩
 ·have ht:=hR.tm.ext (Fq c w) kp;refine⟨by simpa using ht.1,λi v y hv hy=>?_⟩;rw[G5]at hy;cases h:tm[i]? with
  |none=>rw[h]at hy;cases hy
  |some x=>rw[h]at hy;simp at hy;subst hy;exact(ht.2 i v x hv h).ful
theorem PW.ful {code:He}{Q:Post}(h:PW P G rd n code (tm.map fulA) (H.map fulB) Q):PW P G rd n code tm H Q:=by refine⟨λnb c a w hR=>?_⟩;obtain⟨r1,r2⟩:=hR.ful;exact wpIn_mono (h.run nb c a w r1) λe a2 w2 hE=>hE.later (Fq _ _) (r2.cut n)
def WW (P:HP) (G:Nat->IQ (IU D)) (n:Nat) (keep:IU Nat) (hU:IU Box->IU Box) (code:He) (tm:IU AV) (H:IU Box) (Q:Post):Prop :=match rangeParts code with
 |some r=>pw P G (λ_=>none) (.region 0 r.ops false) tm H (gY (λtm1 H1=>Wk n (tm1.map fulA) (H1.map fulB) (gW (r.g::keep) [] 0 (tm1.map fulA)) (hU H1)/\YW P G keep (W9 code) r.g (zY code) (zk code) (zX code) (gW (r.g::keep) [] 0 (tm1.map fulA)) (hU H1) Q) Q)
 |none=>HD
theorem bX (hm:P.follows .mixedOrders=true) {keep:IU Nat}{hU:IU Box->IU Box}{b:He}(hb:isScope b=true) (tm:IU AV) (H:IU Box) (Q:Post) (h:WW P G n keep hU (unScope b) tm H Q):PW P G none n (mkLoop b) tm H Q:=by
 have:mkLoop b=unScope b:=by cases b<;>first|rfl|simp[isScope]at hb
 rw[this];generalize unScope b=code at h;unfold WW at h;split at h
 ·rename_i r hr;have hcode:∃id,code = .seq (.region id r.ops false) (.block r.j (.rangeFunc (.tmp r.g) r.ps r.asn r.bd)):=by
   unfold rangeParts at hr;split at hr
   ·cases hr;exact⟨_,rfl⟩
   ·cases hr
  have ha:zk code=r.asn:=by unfold zk;rw[hr]
  have hb:zX code=r.bd:=by unfold zX;rw[hr]
  have hj:W9 code=r.j:=by unfold W9;rw[hr]
  have hps:zY code=r.ps.toList:=by unfold zY;rw[hr]
  obtain⟨id,rfl⟩:=hcode;rw[ha,hb,hj,hps]at h;have h1:pw P G (λ_=>none) (.region id r.ops false) tm H (gY (λtm1 H1=>Wk n (tm1.map fulA) (H1.map fulB) (gW (r.g::keep) [] 0 (tm1.map fulA)) (hU H1)/\YW P G keep r.j r.g r.ps.toList r.asn r.bd (gW (r.g::keep) [] 0 (tm1.map fulA)) (hU H1) Q) Q):=by simpa only[pw]using h
  refine PW.seq ((yk hm _ tm H _ (λb hb=>by simp[loopsOf]at hb) h1).mono λe tm' H' hq=>?_);cases e with
  |normal=>exact PW.ful (PW.weaken hq.1 (vC _ _ _ _) (jd (n:=n) (ps:=r.ps) hq.2))
  |_=>exact hq
 ·exact h.elim
def bW (P:HP) (it:Nat->IU D->IQ AV) (e:G1->AV) (o:Hp):IQ (Nat×IU D×AV) :=match o.guard,o.op with
 |none,.call { callee:= .value f,args,argTypes:=_ } =>
  match calleeAV (e f)with
  |some (k,[],[]) =>
   if rN P k then
    match (args.toList.map e).mapM avD with
    |some ds=>match it k ds with
     |some av=>some (k,ds,av)
     |none=>none
    |none=>none
   else none
  |_=>none
 |_,_=>none
def YU (P:HP) (G:Nat->IQ (IU D)) (it:Nat->IU D->IQ AV) (ops:IG Hp):IU Hp->IU AV->IU Box->(IU AV->IU Box->Prop)->Prop
 |[],tm,H,K=>K tm H
 |o::rest,tm,H,K =>
  match bW P it (ev G (yc [] tm)) o with
  |some (k,ds,av)=>PFnA P G k ds (λx=>x=av)/\YU P G it ops rest (yP tm o.dst (dull av)) H K
  |none=>dj P G ops o tm H λtm' H'=>YU P G it ops rest tm' H' K
theorem WV {it:Nat->IU D->IQ AV}{o:Hp}{k:Nat}{ds:IU D}{av:AV}{next:HA->H5->Prop}{Q:GW->HA->H5->Prop}(hR:G9 G nb c H w tm a) (hh:bW P it (ev G (yc [] tm)) o=some (k,ds,av)) (h:PFnA P G k ds (λx=>x=av)) (hn:∀v w2 c2,G9 G nb c2 H w2 (yP tm o.dst (dull av)) (a.put o.dst v)->Hs c w c2 w2->zl c H c2 H->next (a.put o.dst v) w2):o.wpIn (vI rd) 0 P a w next Q:=by
 have he:=yF (tags:=[]) hR (λg p h=>by simp[hasTag]at h);unfold bW at hh;split at hh
 ·rename_i f args types hgd hop;split at hh
  ·rename_i k' hcal;split at hh
   ·rename_i hok;split at hh
    ·rename_i ds' hds;split at hh
     ·cases hh;obtain⟨fv,cv,hfv,hargs⟩:=wu (args:=args) he hcal;have hrv:=mapM_avD (by simpa using hds) hargs;refine xJ (by rw[hop];intro d hd;cases hd) (vm hop hfv hok) ?_;refine(h.run { c with ρ:=[] } w _ rfl hR.hr.nil hR.gr hrv).mono λen w2 hen=>?_;obtain⟨v,av',c2,rfl,rfl,hρ2,hext,hhr,hra⟩:=hen;obtain⟨e2,k2,h2⟩:=sK hR.hr hext hhr;have hra2:RA { c2 with ρ:=c.ρ } H w2 _ v:=RA.bare hρ2 hra;exact⟨v,rfl,hn v w2 _ (hR.put e2 k2 h2 o.dst (xS hra2)) e2 k2⟩
     ·cases hh
    ·cases hh
   ·cases hh
  ·cases hh
 ·cases hh
theorem kf {it:Nat->IU D->IQ AV}{ops:IG Hp}{K:IU AV->IU Box->Prop}{Q:GW->HA->H5->Prop}:∀(l:IU Hp) (i:Nat) (c:Cx) (H:IU Box) (w:H5) (tm:IU AV) (a:HA),ops.toList.drop i=l->G9 G nb c H w tm a->YU P G it ops l tm H K->(∀a' w' c' tm' H',K tm' H'->G9 G nb c' H' w' tm' a'->Hs c w c' w'->zl c H c' H'->Q .normal a' w')->wpOpsIn (vI rd) 0 P ops Q (Dk i l.length) a w
 |[],i,c,H,w,tm,a,_,hR,h,hq=>by simpa[wpOpsIn]using hq a w c tm H h hR (Fq _ _) (GV _ _)
 |o::l,i,c,H,w,tm,a,hl,hR,h,hq=>by
  have ho:ops[i]? = some o:=by have:=Gv (λx=>x[0]?) hl;simpa using this
  have hl':ops.toList.drop (i+1)=l:=by have:=Gv zx0 hl;simpa using this
  rw[F2,zyy];unfold YU at h;split at h
  ·rename_i k ds av hmk;obtain⟨hA,hk⟩:=h;rw[wpOpsIn_cons];unfold wpOpIn;rw[ho];simp only;have hgd:o.guard=none:=by
    unfold bW at hmk;split at hmk
    ·assumption
    ·cases hmk
   have hw:Fr o (yielded ops a.tmps)=true:=by simp[Fr,hgd]
   rw[Hv hw];refine WV hR hmk hA λv w2 c2 hR2 e2 k2=>?_;exact kf l (i+1) c2 H w2 _ _ hl' hR2 hk λa3 w3 c3 tm3 H3 q1 q2 q3 q4=>hq a3 w3 c3 tm3 H3 q1 q2 (e2.trans q3) (k2.trans q4)
  ·refine qL ho hR h ?_;intro a' w' c' tm' H' hk hR' e k;exact kf l (i+1) c' H' w' tm' a' hl' hR' hk λa3 w3 c3 tm3 H3 q1 q2 q3 q4=>hq a3 w3 c3 tm3 H3 q1 q2 (e.trans q3) (k.trans q4)
def N5 (P:HP) (G:Nat->IQ (IU D)) (L:Loops) (it:Nat->IU D->IQ AV) (mk:IU Nat):He->IU AV->IU Box->Post->Prop
 |.seq a b,tm,H,Q =>
  match rangeId a b with
  |some _=>pw P G L (.seq a b) tm H Q
  |none=>N5 P G L it mk a tm H (gY (λtm' H'=>N5 P G L it mk b tm' H' Q) Q)
 |.cond x a b,tm,H,Q =>
  match ev G (yc [] tm) x with
  |.d (.bool t)=>is L t (N5 P G L it mk a tm H Q) (N5 P G L it mk b tm H Q)
  |_=>HD
 |.block id b,tm,H,Q=>N5 P G L it mk b tm H (bc id Q)
 |.region id ops dr,tm,H,Q=>if !dr&&hasN mk id then YU P G it ops ops.toList tm H λtm' H'=>Q .normal (zW tm') H' else pw P G L (.region id ops dr) tm H Q
 |c,tm,H,Q=>pw P G L c tm H Q
theorem tn (hm:P.follows .mixedOrders=true) {L:Loops}{it:Nat->IU D->IQ AV}{mk:IU Nat}:∀(code:He) (tm:IU AV) (H:IU Box) (Q:Post),zp P G rd n L (loopsOf code)->N5 P G L it mk code tm H Q->PW P G rd n code tm H Q
 |.seq x y,tm,H,Q,hL,h=>by
  simp only[N5]at h;split at h
  ·exact yk hm _ _ _ _ hL h
  ·rename_i hid;unfold zp at hL;simp only[loopsOf,hid]at hL;have hx:=tn hm x tm H _ (λb hb=>hL b (by simp[hb])) h;refine PW.seq (hx.mono λe tm' H' hq=>?_);cases e with
   |normal=>exact tn hm y tm' H' Q (λb hb=>hL b (by simp[hb])) hq
   |_=>exact hq
 |.cond x p q,tm,H,Q,hL,h=>by
  refine⟨λnb c a w hR=>?_⟩;simp only[N5]at h;unfold zp at hL;simp only[loopsOf]at hL;split at h
  ·rename_i t ht;have hx:=yF (tags:=[]) hR (λg p h=>by simp[hasTag]at h) x;rw[ht]at hx;replace h:=nv h
   refine wpIn_cond_split hx.bool (λe=>?_) (λe=>?_)
   ·exact(tn hm p tm H Q (λb hb=>hL b (by simp[hb])) (h.1 e)).run nb c a w hR
   ·exact(tn hm q tm H Q (λb hb=>hL b (by simp[hb])) (h.2 e)).run nb c a w hR
  ·exact h.elim
 |.block id x,tm,H,Q,hL,h=>PW.block (tn hm x tm H _ (λb hb=>hL b (by simp only[loopsOf];exact hb)) h)
 |.region id ops dr,tm,H,Q,hL,h=>by
  simp only[N5]at h;split at h
  ·rename_i hc;simp only[HC,Fe]at hc;obtain⟨rfl,_⟩:=hc;refine⟨λnb c a w hR=>wpIn_region ?_⟩;rw[Ap,show ops.size=ops.toList.length by simp];exact kf ops.toList 0 c H w tm a (by simp) hR h λa' w' c' tm' H' hk hR' e k=>⟨c',_,H',hk,hR'.clear,e,k.cut n⟩
  ·exact yk hm _ _ _ _ hL h
 |.skip,tm,H,Q,hL,h=>yk hm _ _ _ _ hL h
 |.label _,tm,H,Q,hL,h=>yk hm _ _ _ _ hL h
 |.exit _,tm,H,Q,hL,h=>yk hm _ _ _ _ hL h
 |.ret,tm,H,Q,hL,h=>yk hm _ _ _ _ hL h
 |.loop _,tm,H,Q,hL,h=>yk hm _ _ _ _ hL h
theorem PFn.walkM {f:Fp}{fn:Fs}{code:He}{ds:IU D}{Q:IU D->Prop}(hm:P.follows .mixedOrders=true) (L:Loops) (it:Nat->IU D->IQ AV) (mk:IU Nat) (hf:P.funcs[f]? = some fn) (hb:fn.body=some code) (hex:∃rs,Q rs) (hL:zp P G none 0 L (loopsOf code)) (h:N5 P G L it mk code (wO fn ds) [] (Wa P fn Q)):IK P G f ds Q :=IK.intro hf hb hex (tn hm code _ _ _ hL h)
end
end Go.Sx
namespace Go.Fo
open Go Go.Sx
section
structure Tm where
 kind:Int
 name:IU UInt8
 n:Int
 deriving DecidableEq
structure Bd where
 name:IU UInt8
 sort:Int
 deriving DecidableEq
inductive Fm where
 |mk (kind:Int) (name:IU UInt8) (n:Int) (ts:IU Tm) (bs:IU Bd) (l:IU Fm)
def Fm.kind:Fm->Int
 |.mk k _ _ _ _ _=>k
def Fm.name:Fm->IU UInt8
 |.mk _ s _ _ _ _=>s
def Fm.n:Fm->Int
 |.mk _ _ n _ _ _=>n
def Fm.ts:Fm->IU Tm
 |.mk _ _ _ t _ _=>t
def Fm.bs:Fm->IU Bd
 |.mk _ _ _ _ b _=>b
def Fm.l:Fm->IU Fm
 |.mk _ _ _ _ _ l=>l
def Tm.d (t:Tm):D:= .agg [.int .i64 t.kind,.str t.name,.int .i64 t.n]
def Bd.d (b:Bd):D:= .agg [.str b.name,.int .i64 b.sort]
mutual
def Fm.d:Fm->D
 |.mk k nm n ts bs l=>.agg [.int .i64 k,.str nm,.int .i64 n,.sl (ts.map Tm.d),.sl (bs.map Bd.d),.sl (Fm.ds l)]
def Fm.ds:IU Fm->IU D
 |[]=>[]
 |x::r=>x.d::Fm.ds r
end
theorem Fm.ds_eq:∀l:IU Fm,Fm.ds l=l.map Fm.d
 |[]=>by simp[Fm.ds]
 |x::r=>by simp[Fm.ds,Fm.ds_eq r]
theorem Fm.d_mk (k:Int) (nm:IU UInt8) (n:Int) (ts:IU Tm) (bs:IU Bd) (l:IU Fm):(Fm.mk k nm n ts bs l).d = .agg [.int .i64 k,.str nm,.int .i64 n,.sl (ts.map Tm.d),.sl (bs.map Bd.d),.sl (l.map Fm.d)]:=by rw[Fm.d,Fm.ds_eq]
theorem Fm.d_eq (f:Fm):f.d = .agg [.int .i64 f.kind,.str f.name,.int .i64 f.n,.sl (f.ts.map Tm.d),.sl (f.bs.map Bd.d),.sl (f.l.map Fm.d)]:=by cases f;exact Fm.d_mk _ _ _ _ _ _
section
variable {i:Nat}
theorem YT {ts:IU Tm}{t:Tm}(h:ts[i]? = some t):z1 (ts.map Tm.d) i 0=some (.int .i64 t.kind):=by simp[z1,h,Tm.d,Gq]
theorem gS {ts:IU Tm}{t:Tm}(h:ts[i]? = some t):z1 (ts.map Tm.d) i (0+1)=some (.str t.name):=by simp[z1,h,Tm.d,Gq]
theorem Qj {ts:IU Tm}{t:Tm}(h:ts[i]? = some t):z1 (ts.map Tm.d) i (0+1+1)=some (.int .i64 t.n):=by simp[z1,h,Tm.d,Gq]
theorem xE {bs:IU Bd}{b:Bd}(h:bs[i]? = some b):z1 (bs.map Bd.d) i 0=some (.str b.name):=by simp[z1,h,Bd.d,Gq]
theorem wr {bs:IU Bd}{b:Bd}(h:bs[i]? = some b):z1 (bs.map Bd.d) i (0+1)=some (.int .i64 b.sort):=by simp[z1,h,Bd.d,Gq]
theorem Qi {l:IU Fm}{f:Fm}(h:l[i]? = some f):z1 (l.map Fm.d) i 0=some (.int .i64 f.kind):=by simp[z1,h,Fm.d_eq,Gq]
theorem Qh {l:IU Fm}{f:Fm}(h:l[i]? = some f):z1 (l.map Fm.d) i (0+1)=some (.str f.name):=by simp[z1,h,Fm.d_eq,Gq]
theorem Qg {l:IU Fm}{f:Fm}(h:l[i]? = some f):z1 (l.map Fm.d) i (0+1+1)=some (.int .i64 f.n):=by simp[z1,h,Fm.d_eq,Gq]
theorem Qf {l:IU Fm}{f:Fm}(h:l[i]? = some f):z1 (l.map Fm.d) i (0+1+1+1)=some (.sl (f.ts.map Tm.d)):=by simp[z1,h,Fm.d_eq,Gq]
theorem Qe {l:IU Fm}{f:Fm}(h:l[i]? = some f):z1 (l.map Fm.d) i (0+1+1+1+1)=some (.sl (f.bs.map Bd.d)):=by simp[z1,h,Fm.d_eq,Gq]
theorem Qd {l:IU Fm}{f:Fm}(h:l[i]? = some f):z1 (l.map Fm.d) i (0+1+1+1+1+1)=some (.sl (f.l.map Fm.d)):=by simp[z1,h,Fm.d_eq,Gq]
theorem uS {ts:IU Tm}{t:Tm}(h:ts[i]? = some t):zr [.int .i64,.str,.int .i64] (ts.map Tm.d) i=t.d:=by simp only[zr,Ew,YT h,gS h,Qj h];rfl
theorem w6 {bs:IU Bd}{b:Bd}(h:bs[i]? = some b):zr [.str,.int .i64] (bs.map Bd.d) i=b.d:=by simp only[zr,Ew,xE h,wr h];rfl
theorem wZ {l:IU Fm}{f:Fm}(h:l[i]? = some f):zr [.int .i64,.str,.int .i64,.sl,.sl,.sl] (l.map Fm.d) i=f.d:=by simp only[zr,Ew,Qi h,Qh h,Qg h,Qf h,Qe h,Qd h];rw[Fm.d_eq];rfl
end
mutual
def Fm.rank:Fm->Nat
 |.mk _ _ _ _ _ l=>1+Fm.ranks l
def Fm.ranks:IU Fm->Nat
 |[]=>0
 |x::r=>x.rank+Fm.ranks r
end
theorem Fm.ranks_mem:∀{l:IU Fm}{x:Fm},x∈l->x.rank<=Fm.ranks l
 |y::r,x,h=>by
  rw[Fm.ranks];rcases F5.1 h with rfl|h
  ·omega
  ·have:=Fm.ranks_mem h;omega
theorem Fm.rank_lt {f x:Fm}(h:x∈f.l):x.rank<f.rank:=by
 cases f with
 |mk k nm n ts bs l =>
  have:=Fm.ranks_mem (l:=l) h;rw[Fm.rank];omega
theorem Fm.induct {M:Fm->Prop}(h:∀f,(∀x∈f.l,M x)->M f) (f:Fm):M f:=by
 have:∀n (f:Fm),f.rank<n->M f:=by
  intro n;induction n with
  |zero=>intro f hf;omega
  |succ n ih=>intro f hf;exact h f λx hx=>ih x (by have:=Fm.rank_lt hx;omega)
 exact this _ f (Nat.lt_succ_self _)
theorem pB {α:Type}{l:IU α}{x:Int}(h0:0<=x) (h:x<(l.length:Int)):∃y,l[x.toNat]? = some y/\y∈l:=by
 have hlt:x.toNat<l.length:=by omega
 exact⟨l[x.toNat],by simp[hlt],ED hlt⟩
theorem zx {n:Int}(h0: -9223372036854775808<=n) (h1:n<9223372036854775808):Hr IF.i64 n=n:=by simp only[Hr];simp[IF.signed,IF.bits];omega
end
end Go.Fo
open Go.Fo.Bd renaming d->ID
open Go.Fo.Fm renaming bs->HN,d->HV,induct->Ex,kind->Hj,l->Hz,n->HB,name->HE,rank_lt->zzy,ranks->GB,ts->HM
open Go.Fo.Tm renaming d->Hq,kind->Gh
namespace Go.Fo
open Go Go.Sx Go.Proofs
theorem mixed:Tryz.prog.follows .mixedOrders=true:=by kernel_rfl
def L0:Loops:=λ_=>none
theorem ns {G:Nat->IQ (IU D)}{rd:IQ Nat}{n:Nat}{L:Loops}{code:He}(h:loopsOf code=[]):zp Tryz.prog G rd n L (loopsOf code):=by rw[h];exact zp.nil
section
variable {G:Nat->IQ (IU D)}
def zC (k:Int):Bool:=decide (3<=k)&&decide (k<=9)
def yb (k:Int):Bool:=decide (14<=k)&&decide (k<=17)
def xI (k:Int):Bool:=decide (k=16)||decide (k=17)
def bV (n:Int):Bool:=decide (0<=n)&&decide (n<=1099511627776)
theorem zn (a b:Bool):(bif a then b else false)=(a&&b):=by cases a<;>rfl
theorem zH (a b:Bool):(bif a then true else b)=(a||b):=by cases a<;>rfl
theorem L4 (k:Int):IK Tryz.prog G 218 [.int .i64 k] (· = [.bool (zC k)]):=by
 refine DT (fn:=Tryz.f218) (code:=z6 Tryz.f218) mixed L0 Tryz.func218 (by kernel_rfl) ⟨_,rfl⟩ (ns (by kernel_rfl)) ?_;apply @z7 _ ([IL (bif decide (k>=3)then decide (k<=9)else false)]=[IL (zC k)])
 ·kernel_rfl
 simp only[zn,zC,ge_iff_le]
theorem L5 (k:Int):IK Tryz.prog G 219 [.int .i64 k] (· = [.bool (yb k)]):=by
 refine DT (fn:=Tryz.f219) (code:=z6 Tryz.f219) mixed L0 Tryz.func219 (by kernel_rfl) ⟨_,rfl⟩ (ns (by kernel_rfl)) ?_;apply @z7 _ ([IL (bif decide (k>=14)then decide (k<=17)else false)]=[IL (yb k)])
 ·kernel_rfl
 simp only[zn,yb,ge_iff_le]
theorem Kh (k:Int):IK Tryz.prog G 220 [.int .i64 k] (· = [.bool (xI k)]):=by
 refine DT (fn:=Tryz.f220) (code:=z6 Tryz.f220) mixed L0 Tryz.func220 (by kernel_rfl) ⟨_,rfl⟩ (ns (by kernel_rfl)) ?_;apply @z7 _ ([IL (bif k==16 then true else k==17)]=[IL (xI k)])
 ·kernel_rfl
 simp only[zH,xI];rfl
theorem L6 (k:Int):IK Tryz.prog G 226 [.int .i64 k] (· = [.bool (bV k)]):=by
 refine DT (fn:=Tryz.f226) (code:=z6 Tryz.f226) mixed L0 Tryz.func226 (by kernel_rfl) ⟨_,rfl⟩ (ns (by kernel_rfl)) ?_;apply @z7 _ ([IL (bif decide (k>=0)then decide (k<=1099511627776)else false)]=[IL (bV k)])
 ·kernel_rfl
 simp only[zn,bV,ge_iff_le]
theorem Ni (k:Int):IK Tryz.prog G 205 [.int .i64 k] (· = [.bool (zC k)]):=by
 refine DT (fn:=Tryz.f205) (code:=z6 Tryz.f205) mixed L0 Tryz.func205 (by kernel_rfl) ⟨_,rfl⟩ (ns (by kernel_rfl)) ?_;apply @z7 _ ([IL (bif decide (k>=3)then decide (k<=9)else false)]=[IL (zC k)])
 ·kernel_rfl
 simp only[zn,zC,ge_iff_le]
theorem Kg (k:Int):IK Tryz.prog G 259 [.int .i64 k] (· = [.bool (yb k)]):=by
 refine DT (fn:=Tryz.f259) (code:=z6 Tryz.f259) mixed L0 Tryz.func259 (by kernel_rfl) ⟨_,rfl⟩ (ns (by kernel_rfl)) ?_;apply @z7 _ ([IL (bif decide (k>=14)then decide (k<=17)else false)]=[IL (yb k)])
 ·kernel_rfl
 simp only[zn,yb,ge_iff_le]
def qG (s:IU UInt8):Bool:=s==[61]||s==[33,61]||s==[60]||s==[60,61]||s==[62]||s==[62,61]
theorem Kf (s:IU UInt8):IK Tryz.prog G 258 [.str s] (· = [.bool (qG s)]):=by
 refine DT (fn:=Tryz.f258) (code:=z6 Tryz.f258) mixed L0 Tryz.func258 (by kernel_rfl) ⟨_,rfl⟩ (ns (by kernel_rfl)) ?_;apply @z7 _ ([IL (bif bif bif bif bif s==Gx (Gy (Gu #[(61:UInt8)]))then true else s==Gx (Gy (Gu #[(33:UInt8),(61:UInt8)]))then true else s==Gx (Gy (Gu #[(60:UInt8)]))then true else s==Gx (Gy (Gu #[(60:UInt8),(61:UInt8)]))then true else s==Gx (Gy (Gu #[(62:UInt8)]))then true else s==Gx (Gy (Gu #[(62:UInt8),(61:UInt8)])))]=[IL (qG s)])
 ·kernel_rfl
 simp only[zH,qG]
def L7 (s:IU UInt8):IU UInt8 :=if s==[61]then [33,61]else if s==[33,61]then [61]else if s==[60]then [62,61]else if s==[62,61]then [60]else if s==[60,61]then [62]else [60,61]
def yi (k:Int):Int :=if k=10∨k=14∨k=15∨k=16∨k=17 then 1 else if k=11∨k=12∨k=13 then 2 else if k=1∨k=2∨zC k=true then 0 else -1
abbrev YS (a:Int):IU D:=[IP .i64 (yi a)]
abbrev dU (a:Int):Prop:=[IP .i64 1]=YS a
abbrev UH (a:Int):Prop:=[IP .i64 2]=YS a
abbrev UG (a:Nat->IQ (IU D)) (b:Int):Prop:=IK Tryz.prog a 205 [IP .i64 b] λ(rs:IU D)=>∃(b_1:Bool),rs=[IL b_1]/\((bif bif b==1 then true else b==2 then true else b_1)=true->[IP .i64 0]=YS b)/\((bif bif b==1 then true else b==2 then true else b_1)=false->[IP .i64 (-1)]=YS b)
abbrev dT (a:Int) (b:Nat->IQ (IU D)):Prop:=((a==11)=true->((a==11)=true->UH a)/\((a==11)=false->UG b a))/\((a==11)=false->((a==12)=true->((a==12)=true->UH a)/\((a==12)=false->UG b a))/\((a==12)=false->((a==13)=true->UH a)/\((a==13)=false->UG b a)))
theorem Ke (k:Int):IK Tryz.prog G 240 [.int .i64 k] (· = [.int .i64 (yi k)]):=by
 refine DT (fn:=Tryz.f240) (code:=z6 Tryz.f240) mixed L0 Tryz.func240 (by kernel_rfl) ⟨_,rfl⟩ (ns (by kernel_rfl)) ?_;apply @z7 _ (((k==10)=true->((k==10)=true->dU k)/\((k==10)=false->dT k G))/\((k==10)=false->((k==14)=true->((k==14)=true->dU k)/\((k==14)=false->dT k G))/\((k==14)=false->((k==15)=true->((k==15)=true->dU k)/\((k==15)=false->dT k G))/\((k==15)=false->((k==16)=true->((k==16)=true->dU k)/\((k==16)=false->dT k G))/\((k==16)=false->((k==17)=true->dU k)/\((k==17)=false->dT k G))))))
 ·kernel_rfl
 delta dU YS dT UH UG;repeat' first|refine And.intro ?_ ?_|intro _
 all_goals first
  |(simp_all[yi];done)
  |(refine(Ni k).mono ?_;rintro rs rfl;refine⟨_,rfl,?_⟩;simp_all[yi];done)
  |(refine(Ni k).mono ?_;rintro rs rfl;refine⟨_,rfl,λh=>?_,λh=>?_⟩<;>simp_all[yi,or_assoc];done)
def UF (f:Fm):Bool:=f.kind==1||(f.kind==16&&f.n==0)||(f.kind==17&&f.n==1099511627776)
end
section
variable {G:Nat->IQ (IU D)}{rd:IQ Nat}{n:Nat}{P:HP}
theorem zq {f:Fp}{fn:Fs}{ds:IU D}{Q:IU D->Prop}(hf:Tryz.prog.funcs[f]? = some fn) (hex:∃rs,Q rs) (h:pw Tryz.prog G L0 (z6 fn) (wO fn ds) [] (Wa Tryz.prog fn Q)) (hb:fn.body=some (z6 fn):=by kernel_rfl) (hl:loopsOf (z6 fn)=[]:=by kernel_rfl):IK Tryz.prog G f ds Q :=DT mixed L0 hf hb hex (ns hl) h
theorem zu {f:Fp}{fn:Fs}{ds:IU D}{Q:IU D->Prop}(L:Loops) (hf:Tryz.prog.funcs[f]? = some fn) (hex:∃rs,Q rs) (hL:zp Tryz.prog G none 0 L (loopsOf (z6 fn))) (h:pw Tryz.prog G L (z6 fn) (wO fn ds) [] (Wa Tryz.prog fn Q)) (hb:fn.body=some (z6 fn):=by kernel_rfl):IK Tryz.prog G f ds Q :=DT mixed L hf hb hex hL h
theorem zB {f:Fp}{fn:Fs}{aas:IU AV}{H:IU Box}{Q:IU D->IU Box->Prop}(hf:Tryz.prog.funcs[f]? = some fn) (hp:aas.all plainAV=true) (hex:∃rs H',Q rs H') (h:pw Tryz.prog G L0 (z6 fn) (startA fn aas) H (R5 Tryz.prog fn H.length Q)) (hb:fn.body=some (z6 fn):=by kernel_rfl) (hl:loopsOf (z6 fn)=[]:=by kernel_rfl):HY Tryz.prog G f aas H Q :=zvs mixed L0 hf hb hp hex (ns hl) h
theorem zZ {f:Fp}{fn:Fs}{aas:IU AV}{H:IU Box}{Q:IU D->IU Box->Prop}(L:Loops) (hf:Tryz.prog.funcs[f]? = some fn) (hp:aas.all plainAV=true) (hex:∃rs H',Q rs H') (hL:zp Tryz.prog G none H.length L (loopsOf (z6 fn))) (h:pw Tryz.prog G L (z6 fn) (startA fn aas) H (R5 Tryz.prog fn H.length Q)) (hb:fn.body=some (z6 fn):=by kernel_rfl):HY Tryz.prog G f aas H Q :=zvs mixed L hf hb hp hex hL h
theorem zt {code:He}{i1:Nat}{W1:LW}(h1:yD P G rd n (z8 code 0) W1) (h:loopsOf code=[z8 code 0]:=by kernel_rfl) (e1:LL [(i1,W1)] (loopId (z8 code 0))=some W1:=by kernel_rfl):zp P G rd n (LL [(i1,W1)]) (loopsOf code) :=zp.one h e1 h1
theorem pA {code:He}{i1 i2:Nat}{W1 W2:LW}(h1:yD P G rd n (z8 code 0) W1) (h2:yD P G rd n (z8 code 1) W2) (h:loopsOf code=[z8 code 0,z8 code 1]:=by kernel_rfl) (e1:LL [(i1,W1),(i2,W2)] (loopId (z8 code 0))=some W1:=by kernel_rfl) (e2:LL [(i1,W1),(i2,W2)] (loopId (z8 code 1))=some W2:=by kernel_rfl):zp P G rd n (LL [(i1,W1),(i2,W2)]) (loopsOf code) :=zp.two h e1 e2 h1 h2
theorem tw {L:Loops}{code:He}(h:loopsOf code=[]:=by kernel_rfl):zp Tryz.prog G rd n L (loopsOf code):=ns h
theorem zz {α:Type}{L:Loops}{body:He}{keep:IU Nat}{Inv:α->Prop}{m:α->Nat}{tmU:α->IU (Nat×AV)}{hU:IU Box->α->IU Box}(h:loopsOf body=[]:=by kernel_rfl):yD Tryz.prog G rd n body (ze Tryz.prog G L n body keep Inv m tmU hU):=YX mixed (ns h)
end
section
theorem qd {l:IU Fm}{i:Nat}{z:Fm}(h:l[i]? = some z):GB (l.take (i+1))=GB (l.take i)+z.rank:=by
 induction l generalizing i with
 |nil=>simp at h
 |cons y r ih =>
  cases i with
  |zero=>simp at h;subst h;simp[GB]
  |succ i=>simp at h;simp only[FM,GB];rw[ih h];omega
theorem nr (l:IU Fm) (i:Nat):GB (l.take i)<=GB l:=by
 induction l generalizing i with
 |nil=>simp
 |cons y r ih =>
  cases i with
  |zero=>simp[GB]
  |succ i=>simp only[FM,GB];have:=ih i;omega
theorem Fm.rank_eq (f:Fm):f.rank=1+GB f.l:=by cases f;rfl
theorem o0 (l:IU Fm):l.length<=GB l:=by
 induction l with
 |nil=>simp[GB]
 |cons y r ih =>
  have:=y.rank_eq;simp only[GB,F2];omega
theorem zw {α:Type}{l:IU α}{x:Nat}(h:x<l.length):∃y,l[x]? = some y/\y∈l:=⟨l[x],by simp[h],ED h⟩
mutual
def Fm.depth:Fm->Nat
 |.mk _ _ _ _ _ l=>Fm.depths l+1
def Fm.depths:IU Fm->Nat
 |[]=>0
 |x::r=>max x.depth (Fm.depths r)
end
theorem sF {l:IU Fm}{i:Nat}{z:Fm}(h:l[i]? = some z):Fm.depths (l.take (i+1))=max (Fm.depths (l.take i)) z.depth:=by
 induction l generalizing i with
 |nil=>simp at h
 |cons y r ih =>
  cases i with
  |zero=>simp at h;subst h;simp[Fm.depths]
  |succ i=>simp at h;simp only[FM,Fm.depths];rw[ih h];omega
theorem Fm.depth_eq (f:Fm):f.depth=Fm.depths f.l+1:=by cases f;rfl
theorem R6 {l:IU Fm}(h:∀x∈l,x.depth<=x.rank):Fm.depths l<=GB l:=by
 induction l with
 |nil=>simp[Fm.depths]
 |cons y r ih =>
  simp only[Fm.depths,GB];have h1:=h y (by simp);have h2:=ih λx hx=>h x (by simp[hx]);omega
theorem Fm.depth_le (f:Fm):f.depth<=f.rank:=by
 induction f using Ex with
 |h f ih=>rw[f.depth_eq,f.rank_eq];have:=R6 ih;omega
section
variable {G:Nat->IQ (IU D)}
abbrev gR (a:Nat) (b:Fm):Int:=(1:Int)+(↑(GB (HZ a (Hz b))):Int)
abbrev mK (a:Fm):Prop:=(Hj a=Hj a/\HE a=HE a/\HB a=HB a/\IT Hq (HM a)=IT Hq (HM a)/\IT ID (HN a)=IT ID (HN a)/\IT HV (Hz a)=IT HV (Hz a)/\IN)/\IN
abbrev mJ (a:Nat) (b:Fm):Bool:=decide ((a:Int)<(↑(IR (IT HV (Hz b))):Int))
abbrev mI (a:Fm) (b:Nat):D:=zr [HX .i64,HI,HX .i64,HK,HK,HK] (IT HV (Hz a)) (IJ (b:Int))
theorem L8 (f:Fm) (hf:f.rank<4611686018427387904):IK Tryz.prog G 80 [f.d] (· = [.int .i64 f.rank]):=by
 induction f using Ex with
 |h f ih =>
 have hr:=f.rank_eq;rw[f.d_eq];refine zu (LL [(3,ze (α:=Nat) Tryz.prog G L0 0 (z8 (z6 Tryz.f80) 0) [1] (λx=>x<=f.l.length) (λx=>f.l.length - x) (λx=>[(3,.d (.int .i64 (1+(GB (f.l.take x):Int)))),(4,.d (.int .i64 x))]) (λH _=>H))]) Tryz.func80 ⟨_,rfl⟩ (zt zz) ?_
 ·apply @z7 _ (∃(x0:Nat),x0<=IR (Hz f)/\((IA 0 0=IA 0 0/\1=gR x0 f/\(0:Int)=(x0:Int)/\IN)/\mK f)/\∀(x:Nat),x<=IR (Hz f)->(mJ x f=true->((0:Int)<=(x:Int)/\(IT HV (Hz f))[IJ (x:Int)]? = some (mI f x))/\IK Tryz.prog G 80 [mI f x] λ(rs:IU D)=>∃(n:Int),rs=[IP .i64 n]/\∃(y:Nat),y<=IR (Hz f)/\IR (Hz f) - y<IR (Hz f) - x/\(IA 0 0=IA 0 0/\Hr .i64 (gR x f+n)=gR y f/\Hr .i64 ((x:Int)+1)=(y:Int)/\IN)/\mK f)/\(mJ x f=false->[IP .i64 (gR x f)]=[IP .i64 (↑(Fm.rank f):Int)]))
  ·kernel_rfl
  delta gR mK mJ mI;refine⟨0,by omega,by simp[GB],λx hx=>⟨λhlt=>?_,λhge=>?_⟩⟩
  ·simp only[H4,HS]at hlt;obtain⟨z,hz,hm⟩:=zw (l:=f.l) (x:=x) (by omega);simp only[HF];rw[wZ hz];refine⟨⟨by omega,by simp[hz]⟩,?_⟩;have hzr:=zzy hm;refine(ih z hm (by omega)).mono ?_;rintro rs rfl;have h1:=qd hz;have h2:=nr f.l (x+1);have h3:=o0 f.l;refine⟨_,rfl,x+1,by omega,by omega,?_⟩;rw[zx (by omega) (by omega),zx (by omega) (by omega)];simp only[true_and,and_true];refine⟨?_,?_⟩<;>omega
  ·simp only[H4,HH]at hge;have:x=f.l.length:=by omega
   subst this;rw[FR,hr];simp
abbrev qc (a:Nat) (b:Fm):Int:=(↑(Fm.depths (HZ a (Hz b))):Int)
theorem Kd (f:Fm) (hf:f.rank<4611686018427387904):IK Tryz.prog G 203 [f.d] (· = [.int .i64 f.depth]):=by
 induction f using Ex with
 |h f ih =>
 have hr:=f.rank_eq;have hd:=f.depth_eq;have hdl:=f.depth_le;rw[f.d_eq];refine zu (LL [(3,ze (α:=Nat) Tryz.prog G L0 0 (z8 (z6 Tryz.f203) 0) [1] (λx=>x<=f.l.length) (λx=>f.l.length - x) (λx=>[(3,.d (.int .i64 (Fm.depths (f.l.take x):Int))),(4,.d (.int .i64 x))]) (λH _=>H))]) Tryz.func203 ⟨_,rfl⟩ (zt zz) ?_;apply @z7 _ (∃(x0:Nat),x0<=IR (Hz f)/\((IA 0 0=IA 0 0/\0=qc x0 f/\(0:Int)=(x0:Int)/\IN)/\mK f)/\∀(x:Nat),x<=IR (Hz f)->(mJ x f=true->((0:Int)<=(x:Int)/\(IT HV (Hz f))[IJ (x:Int)]? = some (mI f x))/\IK Tryz.prog G 203 [mI f x] λ(rs:IU D)=>∃(n:Int),rs=[IP .i64 n]/\∃(y:Nat),y<=IR (Hz f)/\IR (Hz f) - y<IR (Hz f) - x/\(IA 0 0=IA 0 0/\(if n>qc x f then n else qc x f)=qc y f/\Hr .i64 ((x:Int)+1)=(y:Int)/\IN)/\mK f)/\(mJ x f=false->[IP .i64 (Hr .i64 (qc x f+1))]=[IP .i64 (↑(Fm.depth f):Int)]))
 ·kernel_rfl
 delta qc mK gR mJ mI;refine⟨0,by omega,by simp[Fm.depths],λx hx=>⟨λhlt=>?_,λhge=>?_⟩⟩
 ·simp only[H4,HS]at hlt;obtain⟨z,hz,hm⟩:=zw (l:=f.l) (x:=x) (by omega);simp only[HF];rw[wZ hz];refine⟨⟨by omega,by simp[hz]⟩,?_⟩;have hzr:=zzy hm;refine(ih z hm (by omega)).mono ?_;rintro rs rfl;have h1:=sF hz;have h3:=o0 f.l;refine⟨_,rfl,x+1,by omega,by omega,?_⟩;rw[zx (by omega) (by omega)];simp only[true_and,and_true];refine⟨?_,?_⟩
  ·rw[h1];omega
  ·omega
 ·simp only[H4,HH]at hge;have:x=f.l.length:=by omega
  subst this;rw[FR,zx (by omega) (by omega),hd];simp
theorem Kc (f:Fm) (hf:f.rank<4611686018427387904):IK Tryz.prog G 192 [f.d] (· = [.int .i64 f.depth]):=by
 induction f using Ex with
 |h f ih =>
 have hr:=f.rank_eq;have hd:=f.depth_eq;have hdl:=f.depth_le;rw[f.d_eq];refine zu (LL [(3,ze (α:=Nat) Tryz.prog G L0 0 (z8 (z6 Tryz.f192) 0) [1,7,8] (λx=>x<=f.l.length) (λx=>f.l.length - x) (λx=>[(3,.d (.int .i64 (Fm.depths (f.l.take x):Int))),(9,.d (.int .i64 x))]) (λH _=>H))]) Tryz.func192 ⟨_,rfl⟩ (zt zz) ?_;apply @z7 _ (∃(x0:Nat),x0<=IR (Hz f)/\((IA 0 0=IA 0 0/\0=qc x0 f/\IT HV (Hz f)=IT HV (Hz f)/\(↑(IR (IT HV (Hz f))):Int)=(↑(IR (IT HV (Hz f))):Int)/\(0:Int)=(x0:Int)/\IN)/\mK f)/\∀(x:Nat),x<=IR (Hz f)->(mJ x f=true->((0:Int)<=(x:Int)/\(IT HV (Hz f))[IJ (x:Int)]? = some (mI f x))/\IK Tryz.prog G 192 [mI f x] λ(rs:IU D)=>∃(n:Int),rs=[IP .i64 n]/\∃(y:Nat),y<=IR (Hz f)/\IR (Hz f) - y<IR (Hz f) - x/\(IA 0 0=IA 0 0/\(if n>qc x f then n else qc x f)=qc y f/\IT HV (Hz f)=IT HV (Hz f)/\(↑(IR (IT HV (Hz f))):Int)=(↑(IR (IT HV (Hz f))):Int)/\Hr .i64 ((x:Int)+1)=(↑y: Int)/\IN)/\mK f)/\(mJ x f=false->[IP .i64 (Hr .i64 (qc x f+1))]=[IP .i64 (↑(Fm.depth f):Int)]))
 ·kernel_rfl
 delta qc mK gR mJ mI;refine⟨0,by omega,by simp[Fm.depths],λx hx=>⟨λhlt=>?_,λhge=>?_⟩⟩
 ·simp only[H4,HS]at hlt;obtain⟨z,hz,hm⟩:=zw (l:=f.l) (x:=x) (by omega);simp only[HF];rw[wZ hz];refine⟨⟨by omega,by simp[hz]⟩,?_⟩;have hzr:=zzy hm;refine(ih z hm (by omega)).mono ?_;rintro rs rfl;have h1:=sF hz;have h3:=o0 f.l;refine⟨_,rfl,x+1,by omega,by omega,?_⟩;rw[zx (by omega) (by omega)];simp only[true_and,and_true];refine⟨?_,?_⟩
  ·rw[h1];omega
  ·omega
 ·simp only[H4,HH]at hge;have:x=f.l.length:=by omega
  subst this;rw[FR,zx (by omega) (by omega),hd];simp
end
end
def YR (ts:IU Tm):Nat:=(ts.map λt=>t.name.length).sum
def bU (bs:IU Bd):Nat:=(bs.map λb=>b.name.length).sum
mutual
def Fm.wt:Fm->Nat
 |.mk _ s _ ts bs l=>1+s.length+ts.length+bs.length+YR ts+bU bs+Fm.wts l
def Fm.wts:IU Fm->Nat
 |[]=>0
 |x::r=>x.wt+Fm.wts r
end
theorem Fm.wt_eq (f:Fm):f.wt=1+f.name.length+f.ts.length+f.bs.length+YR f.ts+bU f.bs+Fm.wts f.l:=by cases f;rfl
theorem bT {l:IU Fm}{x:Fm}(h:x∈l):x.wt<=Fm.wts l:=by
 induction l with
 |nil=>cases h
 |cons y r ih =>
  simp only[Fm.wts];rcases F5.1 h with rfl|h
  ·omega
  ·have:=ih h;omega
theorem Fm.wt_lt {f x:Fm}(h:x∈f.l):x.wt<f.wt:=by have:=bT h;have:=f.wt_eq;omega
theorem Fm.rank_le_wt (f:Fm):f.rank<=f.wt:=by
 induction f using Ex with
 |h f ih =>
  rw[f.rank_eq,f.wt_eq];have:∀l:IU Fm,(∀x∈l,x.rank<=x.wt)->GB l<=Fm.wts l:=by
   intro l;induction l with
   |nil=>simp[GB]
   |cons y r ih2 =>
    intro h;simp only[GB,Fm.wts];have h1:=h y (by simp);have h2:=ih2 λx hx=>h x (by simp[hx]);omega
  have:=this f.l ih;omega
theorem rG (l:IU Fm):l.length<=Fm.wts l:=by
 induction l with
 |nil=>simp[Fm.wts]
 |cons y r ih =>
  have:=y.wt_eq;simp only[Fm.wts,F2];omega
mutual
def Fm.beq:Fm->Fm->Bool
 |.mk k s n ts bs l,.mk k' s' n' ts' bs' l'=>k==k'&&s==s'&&n==n'&&ts==ts'&&bs==bs'&&Fm.beqs l l'
def Fm.beqs:IU Fm->IU Fm->Bool
 |[],[]=>true
 |x::r,y::q=>x.beq y&&Fm.beqs r q
 |_,_=>false
end
section
variable {G:Nat->IQ (IU D)}
end
section
variable {G:Nat->IQ (IU D)}
end
section
variable {G:Nat->IQ (IU D)}
end
def xa (t s:IU UInt8):Bool:=(Gp (t.length+1)).any λi=>decide (i+s.length<=t.length)&&((t.drop i).take s.length==s)
theorem vz {t s:IU UInt8}:xa t s=true↔ ∃i,i+s.length<=t.length/\(t.drop i).take s.length=s:=by
 simp only[xa,Dr,Fz,HC,HS,beq_iff_eq];constructor
 ·rintro⟨i,_,h⟩;exact⟨i,h⟩
 ·rintro⟨i,h⟩;exact⟨i,by omega,h⟩
def d6 (c:UInt8):Bool:=decide (97<=c.toNat)&&decide (c.toNat<=122)
def WU (c:UInt8):Bool:=decide (48<=c.toNat)&&decide (c.toNat<=57)
def oH (i:Nat) (c:UInt8):Bool:=d6 c||(decide (i≠0)&&(WU c||decide (c.toNat=95)))
def vy (s:IU UInt8):Bool:=(Gp s.length).all (λi=>oH i (s.getD i 0))&&decide (1<=s.length)&&decide (s.length<=64)
section
variable {G:Nat->IQ (IU D)}
abbrev UE (a:Nat) (b:IU UInt8) (c:IU UInt8):Prop:=a<=IR b+1/\∀(i:Nat),i<a->¬(i+IR c<=IR b/\HZ (IR c) (GM i b)=c)
abbrev UD (a:Nat) (b:IU UInt8):Int:=Hr .i64 ((a:Int)+(↑(IR b):Int))
abbrev Qc (a:Nat) (b:IU UInt8) (c:IU UInt8):Prop:=UD a b<=(↑(IR c):Int)
abbrev Qb (a:Nat) (b:IU UInt8) (c:IU UInt8):Bool:=decide (Qc a b c)
abbrev Qa (a:Nat) (b:IU UInt8) (c:IU UInt8):Bool:=GM (IJ (a:Int)) (HZ (IJ (UD a b)) c)==b
theorem Kb (t s:IU UInt8) (ht:t.length<2305843009213693952) (hs:s.length<4611686018427387906):IK Tryz.prog G 201 [.str t,.str s] (· = [.bool (xa t s)]):=by
 refine zu (LL [(2,ze (α:=Nat) Tryz.prog G L0 0 (z8 (z6 Tryz.f201) 0) [0,1] (λx=>x<=t.length+1/\∀i,i<x->¬ (i+s.length<=t.length/\(t.drop i).take s.length=s)) (λx=>t.length+1 - x) (λx=>[(5,.d (.int .i64 x))]) (λH _=>H))]) Tryz.func201 ⟨_,rfl⟩ (zt zz) ?_;apply @z7 _ (∃(x0:Nat),UE x0 t s/\((t=t/\s=s/\(0:Int)=(x0:Int)/\IN)/\IN)/\∀(x:Nat),UE x t s->(Qb x s t=true->((0:Int)<=(x:Int)/\(x:Int)<=UD x s/\Qc x s t)/\(Qa x s t=true->[IL true]=[IL (xa t s)])/\(Qa x s t=false->∃(y:Nat),UE y t s/\IR t+1 - y<IR t+1 - x/\(t=t/\s=s/\Hr .i64 ((x:Int)+1)=(y:Int)/\IN)/\IN))/\(Qb x s t=false->[IL false]=[IL (xa t s)]))
 ·kernel_rfl
 delta UE Qb Qc UD Qa;refine⟨0,⟨by omega,λi hi=>by omega⟩,by simp,λx hx=>?_⟩;rw[zx (by omega) (by omega)];have hcut:(x+s.length<=t.length)->GM x (HZ (x+s.length) t)=HZ s.length (GM x t):=λ_=>by rw[IU.drop_take];congr 1;omega
 refine⟨λhlt=>?_,λhge=>?_⟩
 ·simp only[HS]at hlt;have e1:(IJ ((x:Int)+(s.length:Int)))=x+s.length:=by omega
  rw[e1,HF,hcut (by omega)];refine⟨⟨by omega,by omega,by omega⟩,λh=>?_,λh=>?_⟩
  ·rw[vz.2 ⟨x,by omega,by simpa using h⟩]
  ·refine⟨x+1,⟨by omega,λi hi=>?_⟩,by omega,?_⟩
   ·rcases G4 i x with h1|h1
    ·exact hx.2 i h1
    ·have:i=x:=by omega
     subst this;rintro⟨_,h2⟩;simp[h2]at h
   ·rw[zx (by omega) (by omega)];simp
 ·simp only[HH]at hge;have:xa t s=false:=by
   cases hb:xa t s with
   |false=>rfl
   |true =>
    obtain⟨i,h1,h2⟩:=vz.1 hb;exact Hu ⟨h1,h2⟩ (hx.2 i (by omega))
  rw[this]
abbrev UC (a:Nat) (b:IU UInt8):Prop:=a<=IR b/\∀(i:Nat),i<a->oH i (DF b i (0:UInt8))=true
abbrev dS (a:IU UInt8) (b:Nat):Int:=(↑(UInt8.toNat (DF a (IJ (b:Int)) (0:UInt8))):Int)
abbrev QZ (a:IU UInt8) (b:Nat):Bool:=bif !bif decide (dS a b>=97)then decide (dS a b<=122)else false then bif (b:Int)==0 then true else bif !bif decide (dS a b>=48)then decide (dS a b<=57)else false then dS a b != 95 else false else false
theorem Ka (s:IU UInt8) (hs:s.length<4611686018427387904):IK Tryz.prog G 200 [.str s] (· = [.bool (vy s)]):=by
 refine zu (LL [(2,ze (α:=Nat) Tryz.prog G L0 0 (z8 (z6 Tryz.f200) 0) [0] (λx=>x<=s.length/\∀i,i<x->oH i (s.getD i 0)=true) (λx=>s.length - x) (λx=>[(3,.d (.int .i64 x))]) (λH _=>H))]) Tryz.func200 ⟨_,rfl⟩ (zt zz) ?_;apply @z7 _ (∃(x0:Nat),UC x0 s/\((s=s/\(0:Int)=(x0:Int)/\IN)/\IN)/\∀(x:Nat),UC x s->(decide ((x:Int)<(↑(IR s):Int))=true->((0:Int)<=(x:Int)/\IJ (x:Int)<IR s)/\(QZ s x=true->[IL false]=[IL (vy s)])/\(QZ s x=false->∃(y:Nat),UC y s/\IR s - y<IR s - x/\(s=s/\Hr .i64 ((x:Int)+1)=(y:Int)/\IN)/\IN))/\(decide ((x:Int)<(↑(IR s):Int))=false->[IL (bif decide ((↑(IR s):Int)>=1)then decide ((↑(IR s):Int)<=64)else false)]=[IL (vy s)]))
 ·kernel_rfl
 delta UC QZ dS;refine⟨0,⟨by omega,λi hi=>by omega⟩,by simp,λx hx=>⟨λhlt=>?_,λhge=>?_⟩⟩
 ·simp only[HS]at hlt;have e0:((x:Int)==0)=decide (x=0):=by rw[Ge];simp
  have e:(bif !bif decide ((↑(s.getD x 0).toNat:Int)>=97)then decide ((↑(s.getD x 0).toNat:Int)<=122)else false then bif (x:Int)==0 then true else bif !bif decide ((↑(s.getD x 0).toNat:Int)>=48)then decide ((↑(s.getD x 0).toNat:Int)<=57)else false then(↑(s.getD x 0).toNat:Int) != 95 else false else false) = !oH x (s.getD x 0):=by rw[e0];simp only[oH,d6,WU,zn,zH];generalize (s.getD x 0).toNat=c;rw[Ge];simp;omega
  simp only[HF];rw[e];refine⟨⟨by omega,by omega⟩,λh=>?_,λh=>?_⟩
  ·have:vy s=false:=by
    cases hb:vy s with
    |false=>rfl
    |true =>
     simp only[vy,HC,G3,Fz]at hb;rw[hb.1.1 x (by omega)]at h;cases h
   rw[this]
  ·refine⟨x+1,⟨by omega,λi hi=>?_⟩,by omega,?_⟩
   ·rcases G4 i x with h1|h1
    ·exact hx.2 i h1
    ·have:i=x:=by omega
     subst this;simpa using h
   ·rw[zx (by omega) (by omega)];simp
 ·simp only[HH]at hge;have hall:(Gp s.length).all (λi=>oH i (s.getD i 0))=true:=by rw[G3];intro i hi;exact hx.2 i (by have:=Fz.1 hi;omega)
  have h1:decide ((s.length:Int)>=1)=decide (1<=s.length):=by rw[Ge];simp;omega
  have h2:decide ((s.length:Int)<=64)=decide (s.length<=64):=by rw[Ge];simp;omega
  rw[zn,h1,h2,vy,hall,EB]
def resS:IU UInt8:=[32,104,97,114,100,32,115,111,102,116,32,101,97,99,104,32,97,108,108,32,115,111,109,101,32,108,101,97,115,116,32,109,111,115,116,32,116,114,117,101,32,102,97,108,115,101,32,97,116,32,105,110,32,116,101,97,99,104,101,115,32,97,116,116,101,110,100,115,32,97,119,97,121,32,115,104,117,116,32,100,97,121,32,104,111,117,114,32,104,111,117,115,101,32,115,101,97,116,115,32,115,105,122,101,32,108,101,115,115,111,110,32,115,108,111,116,32,114,111,111,109,32,112,101,114,115,111,110,32,103,114,111,117,112,32]
def yw (s:IU UInt8):Bool:=vy s&& !xa resS (32::s++[32])
abbrev f69q1:IU UInt8:=Gx (Gy (Gu #[(32:UInt8)]))
abbrev f69q2:Nat:=IR f69q1
theorem Nh (s:IU UInt8) (hs:s.length<4611686018427387904):IK Tryz.prog G 172 [.str s] (· = [.bool (yw s)]):=by
 refine zq Tryz.func172 ⟨_,rfl⟩ ?_;apply @z7 _ (IK Tryz.prog G 200 [HW s] λ(rs:IU D)=>∃(b:Bool),rs=[IL b]/\(b=true->Nat.le (f69q2+IR s) 9223372036854775807)/\(b=true->Nat.le (IR (f69q1++s)+f69q2) 9223372036854775807)/\IK Tryz.prog G 201 [HW (Gx (Gy (Gu (IU.toArray (D9 (D9 [(32:UInt8),(104:UInt8),(97:UInt8),(114:UInt8),(100:UInt8),(32:UInt8),(115:UInt8),(111:UInt8),(102:UInt8),(116:UInt8),(32:UInt8),(101:UInt8),(97:UInt8),(99:UInt8),(104:UInt8),(32:UInt8),(97:UInt8),(108:UInt8),(108:UInt8),(32:UInt8),(115:UInt8),(111:UInt8),(109:UInt8),(101:UInt8),(32:UInt8),(108:UInt8),(101:UInt8),(97:UInt8),(115:UInt8),(116:UInt8),(32:UInt8),(109:UInt8),(111:UInt8)] [(115:UInt8),(116:UInt8),(32:UInt8),(116:UInt8),(114:UInt8),(117:UInt8),(101:UInt8),(32:UInt8),(102:UInt8),(97:UInt8),(108:UInt8),(115:UInt8),(101:UInt8),(32:UInt8),(97:UInt8),(116:UInt8),(32:UInt8),(105:UInt8),(110:UInt8),(32:UInt8),(116:UInt8),(101:UInt8),(97:UInt8),(99:UInt8),(104:UInt8),(101:UInt8),(115:UInt8),(32:UInt8),(97:UInt8),(116:UInt8),(116:UInt8),(101:UInt8),(110:UInt8),(100:UInt8)]) (D9 [(115:UInt8),(32:UInt8),(97:UInt8),(119:UInt8),(97:UInt8),(121:UInt8),(32:UInt8),(115:UInt8),(104:UInt8),(117:UInt8),(116:UInt8),(32:UInt8),(100:UInt8),(97:UInt8),(121:UInt8),(32:UInt8),(104:UInt8),(111:UInt8),(117:UInt8),(114:UInt8),(32:UInt8),(104:UInt8),(111:UInt8),(117:UInt8),(115:UInt8),(101:UInt8),(32:UInt8),(115:UInt8),(101:UInt8),(97:UInt8),(116:UInt8),(115:UInt8),(32:UInt8),(115:UInt8)] [(105:UInt8),(122:UInt8),(101:UInt8),(32:UInt8),(108:UInt8),(101:UInt8),(115:UInt8),(115:UInt8),(111:UInt8),(110:UInt8),(32:UInt8),(115:UInt8),(108:UInt8),(111:UInt8),(116:UInt8),(32:UInt8),(114:UInt8),(111:UInt8),(111:UInt8),(109:UInt8),(32:UInt8),(112:UInt8),(101:UInt8),(114:UInt8),(115:UInt8),(111:UInt8),(110:UInt8),(32:UInt8),(103:UInt8),(114:UInt8),(111:UInt8),(117:UInt8),(112:UInt8),(32:UInt8)])))))),.str (f69q1++s++f69q1)] λ(rs:IU D)=>∃(b_1:Bool),rs=[IL b_1]/\[IL (bif b then !b_1 else false)]=[IL (yw s)])
 ·kernel_rfl
 delta f69q2 f69q1;refine(Ka s hs).mono ?_;rintro rs rfl;have hb:vy s=true->s.length<=64:=λh=>by simp only[vy,HC,HS]at h;exact h.2
 refine⟨_,rfl,λh=>?_,λh=>?_,?_⟩
 ·have:=hb h;show 1+s.length<=9223372036854775807;omega
 ·have:=hb h;show([32]++s).length+1<=9223372036854775807;simp;omega
 ·refine(Kb resS (32::s++[32]) (by decide) (by simp;omega)).mono ?_;rintro rs rfl;exact⟨_,rfl,by rw[yw,zn]⟩
def yL (t:Tm):Bool:=if t.kind=1 then t.name==[]&&bV t.n else decide (2<=t.kind)&&decide (t.kind<=7)&&yw t.name&&t.n==0
theorem L9 (t:Tm) (hs:t.name.length<4611686018427387904):IK Tryz.prog G 257 [t.d] (· = [.bool (yL t)]):=by
 unfold Hq;refine zq Tryz.func257 ⟨_,rfl⟩ ?_;apply @z7 _ (((Gh t==1)=true->[IL (bif bif Tm.name t==Gx (Gy (Gu #[]))then decide (Tm.n t>=0)else false then decide (Tm.n t<=1099511627776)else false)]=[IL (yL t)])/\((Gh t==1)=false->IK Tryz.prog G 172 [HW (Tm.name t)] λ(rs:IU D)=>∃(b:Bool),rs=[IL b]/\[IL (bif bif bif decide (Gh t>=2)then decide (Gh t<=7)else false then b else false then Tm.n t==0 else false)]=[IL (yL t)]))
 ·kernel_rfl
 refine⟨λh=>?_,λh=>?_⟩
 ·simp only[beq_iff_eq]at h;simp only[yL,h,if_true,zn,bV,ge_iff_le,Bool.and_assoc]
 ·simp only[beq_eq_false_iff_ne,ne_eq]at h;refine(Nh t.name hs).mono ?_;rintro rs rfl;exact⟨_,rfl,by simp only[yL,h,if_false,zn,ge_iff_le]⟩
end
end Go.Fo
namespace Go.Fo
open Go Go.Sx
def vB (x:Int):Bool:=(decide (97<=x)&&decide (x<=122))||(decide (48<=x)&&decide (x<=57))||x==95
theorem YQ (t s:IU UInt8) (i:Nat):Lib.occAt t s i=true↔i+s.length<=max t.length i/\(t.drop i).take s.length=s:=by
 unfold Lib.occAt;rw[IU.isPrefixOf_iff_prefix];constructor
 ·rintro h;refine⟨?_,?_⟩
  ·have:=h.length_le;rw[IU.length_drop]at this;omega
  ·exact(IU.prefix_iff_eq_take.1 h).symm
 ·rintro⟨_,h⟩;rw[←h];exact IU.take_prefix _ _
theorem jF (t s:IU UInt8) (hs:s≠[]):BK t s=xa t s:=by
 have hl:0<s.length:=Bb.2 hs;rw[Ge,vz];unfold BK;rw[HS];rcases Lib.index_spec t s with⟨h1,h2⟩|⟨i,h1,h2,h3,_⟩
 ·rw[h1];constructor
  ·intro h;omega
  ·rintro⟨i,h3,h4⟩;have:=h2 i (by omega);rw[(YQ t s i).2 ⟨by omega,h4⟩]at this;cases this
 ·rw[h1];constructor
  ·intro _;obtain⟨h5,h6⟩:=(YQ t s i).1 h3;exact⟨i,by omega,h6⟩
  ·intro _;omega
def YP (s:IU UInt8):Bool:=(((s==[])||decide ((s.length:Int)>64))||decide (((s.getD 0 0).toNat:Int)<97))||s.any λc=>!vB c.toNat
theorem QY (s:IU UInt8):vy s = !YP s:=by
 rw[Ge];unfold vy YP;simp only[HC,Fe,E3,HS,HH,G3,Fz,beq_eq_false_iff_ne,IU.any_eq_false];have get:∀i (h:i<s.length),s.getD i 0=s[i]:=λi h=>by rw[Es,IU.getElem?_eq_getElem h];rfl
 have inn:∀c:UInt8,¬ (vB c.toNat=false)↔(97<=c.toNat/\c.toNat<=122)∨(48<=c.toNat/\c.toNat<=57)∨c.toNat=95:=λc=>by unfold vB;simp;omega
 have ok:∀i (c:UInt8),oH i c=true↔(97<=c.toNat/\c.toNat<=122)∨(i≠0/\((48<=c.toNat/\c.toNat<=57)∨c.toNat=95)):=λi c=>by unfold oH d6 WU;simp
 constructor
 ·rintro⟨⟨h1,h2⟩,h3⟩;refine⟨⟨⟨λh=>by rw[h]at h2;simp at h2,by omega⟩,?_⟩,λc hc=>?_⟩
  ·have:=(ok _ _).1 (h1 0 (by omega));omega
  ·rw[inn];obtain⟨i,hi,rfl⟩:=IU.mem_iff_getElem.1 hc;have:=(ok _ _).1 (h1 i hi);rw[get i hi]at this;omega
 ·rintro⟨⟨⟨h1,h2⟩,h3⟩,h4⟩;have hl:0<s.length:=Bb.2 h1;refine⟨⟨λi hi=>?_,by omega⟩,by omega⟩;rw[ok,get i hi];have:=(inn _).1 (h4 s[i] (ED hi));by_cases h0:i=0
  ·subst h0;rw[get 0 hi]at h3;omega
  ·omega
theorem YO (s:IU UInt8):yw s=(!YP s&& !BK resS (32::s++[32])):=by unfold yw;rw[QY,jF _ _ (by simp)]
end Go.Fo
namespace Go.Fo
open Go Go.Sx Go.Proofs
def xh (ts:IU Tm) (i:Nat):Tm:=(ts[i]?).getD ⟨0,[],0⟩
theorem QX (ts:IU Tm) (i:Nat):zr [.int .i64,.str,.int .i64] (ts.map Hq) i=(xh ts i).d:=by
 cases h:ts[i]? with
 |some t=>rw[uS h];simp[xh,h]
 |none=>simp[xh,h,z1,Hq,zr,Ew];exact⟨rfl,rfl,rfl⟩
theorem R7 (ts:IU Tm) (i:Nat):Hf (IB (z1 (ts.map Hq) i 0) default)=(xh ts i).kind:=by
 cases h:ts[i]? with
 |some t=>rw[YT h];simp[xh,h,Hf]
 |none=>simp[xh,h,z1];rfl
theorem YN {ts:IU Tm}{n:Nat}(h:∀t∈ts,t.name.length<n) (hn:0<n) (i:Nat):(xh ts i).name.length<n:=by
 unfold xh;cases hi:ts[i]? with
 |some t=>exact h t (GS hi)
 |none=>exact hn
theorem QW {ts:IU Tm}{t:Tm}(h:t∈ts):t.name.length<=YR ts:=by
 unfold YR;induction ts with
 |nil=>cases h
 |cons y r ih =>
  simp only[Gb,DZ];rcases F5.1 h with rfl|h
  ·omega
  ·have:=ih h;omega
theorem mH {bs:IU Bd}{t:Bd}(h:t∈bs):t.name.length<=bU bs:=by
 unfold bU;induction bs with
 |nil=>cases h
 |cons y r ih =>
  simp only[Gb,DZ];rcases F5.1 h with rfl|h
  ·omega
  ·have:=ih h;omega
theorem Fm.ts_len {f:Fm}(hf:f.wt<4611686018427387904):∀t∈f.ts,t.name.length<4611686018427387904:=λt ht=>by have:=QW ht;have:=f.wt_eq;omega
theorem Fm.bs_len {f:Fm}(hf:f.wt<4611686018427387904):∀t∈f.bs,t.name.length<4611686018427387904:=λt ht=>by have:=mH ht;have:=f.wt_eq;omega
def wY (f:Fm):Bool :=if zC f.kind then decide (f.ts.length=2)&&yL (xh f.ts 0)&&yL (xh f.ts 1)&&(if f.kind=9 then qG f.name else f.name==[]&&(xh f.ts 0).kind==2&&(xh f.ts 1).kind==2)else f.ts.isEmpty&&f.name==[]
def bindB (b:Bd):Bool:=yw b.name&&decide (1<=b.sort)&&decide (b.sort<=7)
def vl (f:Fm):Bool :=if yb f.kind then f.bs.all bindB&&decide (1<=f.bs.length)&&decide (f.bs.length<=6)&&(f.n==0||(xI f.kind&&decide (0<f.n)&&decide (f.n<=1099511627776)))else f.bs.isEmpty&&f.n==0
section
variable {G:Nat->IQ (IU D)}
abbrev jc (a:IU D) (b:Bool):Prop:=a=[IL b]
abbrev gQ (a:Fm):Int:=(↑(IR (IT Hq (HM a))):Int)
abbrev YM (a:Fm):Bool:=HE a==Gx (Gy (Gu #[]))
abbrev dR (a:Fm):IU D:=[IL (wY a)]
abbrev f53q3:IU Sh:=[HX .i64,HI,HX .i64]
abbrev UB (a:Fm):D:=zr f53q3 (IT Hq (HM a)) (IJ 0)
abbrev UA (a:Fm):Prop:=(0:Int)<=0/\(IT Hq (HM a))[IJ 0]? = some (UB a)
abbrev T0 (a:Fm):Prop:=(0:Int)<=1/\(IT Hq (HM a))[IJ 1]? = some (zr f53q3 (IT Hq (HM a)) (IJ 1))
abbrev T3 (a:Fm):Bool:=bif YM a then Hf (IB (z1 (IT Hq (HM a)) (IJ 0) 0) default)==2 else false
theorem KZ (f:Fm) (hf:f.wt<4611686018427387904):IK Tryz.prog G 241 [f.d] (· = [.bool (wY f)]):=by
 have hts:=Fm.ts_len hf;rw[f.d_eq];refine zq Tryz.func241 ⟨_,rfl⟩ ?_;apply @z7 _ (IK Tryz.prog G 205 [IP .i64 (Hj f)] λ(rs:IU D)=>∃(b:Bool),jc rs b/\((!b)=true->[IL (bif gQ f==0 then YM f else false)]=dR f)/\((!b)=false->((gQ f != 2)=false->UA f)/\IK Tryz.prog G 257 [UB f] λ(rs:IU D)=>∃(b:Bool),jc rs b/\((bif gQ f != 2 then true else !b)=false->T0 f)/\IK Tryz.prog G 257 [zr f53q3 (IT Hq (HM f)) (IJ 1)] λ(rs:IU D)=>∃(b_1:Bool),jc rs b_1/\((bif bif gQ f != 2 then true else !b then true else !b_1)=true->[IL false]=dR f)/\((bif bif gQ f != 2 then true else !b then true else !b_1)=false->((Hj f==9)=true->IK Tryz.prog G 258 [HW (HE f)] λ(rs:IU D)=>∃(b:Bool),jc rs b/\[IL b]=dR f)/\((Hj f==9)=false->(YM f=true->UA f)/\(T3 f=true->T0 f)/\[IL (bif T3 f then Hf (IB (z1 (IT Hq (HM f)) (IJ 1) 0) default)==2 else false)]=dR f))))
 ·kernel_rfl
 delta jc gQ YM dR UA UB f53q3 T0 T3;refine(Ni f.kind).mono ?_;rintro rs rfl;refine⟨_,rfl,?_⟩;simp only[Int.toNat_zero,Int.toNat_one,QX,H4,zH,zn];simp only[R7];have at_:∀i,f.ts.length=2->i<2->(IT Hq f.ts)[i]? = some (xh f.ts i).d:=λi h hi=>by
  have hlt:i<f.ts.length:=by omega
  simp[xh,hlt]
 refine⟨λh=>?_,λh=>⟨λh2=>?_,?_⟩⟩
 ·simp only[Fe]at h;have e:((f.ts.length:Int)==0)=f.ts.isEmpty:=by
   cases f.ts with
   |nil=>rfl
   |cons x r=>rw[Ge];simp;omega
  simp only[wY,h,FU,if_false,e]
 ·simp only[bne_eq_false_iff_eq]at h2;exact⟨by omega,at_ 0 (by omega) (by omega)⟩
 ·simp only[C5]at h;refine(L9 (xh f.ts 0) (YN hts (by omega) 0)).mono ?_;rintro rs rfl;refine⟨_,rfl,λh2=>?_,?_⟩
  ·simp only[E3,bne_eq_false_iff_eq]at h2;exact⟨by omega,at_ 1 (by omega) (by omega)⟩
  ·refine(L9 (xh f.ts 1) (YN hts (by omega) 1)).mono ?_;rintro rs rfl;have e:((f.ts.length:Int) != 2) = !decide (f.ts.length=2):=by rw[Ge];simp;omega
   rw[e];refine⟨_,rfl,λh2=>?_,λh2=>?_⟩
   ·have:wY f=false:=by simp only[wY,h,if_true];rcases zzI (decide (f.ts.length=2))with h3|h3<;>rcases zzI (yL (xh f.ts 0))with h4|h4<;>rcases zzI (yL (xh f.ts 1))with h5|h5<;>simp_all
    rw[this]
   ·simp only[E3,C5]at h2;obtain⟨⟨h3,h4⟩,h5⟩:=h2;have h6:f.ts.length=2:=by simpa using h3
    refine⟨λh9=>?_,λh9=>⟨λ_=>⟨by omega,at_ 0 h6 (by omega)⟩,λ_=>⟨by omega,at_ 1 h6 (by omega)⟩,?_⟩⟩
    ·refine(Kf f.name).mono ?_;rintro rs rfl;simp only[beq_iff_eq]at h9;exact⟨_,rfl,by simp[wY,h9,zC,h6,h4,h5]⟩
    ·simp only[beq_eq_false_iff_ne,ne_eq]at h9;simp only[wY,h,if_true,h3,h4,h5,h9,if_false,EB]
abbrev dQ (a:Fm):Int:=(↑(IR (IT ID (HN a))):Int)
abbrev T4 (a:Nat) (b:Fm):Prop:=a<=IR (HN b)/\F0 (HZ a (HN b)) bindB=true
abbrev QV (a:Fm):Prop:=(Hj a=Hj a/\HE a=HE a/\HB a=HB a/\IT Hq (HM a)=IT Hq (HM a)/\IT ID (HN a)=IT ID (HN a)/\IT HV (Hz a)=IT HV (Hz a)/\IN)/\IN
abbrev T6 (a:Nat) (b:Fm):Prop:=(0:Int)<=(a:Int)/\(IT ID (HN b))[IJ (a:Int)]? = some (zr [HI,HX .i64] (IT ID (HN b)) (IJ (a:Int)))
abbrev T7 (a:Fm) (b:Nat):Int:=Hf (IB (z1 (IT ID (HN a)) (IJ (b:Int)) (0+1)) default)
abbrev T8 (a:Bool) (b:Fm) (c:Nat):Bool:=bif !a then true else decide (T7 b c<1)
theorem KY (f:Fm) (hf:f.wt<4611686018427387904):IK Tryz.prog G 242 [f.d] (· = [.bool (vl f)]):=by
 have hbs:=Fm.bs_len hf;rw[f.d_eq];refine zu (LL [(4,ze (α:=Nat) Tryz.prog G L0 0 (z8 (z6 Tryz.f242) 0) [1] (λx=>x<=f.bs.length/\(f.bs.take x).all bindB=true) (λx=>f.bs.length - x) (λx=>[(3,.d (.int .i64 x))]) (λH _=>H))]) Tryz.func242 ⟨_,rfl⟩ (zt zz) ?_;apply @z7 _ (IK Tryz.prog G 259 [IP .i64 (Hj f)] λ(rs:IU D)=>∃(b:Bool),jc rs b/\((!b)=true->[IL (bif dQ f==0 then HB f==0 else false)]=[IL (vl f)])/\((!b)=false->∃(x0:Nat),T4 x0 f/\((IA 0 0=IA 0 0/\(0:Int)=(x0:Int)/\IN)/\QV f)/\∀(x:Nat),T4 x f->(decide ((x:Int)<dQ f)=true->T6 x f/\IK Tryz.prog G 172 [HW (D.toStr (IB (z1 (IT ID (HN f)) (IJ (x:Int)) 0) default))] λ(rs:IU D)=>∃(b:Bool),jc rs b/\((!b)=false->T6 x f)/\(T8 b f x=false->T6 x f)/\((bif T8 b f x then true else decide (T7 f x>7))=true->[IL false]=[IL (vl f)])/\((bif T8 b f x then true else decide (T7 f x>7))=false->∃(y:Nat),T4 y f/\IR (HN f) - y<IR (HN f) - x/\(IA 0 0=IA 0 0/\Hr .i64 ((x:Int)+1)=(y:Int)/\IN)/\QV f))/\(decide ((x:Int)<dQ f)=false->[IL (bif bif decide (dQ f>=1)then decide (dQ f<=6)else false then bif HB f==0 then true else bif bif bif Hj f==16 then true else Hj f==17 then decide (HB f>0)else false then decide (HB f<=1099511627776)else false else false)]=[IL (vl f)])))
 ·kernel_rfl
 delta jc gQ YM dR UA UB f53q3 T0 T3 dQ T4 QV T6 T8 T7;refine(Kg f.kind).mono ?_;rintro rs rfl;refine⟨_,rfl,?_⟩;simp only[H4,zH,zn];refine⟨λh=>?_,λh=>⟨0,⟨by omega,by simp⟩,by simp,λx hx=>⟨λhlt=>?_,λhge=>?_⟩⟩⟩
 ·simp only[Fe]at h;have e:((f.bs.length:Int)==0)=f.bs.isEmpty:=by
   cases f.bs with
   |nil=>rfl
   |cons x r=>rw[Ge];simp;omega
  simp only[vl,h,FU,if_false,e]
 ·simp only[HS]at hlt;simp only[C5]at h;obtain⟨z,hz,hm⟩:=zw (l:=f.bs) (x:=x) (by omega);simp only[HF];rw[w6 hz];simp only[xE hz,wr hz,FT,D.toStr,Hf];have hat:(IT ID f.bs)[x]? = some z.d:=by simp[hz]
  refine⟨⟨by omega,hat⟩,?_⟩;refine(Nh z.name (hbs z hm)).mono ?_;rintro rs rfl;have e:(!yw z.name||decide (z.sort<1)||decide (z.sort>7)) = !bindB z:=by
   simp only[bindB];cases yw z.name
   ·simp
   ·rw[Ge];simp
  refine⟨yw z.name,rfl,?_⟩;rw[e];refine⟨λ_=>⟨by omega,hat⟩,λ_=>⟨by omega,hat⟩,λh2=>?_,λh2=>?_⟩
  ·have:f.bs.all bindB=false:=by rw[D3];exact⟨z,hm,by simpa using h2⟩
   simp only[vl,h,if_true,this,Dp]
  ·refine⟨x+1,⟨by omega,?_⟩,by omega,?_⟩
   ·rw[GN,hz,Fb,hx.2];simpa using h2
   ·have:=f.wt_eq;rw[zx (by omega) (by omega)];simp
 ·simp only[HH]at hge;simp only[C5]at h;have h2:=hx.2;rw[Gs (by omega)]at h2;have e1:decide ((f.bs.length:Int)>=1)=decide (1<=f.bs.length):=by rw[Ge];simp;omega
  have e2:decide ((f.bs.length:Int)<=6)=decide (f.bs.length<=6):=by rw[Ge];simp;omega
  simp only[vl,h,if_true,h2,EB,e1,e2,xI,gt_iff_lt];rfl
end
section
def x7 (f:Fm):Bool:=((f.l.length:Int)==yi f.kind)&&wY f&&vl f
mutual
def Fm.formB:Fm->Bool
 |.mk k s n ts bs l=>x7 (.mk k s n ts bs l)&&Fm.formsB l
def Fm.formsB:IU Fm->Bool
 |[]=>true
 |x::r=>x.formB&&Fm.formsB r
end
theorem Fm.formB_eq (f:Fm):f.formB=(x7 f&&Fm.formsB f.l):=by cases f;rw[Fm.formB];rfl
theorem wq (l:IU Fm):Fm.formsB l=l.all Fm.formB:=by
 induction l with
 |nil=>rw[Fm.formsB];rfl
 |cons x r ih=>rw[Fm.formsB,ih];rfl
def Fm.checkI (f:Fm):Int:=if f.formB then(if 256<f.rank∨24<f.depth then 2 else 0)else 1
section
variable {G:Nat->IQ (IU D)}
abbrev gP (a:Fm):IU D:=[D.agg [.int .i64 (Hj a),.str (HE a),.int .i64 (HB a),.sl (IT Hq (HM a)),.sl (IT ID (HN a)),.sl (IT HV (Hz a))]]
abbrev T9 (a:Fm) (b:Int) (c:Bool) (d:Bool):Bool:=bif bif (↑(IR (IT HV (Hz a))):Int) != b then true else !c then true else !d
abbrev Tz (a:Fm):Prop:=[IL false]=[IL (Fm.formB a)]
abbrev YL (a:Nat) (b:Fm):Prop:=a<=IR (Hz b)/\x7 b=true/\F0 (HZ a (Hz b)) Fm.formB=true
abbrev Ty (a:Fm):Prop:=(Hj a=Hj a/\HE a=HE a/\HB a=HB a/\IT Hq (HM a)=IT Hq (HM a)/\IT ID (HN a)=IT ID (HN a)/\IT HV (Hz a)=IT HV (Hz a)/\IN)/\IN
abbrev Tx (a:Fm) (b:Nat):D:=zr [HX .i64,HI,HX .i64,HK,HK,HK] (IT HV (Hz a)) (IJ (b:Int))
theorem KX (f:Fm) (hf:f.wt<4611686018427387904):IK Tryz.prog G 202 [f.d] (· = [.bool f.formB]):=by
 induction f using Ex with
 |h f ih =>
 have h53:=KZ (G:=G) f hf;have h54:=KY (G:=G) f hf;have hw:=f.wt_eq;have hl:=rG f.l;rw[f.d_eq]at h53 h54 ⊢;refine zu (LL [(4,ze (α:=Nat) Tryz.prog G L0 0 (z8 (z6 Tryz.f202) 0) [1] (λx=>x<=f.l.length/\x7 f=true/\(f.l.take x).all Fm.formB=true) (λx=>f.l.length - x) (λx=>[(3,.d (.int .i64 x))]) (λH _=>H))]) Tryz.func202 ⟨_,rfl⟩ (zt zz) ?_;apply @z7 _ (IK Tryz.prog G 240 [IP .i64 (Hj f)] λ(rs:IU D)=>∃(n:Int),rs=[IP .i64 n]/\IK Tryz.prog G 241 (gP f) λ(rs:IU D)=>∃(b:Bool),rs=[IL b]/\IK Tryz.prog G 242 (gP f) λ(rs:IU D)=>∃(b_1:Bool),rs=[IL b_1]/\(T9 f n b b_1=true->Tz f)/\(T9 f n b b_1=false->∃(x0:Nat),YL x0 f/\((IA 0 0=IA 0 0/\(0:Int)=(x0:Int)/\IN)/\Ty f)/\∀(x:Nat),YL x f->(decide ((x:Int)<(↑(IR (IT HV (Hz f))):Int))=true->((0:Int)<=(x:Int)/\(IT HV (Hz f))[IJ (x:Int)]? = some (Tx f x))/\IK Tryz.prog G 202 [Tx f x] λ(rs:IU D)=>∃(b:Bool),rs=[IL b]/\((!b)=true->Tz f)/\((!b)=false->∃(y:Nat),YL y f/\IR (Hz f) - y<IR (Hz f) - x/\(IA 0 0=IA 0 0/\Hr .i64 ((↑x: Int)+1)=(y:Int)/\IN)/\Ty f))/\(decide ((x:Int)<(↑(IR (IT HV (Hz f))):Int))=false->[IL true]=[IL (Fm.formB f)])))
 ·kernel_rfl
 delta gP T9 Tz YL Ty Tx;refine(Ke f.kind).mono ?_;rintro rs rfl;refine⟨_,rfl,?_⟩;refine h53.mono ?_;rintro rs rfl;refine⟨_,rfl,?_⟩;refine h54.mono ?_;rintro rs rfl;refine⟨_,rfl,?_⟩;have e:(bif bif (f.l.length:Int) != yi f.kind then true else !wY f then true else !vl f) = !x7 f:=by simp only[x7,zH,bne];cases ((f.l.length:Int)==yi f.kind)<;>cases wY f<;>cases vl f<;>rfl
 simp only[H4];rw[e];refine⟨λh=>?_,λh=>⟨0,⟨by omega,by simpa using h,by simp⟩,by simp,λx hx=>⟨λhlt=>?_,λhge=>?_⟩⟩⟩
 ·rw[f.formB_eq];simp only[Fe]at h;rw[h,Dp]
 ·simp only[HS]at hlt;obtain⟨z,hz,hm⟩:=zw (l:=f.l) (x:=x) (by omega);simp only[HF];rw[wZ hz];refine⟨⟨by omega,by simp[hz]⟩,?_⟩;refine(ih z hm (by have:=Fm.wt_lt hm;omega)).mono ?_;rintro rs rfl;refine⟨_,rfl,λh2=>?_,λh2=>?_⟩
  ·have:f.l.all Fm.formB=false:=by rw[D3];exact⟨z,hm,by simpa using h2⟩
   rw[f.formB_eq,wq,this,Bool.and_false]
  ·refine⟨x+1,⟨by omega,hx.2.1,?_⟩,by omega,?_⟩
   ·rw[GN,hz,Fb,hx.2.2];simpa using h2
   ·rw[zx (by omega) (by omega)];simp
 ·simp only[HH]at hge;have h2:=hx.2.2;rw[Gs (by omega)]at h2;rw[f.formB_eq,wq,h2,hx.2.1];rfl
abbrev Tw (a:Fm):IU D:=[IP .i64 (Fm.checkI a)]
theorem KW (f:Fm) (hf:f.wt<4611686018427387904):IK Tryz.prog G 174 [f.d] (· = [.int .i64 f.checkI]):=by
 have h32:=KX (G:=G) f hf;have hr:=f.rank_le_wt;have h16:=L8 (G:=G) f (by omega);have h18:=Kd (G:=G) f (by omega);rw[f.d_eq]at h32 h16 h18 ⊢;refine zq Tryz.func174 ⟨_,rfl⟩ ?_;apply @z7 _ (IK Tryz.prog G 202 (gP f) λ(rs:IU D)=>∃(b:Bool),rs=[IL b]/\((!b)=true->[IP .i64 1]=Tw f)/\((!b)=false->IK Tryz.prog G 80 (gP f) λ(rs:IU D)=>∃(n:Int),rs=[IP .i64 n]/\IK Tryz.prog G 203 (gP f) λ(rs:IU D)=>∃(n_1:Int),rs=[IP .i64 n_1]/\((bif decide (n>256)then true else decide (n_1>24))=true->[IP .i64 2]=Tw f)/\((bif decide (n>256)then true else decide (n_1>24))=false->[IP .i64 0]=Tw f)))
 ·kernel_rfl
 delta gP T9 Tz YL Ty Tx Tw;refine h32.mono ?_;rintro rs rfl;refine⟨_,rfl,λh=>?_,λh=>?_⟩
 ·simp only[Fe]at h;simp[Fm.checkI,h]
 ·simp only[C5]at h;refine h16.mono ?_;rintro rs rfl;refine⟨_,rfl,?_⟩;refine h18.mono ?_;rintro rs rfl;have e:(bif decide ((f.rank:Int)>256)then true else decide ((f.depth:Int)>24))=decide (256<f.rank∨24<f.depth):=by rw[Ge,zH];simp;omega
  refine⟨_,rfl,?_⟩;rw[e];refine⟨λh2=>?_,λh2=>?_⟩
  ·simp only[HS]at h2;simp[Fm.checkI,h,h2]
  ·simp only[HH]at h2;simp only[Fm.checkI,h,if_true,IE h2]
end
end
end Go.Fo
namespace Go.Fo
open Go Go.Sx
def Lz (k:Int):Int:=if k=11 then 12 else if k=12 then 11 else if k=14 then 15 else if k=15 then 14 else if k=16 then 17 else if k=17 then 16 else if k=1 then 2 else if k=2 then 1 else 0
def nil0:Fm:= .mk 0 [] 0 [] [] []
mutual
def Fm.right:Fm->Bool->Fm
 |.mk k s n ts bs l,t =>
  if(UF (.mk k s n ts bs l)&&t||k==2&& !t)=true then .mk 2 [] 0 [] [] []
  else if(UF (.mk k s n ts bs l)||k==2)=true then .mk 1 [] 0 [] [] []
  else if k=10 then(Fm.rights l (!t)).getD 0 nil0
  else if k=13 then .mk (if t then 11 else 12) [] 0 [] [] [(Fm.rights l (!t)).getD 0 nil0,(Fm.rights l t).getD 1 nil0]
  else if(zC k&&t&&k != 9)=true then .mk 10 [] 0 [] [] [.mk k s n ts bs l]
  else .mk (if t&&k != 9 then Lz k else k) (if t&&k==9 then L7 s else s) (if t&&k==16 then n - 1 else if t&&k==17 then n+1 else n) ts bs (Fm.rights l (t&& !xI k))
def Fm.rights:IU Fm->Bool->IU Fm
 |[],_=>[]
 |x::r,t=>x.right t::Fm.rights r t
end
inductive Shape:Fm->Prop
 |const (k:Int) (hk:k=1∨k=2):Shape (.mk k [] 0 [] [] [])
 |atom (k:Int) (a b:Tm) (hk:k=3∨k=4∨k=5∨k=6∨k=7∨k=8) (ha:yL a=true) (hb:yL b=true) (ha2:a.kind=2) (hb2:b.kind=2):Shape (.mk k [] 0 [a,b] [] [])
 |cmp (s:IU UInt8) (a b:Tm) (hs:qG s=true) (ha:yL a=true) (hb:yL b=true):Shape (.mk 9 s 0 [a,b] [] [])
 |not (x:Fm) (hx:x.formB=true):Shape (.mk 10 [] 0 [] [] [x])
 |two (k:Int) (x y:Fm) (hk:k=11∨k=12∨k=13) (hx:x.formB=true) (hy:y.formB=true):Shape (.mk k [] 0 [] [] [x,y])
 |quant (k:Int) (bs:IU Bd) (x:Fm) (hk:k=14∨k=15) (hb:bs.all bindB=true) (h1:1<=bs.length) (h6:bs.length<=6) (hx:x.formB=true):Shape (.mk k [] 0 [] bs [x])
 |count (k n:Int) (bs:IU Bd) (x:Fm) (hk:k=16∨k=17) (h0:0<=n) (hn:n<=1099511627776) (hb:bs.all bindB=true) (h1:1<=bs.length) (h6:bs.length<=6) (hx:x.formB=true):Shape (.mk k [] n [] bs [x])
theorem Mt {α:Type}{l:IU α}(h:l.length=1):∃x,l=[x]:=by
 match l,h with
 |[x],_=>exact⟨x,rfl⟩
theorem Ng {α:Type}{l:IU α}(h:l.length=2):∃x y,l=[x,y]:=by
 match l,h with
 |[x,y],_=>exact⟨x,y,rfl⟩
theorem vx {f:Fm}(h:f.formB=true):Shape f:=by
 cases f with
 |mk k s n ts bs l =>
 rw[Fm.formB,wq]at h;simp only[x7,HC,beq_iff_eq,Hz,Hj]at h;obtain⟨⟨⟨hl,ht⟩,hb⟩,hall⟩:=h;simp only[wY,Hj,HM,HE]at ht;simp only[vl,Hj,HN,HB]at hb;have hc:k=1∨k=2∨(k=3∨k=4∨k=5∨k=6∨k=7∨k=8)∨k=9∨k=10∨(k=11∨k=12∨k=13)∨(k=14∨k=15)∨(k=16∨k=17):=by
  unfold yi at hl;simp only[zC,HC,HS]at hl;split at hl
  ·omega
  ·split at hl
   ·omega
   ·split at hl<;>omega
 rcases hc with hk|hk|hk|hk|hk|hk|hk|hk
 ·subst hk;simp[yi,zC,yb]at hl ht hb;obtain⟨rfl,rfl⟩:=ht;obtain⟨rfl,rfl⟩:=hb;subst hl;exact .const 1 (.inl rfl)
 ·subst hk;simp[yi,zC,yb]at hl ht hb;obtain⟨rfl,rfl⟩:=ht;obtain⟨rfl,rfl⟩:=hb;subst hl;exact .const 2 (.inr rfl)
 ·have h1:zC k=true:=by simp only[zC,HC,HS];omega
  have h2:yb k=false:=by simp only[yb,FH,HH];omega
  have h3:yi k=0:=by unfold yi;rw[IE (by omega),IE (by omega),Hv (.inr (.inr h1))]
  have h9:k≠9:=by omega
  rw[h3]at hl;simp[h1,h2,h9]at hl ht hb;obtain⟨rfl,rfl⟩:=hb;subst hl;obtain⟨⟨⟨h5,h6⟩,h7⟩,⟨rfl,h8⟩,h10⟩:=ht;obtain⟨a,b,rfl⟩:=Ng (G0 h5);exact .atom k a b hk h6 h7 h8 h10
 ·subst hk;simp[yi,zC,yb]at hl ht hb;obtain⟨rfl,rfl⟩:=hb;subst hl;obtain⟨⟨⟨h5,h6⟩,h7⟩,h8⟩:=ht;obtain⟨a,b,rfl⟩:=Ng (G0 h5);exact .cmp s a b h8 h6 h7
 ·subst hk;simp[yi,zC,yb]at ht hb;have hl':l.length=1:=by simp[yi]at hl;omega
  obtain⟨rfl,rfl⟩:=hb;obtain⟨rfl,rfl⟩:=ht;obtain⟨x,rfl⟩:=Mt hl';simp at hall;exact .not x hall
 ·have h1:zC k=false:=by simp only[zC,FH,HH];omega
  have h2:yb k=false:=by simp only[yb,FH,HH];omega
  have h3:yi k=2:=by unfold yi;rw[IE (by omega),Hv hk]
  rw[h3]at hl;simp[h1,h2]at ht hb;obtain⟨rfl,rfl⟩:=hb;obtain⟨rfl,rfl⟩:=ht;obtain⟨x,y,rfl⟩:=Ng (by omega:l.length=2);simp at hall;exact .two k x y hk hall.1 hall.2
 ·have h1:zC k=false:=by simp only[zC,FH,HH];omega
  have h2:yb k=true:=by simp only[yb,HC,HS];omega
  have h4:xI k=false:=by simp only[xI,E3,HH];omega
  have h3:yi k=1:=by unfold yi;rw[Hv (by omega)]
  rw[h3]at hl;simp only[h1,h2,h4,if_true,if_false,HC,HS,Dp,Bool.or_false,beq_iff_eq,zyw,reduceCtorEq,FU]at ht hb;obtain⟨⟨⟨h5,h6⟩,h7⟩,rfl⟩:=hb;obtain⟨rfl,rfl⟩:=ht;obtain⟨x,rfl⟩:=Mt (by omega:l.length=1);simp at hall;exact .quant k bs x hk h5 (G0 h6) (G0 h7) hall
 ·have h1:zC k=false:=by simp only[zC,FH,HH];omega
  have h2:yb k=true:=by simp only[yb,HC,HS];omega
  have h3:yi k=1:=by unfold yi;rw[Hv (by omega)]
  rw[h3]at hl;simp only[h1,h2,if_true,if_false,HC,F9,HS,beq_iff_eq,zyw,reduceCtorEq,FU]at ht hb;obtain⟨⟨⟨h5,h6⟩,h7⟩,h8⟩:=hb;obtain⟨rfl,rfl⟩:=ht;obtain⟨x,rfl⟩:=Mt (by omega:l.length=1);simp at hall;have h9:0<=n/\n<=1099511627776:=by
   rcases h8 with h8|⟨⟨_,h8⟩,h9⟩
   ·omega
   ·have:=G0 h8;have:=G0 h9;omega
  exact .count k n bs x hk h9.1 h9.2 h5 (G0 h6) (G0 h7) hall
end Go.Fo
namespace Go.Fo
open Go Go.Sx Go.Proofs
theorem Ms (x:Fm) (r:IU Fm):zr [.int .i64,.str,.int .i64,.sl,.sl,.sl] (IT HV (x::r)) (IJ 0)=x.d:=wZ rfl
theorem KV (x y:Fm) (r:IU Fm):zr [.int .i64,.str,.int .i64,.sl,.sl,.sl] (IT HV (x::y::r)) (IJ 1)=y.d:=wZ rfl
section
variable {G:Nat->IQ (IU D)}
end
end Go.Fo
