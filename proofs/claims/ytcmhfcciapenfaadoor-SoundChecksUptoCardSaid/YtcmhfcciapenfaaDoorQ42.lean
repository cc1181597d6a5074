/- A part of the proof. -/
import Derived.Test.YtcmhfcciapenfaaDoorQ40
import Derived.Test.YtcmhfcciapenfaaDoorQ38
import Derived.Test.YtcmhfcciapenfaaDoorQ17
import Derived.Test.YtcmhfcciapenfaaDoorQ29
namespace Go.Proofs.YtcmhfcciapenfaaDoor.Pu
open Go.RowKit Go.Proofs.YtcmhfcciapenfaaDoorW.PrintWords Go.Proofs.YtcmhfcciapenfaaDoor.Pa
theorem eG (p:Nat → Bool) : ∀ (m i:Nat),bP p i m=true↔∀ j,i≤j → j < i+m → p j=true
 |0,i=>by
  simp only[bP,true_iff]
  intro j h1 h2;omega
 |m+1,i=>by
  simp only[bP,Bool.and_eq_true]
  rw[eG p m (i+1)]
  constructor
  ·rintro⟨h1,h2⟩ j h3 h4
   by_cases e:j=i
   ·rw[e];exact h1
   ·exact h2 j (by omega) (by omega)
  ·intro h
   exact⟨h i (by omega) (by omega),fun j h1 h2=>h j (by omega) (by omega)⟩
theorem good_same (ls:List S41) (lb:List S48) (x:S45):sound_windows.good ls lb x=pylonref09_windows.good ls lb x:=by
 unfold sound_windows.good pylonref09_windows.good sound_windows.keyed pylonref09_windows.known pylonref09_windows.named sound_windows.bad pylonref09_windows.bad
 rw[List.take_length,List.take_length]
 have e1:(ls.any fun s=>decide (s.f0.data.toList=x.f0.data.toList))=(ls.any fun s=>s.f0.toList == x.f0.toList):=by
  congr 1;funext s;rw[cK,cK,Bool.eq_iff_iff];simp[Bs]
 have e2:(lb.any fun b=>decide (b.f0.data.toList=x.f4.data.toList))=(lb.any fun b=>b.f0.toList == x.f4.toList):=by
  congr 1;funext b;rw[cK,cK,Bool.eq_iff_iff];simp[Bs]
 rw[e1,e2]
 generalize (ls.any fun s=>s.f0.toList == x.f0.toList)=A
 generalize (lb.any fun b=>b.f0.toList == x.f4.toList)=B
 have e3:(decide (0≤x.f1) && decide (x.f1 < 4)) = !(decide (x.f1 < 0) || decide (3 < x.f1)):=by
  rw[Bool.eq_iff_iff];simp;omega
 generalize decide (x.f2 < 0)=b1
 generalize decide (x.f3≤x.f2)=b2
 generalize decide (1440 < x.f3)=b3
 generalize (Int.tmod x.f2 15 != 0)=b4
 generalize (Int.tmod x.f3 15 != 0)=b5
 rw[Bool.and_assoc A,e3]
 generalize decide (x.f1 < 0)=c1
 generalize decide (3 < x.f1)=c2
 cases A <;> cases B <;> cases c1 <;> cases c2 <;> cases b1 <;> cases b2 <;> cases b3 <;> cases b4 <;> cases b5 <;> rfl
theorem runs_cnt (lw:List S45) (s:ByteArray) (k q:Nat):held (sound_windows.runs lw (s.data.toList,(k:Int))) (15 * (q:Int))=pylonref09_windows.cnt lw s k q lw.length:=by
 unfold held sound_windows.runs pylonref09_windows.cnt
 rw[List.take_length,List.countP_map,List.countP_filter,List.countP_eq_length_filter]
 congr 2
 funext x
 unfold pylonref09_windows.hit inRun
 rw[cK,cK,Bool.eq_iff_iff]
 simp[Bs]
 constructor
 ·rintro⟨⟨h1,h2⟩,h3,h4⟩;exact⟨⟨⟨h3,h4⟩,h1⟩,h2⟩
 ·rintro⟨⟨⟨h3,h4⟩,h1⟩,h2⟩;exact⟨⟨h1,h2⟩,h3,h4⟩
theorem gK (ls:List S41) (lb:List S48) (lw:List S45) (hg:lw.all (sound_windows.good ls lb)=true) (s:ByteArray) (k:Nat):sound_windows.full lw (s.data.toList,(k:Int))=pylonref09_windows.pk lw s k:=by
 have hx : ∀ r∈sound_windows.runs lw (s.data.toList,(k:Int)),(0≤r.f0∧r.f0 < r.f1∧r.f1≤1440)∧Int.tmod r.f0 15=0∧Int.tmod r.f1 15=0:=by
  intro r hr
  unfold sound_windows.runs at hr
  obtain⟨x,hxm,rfl⟩:=List.mem_map.1 hr
  have hx:=List.all_eq_true.1 hg x (List.mem_filter.1 hxm).1
  unfold sound_windows.good sound_windows.bad at hx
  simp at hx
  dsimp only
  omega
 unfold sound_windows.full pylonref09_windows.pk
 rw[Bool.eq_iff_iff,tiles_held _ 1440 (by omega) (fun r hr=>(hx r hr).1),eG]
 have hp : ∀ q,pylonref09_windows.pq lw s k q=true↔held (sound_windows.runs lw (s.data.toList,(k:Int))) (15 * (q:Int))=1:=by
  intro q
  unfold pylonref09_windows.pq
  rw[runs_cnt,beq_iff_eq]
 constructor
 ·intro h q h1 h2
  exact(hp q).2 (h _ (by omega) (by omega))
 ·intro h d h1 h2
  have h3:=(hp (d / 15).toNat).1 (h _ (by omega) (by omega))
  have e:(((d / 15).toNat:Nat):Int)=d / 15:=by omega
  rw[e] at h3
  rw[← h3]
  unfold held
  refine List.countP_congr fun r hr=>?_
  obtain⟨⟨p1,p2,p3⟩,p4,p5⟩:=hx r hr
  rw[Int.tmod_eq_emod_of_nonneg (by omega)] at p4 p5
  unfold inRun
  simp only[Bool.and_eq_true,decide_eq_true_eq]
  omega
def d9 (t:Tar):Bool:=t.f17.all (sound_windows.good t.f15 t.f18) && t.f15.all (sound_windows.fullS t.f17) && lenOk t.f17.length
theorem windows_at (t:Tar) (h:sound_windows.small t=true):sound_windows.f t=some (d9 t):=by
 unfold sound_windows.f d9
 rw[if_pos h,fC]
 cases t.f17.all (sound_windows.good t.f15 t.f18) with
 |false=>simp
 |true=>
  rw[if_pos rfl]
  cases t.f15.all (sound_windows.fullS t.f17) with
  |false=>simp
  |true=>simp
theorem rwindows_at (t:Tar):pylonref09_windows.f t=some (d9 t):=by
 unfold pylonref09_windows.f d9 lenOk
 by_cases c1:(t.f17.length:Int) < 1
 ·rw[if_pos c1,decide_eq_false (show ¬ 1≤t.f17.length by omega)];simp
 ·rw[if_neg c1,decide_eq_true (show 1≤t.f17.length by omega)]
  by_cases c2:(t.f17.length:Int) > 64
  ·rw[if_pos c2,decide_eq_false (show ¬ t.f17.length≤64 by omega)];simp
  ·rw[if_neg c2,decide_eq_true (show t.f17.length≤64 by omega)]
   have hg:bP (pylonref09_windows.pg t.f15 t.f18 t.f17) 0 t.f17.length=t.f17.all (sound_windows.good t.f15 t.f18):=by
    rw[Bool.eq_iff_iff,eG,List.all_eq_true]
    constructor
    ·intro h x hx
     obtain⟨j,hj,rfl⟩:=List.mem_iff_getElem.1 hx
     have:=h j (by omega) (by omega)
     unfold pylonref09_windows.pg at this
     rw[List.getD_eq_getElem?_getD,List.getElem?_eq_getElem hj] at this
     rw[good_same];exact this
    ·intro h j _ hj
     have hj' : j < t.f17.length:=by omega
     have:=h _ (List.getElem_mem hj')
     unfold pylonref09_windows.pg
     rw[List.getD_eq_getElem?_getD,List.getElem?_eq_getElem hj',← good_same];exact this
   rw[hg]
   cases hgd:t.f17.all (sound_windows.good t.f15 t.f18) with
   |false=>simp
   |true=>
    rw[if_pos rfl]
    congr 1
    rw[Bool.true_and,Bool.and_true,Bool.and_true,Bool.eq_iff_iff,eG,List.all_eq_true]
    have hS : ∀ s:S41,sound_windows.fullS t.f17 s=true↔bP (pylonref09_windows.pk t.f17 s.f0) 0 4=true:=by
     intro s
     unfold sound_windows.fullS
     have f0:=gK t.f15 t.f18 t.f17 hgd s.f0 0
     have f1:=gK t.f15 t.f18 t.f17 hgd s.f0 1
     have f2:=gK t.f15 t.f18 t.f17 hgd s.f0 2
     have f3:=gK t.f15 t.f18 t.f17 hgd s.f0 3
     have g0:sound_windows.full t.f17 (s.f0.data.toList,0)=pylonref09_windows.pk t.f17 s.f0 0:=f0
     have g1:sound_windows.full t.f17 (s.f0.data.toList,1)=pylonref09_windows.pk t.f17 s.f0 1:=f1
     have g2:sound_windows.full t.f17 (s.f0.data.toList,2)=pylonref09_windows.pk t.f17 s.f0 2:=f2
     have g3:sound_windows.full t.f17 (s.f0.data.toList,3)=pylonref09_windows.pk t.f17 s.f0 3:=f3
     rw[g0,g1,g2,g3]
     simp only[bP,Bool.and_true,Bool.and_assoc]
    constructor
    ·intro h s hs
     obtain⟨j,hj,rfl⟩:=List.mem_iff_getElem.1 hs
     have:=h j (by omega) (by omega)
     unfold pylonref09_windows.ps at this
     rw[List.getD_eq_getElem?_getD,List.getElem?_eq_getElem hj] at this
     exact(hS _).2 this
    ·intro h j _ hj
     have hj' : j < t.f15.length:=by omega
     unfold pylonref09_windows.ps
     rw[List.getD_eq_getElem?_getD,List.getElem?_eq_getElem hj']
     exact(hS _).1 (h _ (List.getElem_mem hj'))
end Go.Proofs.YtcmhfcciapenfaaDoor.Pu
