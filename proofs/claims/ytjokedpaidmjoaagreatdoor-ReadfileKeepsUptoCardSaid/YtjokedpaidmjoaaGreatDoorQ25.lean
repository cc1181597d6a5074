/- A part of the proof. -/
import Derived.Test.YtjokedpaidmjoaaGreatDoorQ23
set_option linter.all false
namespace Go.Proofs.YtjokedpaidmjoaaGreatDoor.Pu
open Go Go.RowKit Go.Proofs.YtjokedpaidmjoaaGreatDoorW.PrintWords Go.Proofs.YtjokedpaidmjoaaGreatDoor.Pa
def jt:List (List UInt8) → List UInt8
 |[]=>[]
 |w :: r=>32 :: (w ++ jt r)
def jn:List (List UInt8) → List UInt8
 |[]=>[]
 |w :: r=>w ++ jt r
theorem jt_jn {r:List (List UInt8)} (h:r≠[]):jt r=32 :: jn r:=by
 cases r with
 |nil=>exact absurd rfl h
 |cons w r=>rfl
theorem jt_len (l:List (List UInt8)):(jt l).length=tot l:=by
 induction l with
 |nil=>rfl
 |cons w r ih=>simp only[jt,List.length_cons,List.length_append,ih,dZ];omega
theorem wd_join (l:List UInt8) : ∀ (st:Option (List UInt8)) (at_:Nat) (ws:List (List UInt8)),wd l st at_ = .ok ws → st≠some [] → (st.getD []) ++ l=jn ws∧ws≠[]∧∀ v∈ws,v≠[]:=by
 induction l with
 |nil=>
  intro st at_ ws h hs
  cases st with
  |none=>simp[wd] at h
  |some cur=>
   simp only[wd,Except.ok.injEq] at h
   subst h
   have hc:cur≠[]:=fun e=>hs (by rw[e])
   simp[jn,jt,hc]
 |cons c r ih=>
  intro st at_ ws h hs
  cases st with
  |none=>
   simp only[wd] at h
   split at h
   ·have:=ih _ _ _ h (by simp)
    simpa using this
   ·cases h
  |some cur=>
   simp only[wd] at h
   have hc:cur≠[]:=fun e=>hs (by rw[e])
   split at h
   ·have:=ih _ _ _ h (by simp)
    simpa using this
   ·split at h
    ·rename_i h32
     split at h
     ·rename_i vs hv
      simp only[Except.ok.injEq] at h
      subst h
      obtain⟨h1,h2,h3⟩:=ih _ _ _ hv (by simp)
      simp only[Option.getD_none,List.nil_append] at h1
      refine⟨?_,by simp,?_⟩
      ·simp only[Option.getD_some,jn]
       rw[jt_jn h2,h32,h1]
      ·intro v hv
       rcases List.mem_cons.1 hv with rfl|hv
       ·exact hc
       ·exact h3 v hv
     ·cases h
    ·cases h
theorem jn_len {l:List (List UInt8)} (h:l≠[]):(jn l).length+1=tot l:=by
 cases l with
 |nil=>exact absurd rfl h
 |cons w r=>simp only[jn,List.length_append,jt_len,dZ];omega
theorem mem_tot {l:List (List UInt8)} {w:List UInt8} (h:w∈l):w.length+1≤tot l:=by
 induction l with
 |nil=>cases h
 |cons a r ih=>
  rw[dZ]
  rcases List.mem_cons.1 h with rfl|h
  ·omega
  ·have:=ih h;omega
theorem toB_Bs' (w:List UInt8):Bs (toB w)=w:=by simp[Bs,toB]
theorem ws_ok {a:ByteArray} (h:(WS a).2.2=0):(WS a).1≠[]∧(WS a).2.1=0∧tot ((WS a).1.map Bs)=a.size+1∧(WS a).1.length≤a.size+1∧∀ w∈(WS a).1,w.size≤a.size∧w.size≠0:=by
 unfold WS at h ⊢
 cases hw:wd (Bs a) none 0 with
 |error c=>rw[hw] at h;simp[res] at h
 |ok vs=>
  obtain⟨h1,h2,h3⟩:=wd_join _ _ _ _ hw (by simp)
  have hl:=jn_len h2
  rw[← h1] at hl
  simp only[Option.getD_none,List.nil_append,ai] at hl
  simp only[res,List.nil_append]
  have e:(vs.map toB).map Bs=vs:=by
   rw[List.map_map]
   have:(Bs ∘ toB)=id:=funext toB_Bs'
   rw[this,List.map_id]
  have hn:=tot_len vs
  refine⟨by simpa using h2,trivial,by rw[e,hl],by rw[List.length_map];omega,fun w hw=>?_⟩
  obtain⟨v,hv,rfl⟩:=List.mem_map.1 hw
  have sz:(toB v).size=v.length:=by rw[← ai,toB_Bs']
  rw[sz]
  have:=mem_tot hv
  have:=List.length_pos_iff.2 (h3 v hv)
  omega
theorem lf_sz (l:List UInt8) : ∀ (cur:List UInt8) (vs:List (List UInt8)),lf l cur = .ok vs → vs.length≤l.length∧∀ v∈vs,v.length≤cur.length+l.length:=by
 induction l with
 |nil=>
  intro cur vs h
  cases cur with
  |nil=>simp[lf] at h;subst h;simp
  |cons x y=>simp[lf] at h
 |cons c r ih=>
  intro cur vs h
  simp only[lf] at h
  split at h
  ·split at h
   ·rename_i ls e
    cases h
    obtain⟨h1,h2⟩:=ih _ _ e
    refine⟨by simp;omega,fun v hv=>?_⟩
    rcases List.mem_cons.1 hv with rfl|hv
    ·simp
    ·have:=h2 v hv;simp at this ⊢;omega
   ·cases h
  ·obtain⟨h1,h2⟩:=ih _ _ h
   refine⟨by simp;omega,fun v hv=>?_⟩
   have:=h2 v hv
   simp at this ⊢
   omega
theorem dH (a:ByteArray) (h:a.size≤1048576):(aC a).length≤1048576∧∀ w∈aC a,w.size≤1048576:=by
 have hs:(a.extract 0 (cutN a)).size≤1048576:=by
  rw[ByteArray.size_extract]
  have:=cutN_le a
  omega
 unfold aC LS
 rw[if_neg (by omega)]
 cases e:lf (Bs (a.extract 0 (cutN a))) [] with
 |error c=>simp[lres]
 |ok vs=>
  obtain⟨h1,h2⟩:=lf_sz _ _ _ e
  rw[ai] at h1 h2
  simp only[lres,List.nil_append]
  refine⟨by rw[List.length_map];omega,fun w hw=>?_⟩
  obtain⟨v,hv,rfl⟩:=List.mem_map.1 hw
  have:=h2 v hv
  have sz:(toB v).size=v.length:=by rw[← ai,toB_Bs']
  simp at this
  omega
end Go.Proofs.YtjokedpaidmjoaaGreatDoor.Pu
